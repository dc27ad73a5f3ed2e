/- What the row's list of laid variables says of the world: TG. -/
import Derived.Test.YtocadlecfddbcaaGreatDoorGWorld
import Derived.Test.YtocadlecfddbcaaGreatDoorRows
import Derived.Lib.LaidU8
import Derived.Stop.LaidErr
import Derived.MakeChecks
namespace Go.Proofs.YtocadlecfddbcaaGreatDoor
open Go.RowKit Go.Lib
set_option linter.unusedVariables false
theorem tab_reads {P : Program} {W : World} {name : String} {k : IntKind} {zs : List Int} {g : Nat} {t e : TypeId} {n : Nat}
    (hg : P.globalNamed name = some g) (hty : (P.globals[g]?).map (·.type) = some t) (ht : P.underlying t = some (.array n e)) (he : P.underlying e = some (.int k)) (hce : P.cellsOf e = 1) (hct : P.cellsOf t = n)
    (h : VarReads P W name (tabData k zs)) : TabIs P W name k zs := by
  obtain ⟨g', t', cs, fuel, p, hg', ht', hvar, hd⟩ := h
  obtain rfl := Option.some.inj (hg.symm.trans hg')
  obtain rfl := Option.some.inj (hty.symm.trans ht')
  unfold TabIs
  rw [hvar, ← cells_of_tab ht he hce hct hd]
theorem int_of_shape {P : Program} {w : World} {g : Nat} {t : TypeId} {k : IntKind} {zero : Array Value} (h : w.ShapedOpen P) (hg : g < P.globals.size)
    (h0 : ((begin P (fun _ _ => 0) default).world.heap[g]?).bind Obj.row? = some (zero, t)) (hz : zero.size = 1)
    (hb : P.buildable t = true) (hc : P.cellTypes P.depth t = some [t]) (hu : P.underlying t = some (.int k)) : ∃ m, w.cell? ⟨g, 0, none⟩ = some (.int k m) := by
  obtain ⟨cs, hh, hs, hr⟩ := h.1 g zero t hg h0
  obtain ⟨ts, hts, _, hall⟩ := hr hb
  rw [hc] at hts
  cases hts
  have h1 : 0 < cs.size := by omega
  obtain ⟨u, hu', hok⟩ := hall 0 cs[0] (by simp [h1])
  have : u = t := by simpa using hu'.symm
  subst this
  have hcell : w.cell? ⟨g, 0, none⟩ = some cs[0] := by simp [World.cell?, hh, h1]
  rw [hcell]
  unfold Cell.ok at hok
  rw [hu] at hok
  cases hv : cs[0] <;> rw [hv] at hok <;> first | (obtain ⟨e, _⟩ := hok; subst e; exact ⟨_, rfl⟩) | simp at hok
theorem g0 : Tryz.prog.globalNamed "strings.asciiSpace" = some 0 := by kernel_rfl
theorem y0 : (Tryz.prog.globals[0]?).map (·.type) = some 82 := by kernel_rfl
theorem g1 : Tryz.prog.globalNamed "unicode.White_Space" = some 1 := by kernel_rfl
theorem y1 : (Tryz.prog.globals[1]?).map (·.type) = some 103 := by kernel_rfl
theorem g3 : Tryz.prog.globalNamed "strconv.ErrSyntax" = some 3 := by kernel_rfl
theorem y3 : (Tryz.prog.globals[3]?).map (·.type) = some 66 := by kernel_rfl
theorem g4 : Tryz.prog.globalNamed "strconv.ErrRange" = some 4 := by kernel_rfl
theorem y4 : (Tryz.prog.globals[4]?).map (·.type) = some 66 := by kernel_rfl
theorem g5 : Tryz.prog.globalNamed "internal/strconv.uint64pow10" = some 5 := by kernel_rfl
theorem y5 : (Tryz.prog.globals[5]?).map (·.type) = some 143 := by kernel_rfl
theorem whiteX : WhiteExtra Tryz.prog Tryz.lays199_ren := { n6 := by kernel_rfl, y6 := by kernel_rfl, c3 := by kernel_rfl, c49 := by kernel_rfl, c193 := by kernel_rfl, c194 := by kernel_rfl, c196 := by kernel_rfl, c198 := by kernel_rfl }
theorem star : "*errors.errorString" = "*" ++ "errors.errorString" := by decide +kernel
theorem row173 (u : TypeId) (h : Tryz.prog.typeName? 3 u = some "*errors.errorString") : u = 154 :=
  typeName_ptr_named (nm := "errors.errorString") (by rw [← star]; kernel_rfl) (by kernel_rfl) (by decide) u (by rw [← star]; exact h)
theorem data0 : (Rows.laid_strings_asciiSpace : DataW Unit) = tabData .u8 asciiSpaceTab := by kernel_rfl
theorem data1 : (Rows.laid_unicode_White_Space : DataW Unit) = whiteData := by kernel_rfl
theorem data5 : (Rows.laid_internal_strconv_uint64pow10 : DataW Unit) = tabData .u64 pow10Tab := by kernel_rfl
theorem TG_of_laid {W : World} (hL : laidMetH Tryz.prog Rows.claimsAnswersRow.laid W) (hS : W.ShapedOpen Tryz.prog) : TG W := by
  rw [MakeChecks.laidMetH_plain _ _ _ (by kernel_rfl)] at hL
  have r0 : VarReads Tryz.prog W "strings.asciiSpace" (tabData .u8 asciiSpaceTab) := laidMet.reads hL (by rw [← data0]; simp [Rows.claimsAnswersRow])
  have r1 : VarReads Tryz.prog W "unicode.White_Space" whiteData := laidMet.reads hL (by rw [← data1]; simp [Rows.claimsAnswersRow])
  have r5 : VarReads Tryz.prog W "internal/strconv.uint64pow10" (tabData .u64 pow10Tab) := laidMet.reads hL (by rw [← data5]; simp [Rows.claimsAnswersRow])
  have l4 : laidMet Tryz.prog (("strconv.ErrRange", Rows.laid_strconv_ErrRange) :: ("strconv.ErrSyntax", Rows.laid_strconv_ErrSyntax) :: [("unicode.White_Space", Rows.laid_unicode_White_Space), ("strings.asciiSpace", Rows.laid_strings_asciiSpace)]) W := laidMet.tail (laidMet.tail (laidMet.tail hL))
  obtain ⟨a4, s4, hv4, _⟩ := laid_sentinel l4 g4 y4 Tryz.underlying66 row173 Tryz.underlying154 Tryz.underlying156 rfl rfl Tryz.underlying9 (by kernel_rfl) (by kernel_rfl)
  obtain ⟨a3, s3, hv3, _⟩ := laid_sentinel (laidMet.tail l4) g3 y3 Tryz.underlying66 row173 Tryz.underlying154 Tryz.underlying156 rfl rfl Tryz.underlying9 (by kernel_rfl) (by kernel_rfl)
  exact ⟨tab_reads g0 y0 Tryz.underlying82 Tryz.underlying5 (by kernel_rfl) (by kernel_rfl) r0, whiteTab_of_reads Tryz.lays199 whiteX r1,
    int_of_shape hS (by decide +kernel) (show _ = some (#[.int .i64 0], 3) by kernel_rfl) rfl (by kernel_rfl) (by kernel_rfl) Tryz.underlying3,
    ⟨_, _, hv3⟩, ⟨_, _, hv4⟩, tab_reads g5 y5 Tryz.underlying143 Tryz.underlying98 (by kernel_rfl) (by kernel_rfl) r5⟩
end Go.Proofs.YtocadlecfddbcaaGreatDoor
