/- What the row's list of laid variables says of the world: TG. -/
import Derived.Test.YtocadlecfddbcaaDoorGWorld
import Derived.Test.YtocadlecfddbcaaDoorRows
import Derived.Lib.LaidU8
import Derived.Stop.LaidErr
import Derived.MakeChecks
namespace Go.Proofs.YtocadlecfddbcaaDoor
open Go.RowKit Go.Lib
set_option linter.unusedVariables false
theorem tab_reads {P : Program} {W : World} {name : String} {k : IntKind} {zs : List Int} {g : Nat} {t e : TypeId} {n : Nat}
    (hg : P.globalNamed name = some g) (hty : (P.globals[g]?).map (·.type) = some t) (ht : P.underlying t = some (.array n e)) (he : P.underlying e = some (.int k)) (hce : P.cellsOf e = 1) (hct : P.cellsOf t = n)
    (h : VarReads P W name (tabData k zs)) : TabIs P W name k zs := by
  obtain ⟨g', t', cs, fuel, p, hg', ht', hvar, hd⟩ := h
  obtain rfl := Option.some.inj (hg.symm.trans hg')
  obtain rfl := Option.some.inj (hty.symm.trans ht')
  unfold TabIs
  rw [hvar, ← cells_of_tab ht he hce hct hd]
theorem int_of_shape {P : Program} {w : World} {g : Nat} {t : TypeId} {k : IntKind} {zero : Array Value} (h : w.ShapedOpen P) (hg : g < P.globals.size)
    (h0 : ((begin P (fun _ _ => 0) default).world.heap[g]?).bind Obj.row? = some (zero, t)) (hz : zero.size = 1)
    (hb : P.buildable t = true) (hc : P.cellTypes P.depth t = some [t]) (hu : P.underlying t = some (.int k)) : ∃ m, w.cell? ⟨g, 0, none⟩ = some (.int k m) := by
  obtain ⟨cs, hh, hs, hr⟩ := h.1 g zero t hg h0
  obtain ⟨ts, hts, _, hall⟩ := hr hb
  rw [hc] at hts
  cases hts
  have h1 : 0 < cs.size := by omega
  obtain ⟨u, hu', hok⟩ := hall 0 cs[0] (by simp [h1])
  have : u = t := by simpa using hu'.symm
  subst this
  have hcell : w.cell? ⟨g, 0, none⟩ = some cs[0] := by simp [World.cell?, hh, h1]
  rw [hcell]
  unfold Cell.ok at hok
  rw [hu] at hok
  cases hv : cs[0] <;> rw [hv] at hok <;> first | (obtain ⟨e, _⟩ := hok; subst e; exact ⟨_, rfl⟩) | simp at hok
theorem g0 : Tryd.prog.globalNamed "strings.asciiSpace" = some 0 := by kernel_rfl
theorem y0 : (Tryd.prog.globals[0]?).map (·.type) = some 94 := by kernel_rfl
theorem g1 : Tryd.prog.globalNamed "unicode.White_Space" = some 1 := by kernel_rfl
theorem y1 : (Tryd.prog.globals[1]?).map (·.type) = some 123 := by kernel_rfl
theorem g3 : Tryd.prog.globalNamed "strconv.ErrSyntax" = some 3 := by kernel_rfl
theorem y3 : (Tryd.prog.globals[3]?).map (·.type) = some 78 := by kernel_rfl
theorem g4 : Tryd.prog.globalNamed "strconv.ErrRange" = some 4 := by kernel_rfl
theorem y4 : (Tryd.prog.globals[4]?).map (·.type) = some 78 := by kernel_rfl
theorem g5 : Tryd.prog.globalNamed "internal/strconv.uint64pow10" = some 5 := by kernel_rfl
theorem y5 : (Tryd.prog.globals[5]?).map (·.type) = some 177 := by kernel_rfl
theorem whiteX : WhiteExtra Tryd.prog Tryd.lays199_ren := { n6 := by kernel_rfl, y6 := by kernel_rfl, c3 := by kernel_rfl, c49 := by kernel_rfl, c193 := by kernel_rfl, c194 := by kernel_rfl, c196 := by kernel_rfl, c198 := by kernel_rfl }
theorem star : "*errors.errorString" = "*" ++ "errors.errorString" := by decide +kernel
theorem row173 (u : TypeId) (h : Tryd.prog.typeName? 3 u = some "*errors.errorString") : u = 173 :=
  typeName_ptr_named (nm := "errors.errorString") (by rw [← star]; kernel_rfl) (by kernel_rfl) (by decide) u (by rw [← star]; exact h)
theorem data0 : (Rows.laid_strings_asciiSpace : DataW Unit) = tabData .u8 asciiSpaceTab := by kernel_rfl
theorem data1 : (Rows.laid_unicode_White_Space : DataW Unit) = whiteData := by kernel_rfl
theorem data5 : (Rows.laid_internal_strconv_uint64pow10 : DataW Unit) = tabData .u64 pow10Tab := by kernel_rfl
theorem TG_of_laid {W : World} (hL : laidMetH Tryd.prog Rows.claimsUnionRow.laid W) (hS : W.ShapedOpen Tryd.prog) : TG W := by
  rw [MakeChecks.laidMetH_plain _ _ _ (by kernel_rfl)] at hL
  have r0 : VarReads Tryd.prog W "strings.asciiSpace" (tabData .u8 asciiSpaceTab) := laidMet.reads hL (by rw [← data0]; simp [Rows.claimsUnionRow])
  have r1 : VarReads Tryd.prog W "unicode.White_Space" whiteData := laidMet.reads hL (by rw [← data1]; simp [Rows.claimsUnionRow])
  have r5 : VarReads Tryd.prog W "internal/strconv.uint64pow10" (tabData .u64 pow10Tab) := laidMet.reads hL (by rw [← data5]; simp [Rows.claimsUnionRow])
  have l4 : laidMet Tryd.prog (("strconv.ErrRange", Rows.laid_strconv_ErrRange) :: ("strconv.ErrSyntax", Rows.laid_strconv_ErrSyntax) :: [("unicode.White_Space", Rows.laid_unicode_White_Space), ("strings.asciiSpace", Rows.laid_strings_asciiSpace)]) W := laidMet.tail (laidMet.tail (laidMet.tail hL))
  obtain ⟨a4, s4, hv4, _⟩ := laid_sentinel l4 g4 y4 Tryd.underlying78 row173 Tryd.underlying173 Tryd.underlying175 rfl rfl Tryd.underlying9 (by kernel_rfl) (by kernel_rfl)
  obtain ⟨a3, s3, hv3, _⟩ := laid_sentinel (laidMet.tail l4) g3 y3 Tryd.underlying78 row173 Tryd.underlying173 Tryd.underlying175 rfl rfl Tryd.underlying9 (by kernel_rfl) (by kernel_rfl)
  exact ⟨tab_reads g0 y0 Tryd.underlying94 Tryd.underlying5 (by kernel_rfl) (by kernel_rfl) r0, whiteTab_of_reads Tryd.lays199 whiteX r1,
    int_of_shape hS (by decide +kernel) (show _ = some (#[.int .i64 0], 3) by kernel_rfl) rfl (by kernel_rfl) (by kernel_rfl) Tryd.underlying3,
    ⟨_, _, hv3⟩, ⟨_, _, hv4⟩, tab_reads g5 y5 Tryd.underlying177 Tryd.underlying30 (by kernel_rfl) (by kernel_rfl) r5⟩
end Go.Proofs.YtocadlecfddbcaaDoor
