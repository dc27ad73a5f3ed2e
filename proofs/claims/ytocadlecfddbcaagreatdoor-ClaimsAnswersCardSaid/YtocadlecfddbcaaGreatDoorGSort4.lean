/- slices.Clone, and claims.Sorted. -/
import Derived.Test.YtocadlecfddbcaaGreatDoorGSort3
import Derived.Shelf.SlSortCmp.NoneTotal
import Derived.Lib.SliceRun
namespace Go.Proofs.YtocadlecfddbcaaGreatDoor.QClaims
open Go.RowKit Go.Proofs.YtocadlecfddbcaaGreatDoorW.PrintWords Go.Proofs.YtocadlecfddbcaaGreatDoorW.PrintLast Go.Proofs.YtocadlecfddbcaaGreatDoorW.PrintMore
set_option linter.unusedVariables false
set_option linter.unusedSimpArgs false

theorem encs_one (l : List S24) : ∀ u ∈ encs l, u.oneCell' = true := by
  intro u hu
  obtain ⟨x, _, h⟩ := List.mem_flatMap.1 hu
  simp at h
  rcases h with rfl | rfl <;> rfl
/-- The cells of a row that is read. -/
theorem C_cells {w : World} {ad : Addr} {l : List S24} (h : Kd.C k24 w (some ad) l.length l) : ∀ j u, (encs l)[j]? = some u → w.cell? (ad.add j) = some u := by
  intro j u hu
  have hj : j < l.length * 2 := by rw [← encs_length]; exact (List.getElem?_eq_some_iff.1 hu).1
  obtain ⟨hn, hb, h3⟩ := h
  obtain ⟨ad', e, hc⟩ := h3 (by omega)
  obtain rfl := Option.some.inj e
  have hj2 : j / 2 < l.length := by omega
  obtain ⟨c, hcl, hK, hcell⟩ := hc (j / 2) _ (List.getElem?_eq_getElem hj2)
  obtain rfl := k24_open hK
  have hg := encs_get l [] (j / 2) hj2
  rw [List.append_nil] at hg
  have hr : rd_T24 l ((j / 2 : Nat) : Int) = l[j / 2] := by unfold rd_T24; rw [Int.toNat_natCast, List.getD_eq_getElem?_getD, List.getElem?_eq_getElem hj2]; rfl
  rw [hr] at hg
  have ej : j = j / 2 * k24.sz + j % 2 := by rw [show k24.sz = 2 from rfl]; omega
  rw [show ad.add j = ad.add (j / 2 * k24.sz + j % 2) from by rw [← ej]]
  apply hcell
  have ej2 : j = j / 2 * 2 + j % 2 := by omega
  rcases (by omega : j % 2 = 0 ∨ j % 2 = 1) with q | q
  · rw [q] at ej2 ⊢
    rw [Nat.add_zero] at ej2
    rw [← ej2, hu] at hg
    exact hg.1.symm
  · rw [q] at ej2 ⊢
    rw [← ej2, hu] at hg
    exact hg.2.symm
theorem RowB.of_owns {base : Nat} {w0 w : World} {v : Value} {l : List S24} (h : w.ownsRow base 24 2 v l.length (encs l)) (hb : Below base w0 w) (hv : v ≠ .slice none 0 0) :
    ∃ g cap rest, v = .slice (some ⟨g, 0, none⟩) l.length cap ∧ RowB base w0 w g cap (encs l ++ rest) ∧ l.length ≤ cap := by
  obtain ⟨h1, ⟨rfl, _⟩ | ⟨g, cap, cur, rfl, hlo, hblk, hnc, hcm, hcs, ht⟩⟩ := h
  · exact absurd rfl hv
  · refine ⟨g, cap, cur.toList.drop (l.length * 2), rfl, ⟨hlo, ?_, hb, ?_, hcm⟩, hnc⟩
    · rw [← ht, List.take_append_drop]; simpa using hblk
    · rw [← ht, List.take_append_drop]; simpa using hcs
set_option maxRecDepth 100000 in
set_option maxHeartbeats 2000000 in
theorem clone37_calls (ad : Addr) (c : Nat) (l : List S24) (w : World) (hr : Kd.C k24 w (some ad) l.length l) (hl : l.length ≤ 1000000) :
    Calls Tryz.prog 43 #[.slice (some ad) l.length c] w fun e w' => ∃ g cap rest, e = .returned (.slice (some ⟨g, 0, none⟩) l.length cap) ∧ RowB w.heap.size w w' g cap (encs l ++ rest) ∧ l.length ≤ cap := by
  have hu52 := Tryz.underlying24
  have q38 : ∀ (w : World) (a : Option Addr) (n c n' c' : Nat), (binOp .eql 25 (.slice a n c) (.slice none n' c')).run Tryz.prog w = .ok (.bool a.isNone) w := fun w a n c n' c' => Lib.run_eql_slice_nil w _ _ a n c n' c' Tryz.underlying25
  have A := Aside0.mk (C_cells hr)
  clear hr
  obtain ⟨i0, hi, hzz⟩ := Option.map_eq_some_iff.1 info24
  simp only [Prod.mk.injEq] at hzz
  obtain ⟨hz0, hz1, hz2⟩ := hzz
  have hz0' := Aside0.mk hz0; have hz1' := Aside0.mk hz1; have hz2' := Aside0.mk hz2; have hi' := Aside0.mk hi
  clear hz0 hz1 hz2 hi
  go_enter Tryz.func43, Tryz.ntmps43
  go_wp2_with (at_builtin; refine wpList_append_own _ rfl _ _ 25 rfl w.heap.size 24 i0 _ 2 16 Tryz.underlying25 hi'.out hz0'.out hz1'.out hz2'.out rfl (by decide) _ _ _ rfl (World.ownsRow_made w #[] 0 (Nat.le_refl _) (Nat.zero_le _) (by simp)) ad l.length c (encs l) rfl ?qc1 ?qc2 ?qc3 ?qc4 ?qc5 ?qc6 ?_)
  case qc1 => exact encs_length l
  case qc2 =>
    intro j u hj
    exact Lib.cell?_alloc_some _ (A.out j u hj)
  case qc3 => exact encs_one l
  case qc4 => unfold maxLen; omega
  case qc5 => omega
  case qc6 => simp
  intro v' w1 hown hgrow hnil
  go_wp2
  go_ret
  obtain ⟨g, cap, rest, rfl, h1, h2⟩ := RowB.of_owns (w0 := w) (by simpa using hown) (((Below.refl _ w).alloc (Nat.le_refl _) _).grown hgrow (by simp) (by intro k hk; simp [Value.ownBlock] at hk; omega)) hnil
  exact ⟨g, cap, rest, rfl, h1, h2⟩
end Go.Proofs.YtocadlecfddbcaaGreatDoor.QClaims
