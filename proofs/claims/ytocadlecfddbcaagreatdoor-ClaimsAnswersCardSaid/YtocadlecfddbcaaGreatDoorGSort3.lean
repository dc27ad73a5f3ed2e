/- slices.SortFunc at claims.Compare. -/
import Derived.Test.YtocadlecfddbcaaGreatDoorGSort2
import Derived.Test.YtocadlecfddbcaaGreatDoorShelf
namespace Go.Proofs.YtocadlecfddbcaaGreatDoor.QClaims
open Go.RowKit Go.Proofs.YtocadlecfddbcaaGreatDoorW.PrintWords Go.Proofs.YtocadlecfddbcaaGreatDoorW.PrintLast Go.Proofs.YtocadlecfddbcaaGreatDoorW.PrintMore
set_option linter.unusedVariables false
set_option linter.unusedSimpArgs false

instance : Inhabited S24 := ⟨z24⟩
def encL (x : S24) : List Value := [.int .i64 x.f0, .int .i64 x.f1]
theorem arr_get (l : List S24) (j : Nat) : l.toArray[j]! = rd_T24 l (j : Int) := by
  unfold rd_T24
  rw [Int.toNat_natCast, List.getD_eq_getElem?_getD]
  simp [List.getElem!_eq_getElem?_getD]
  rfl
/-- What claims.Compare answers. -/
def cfC (x y : S24) : Int := if x.f0 < y.f0 then -1 else if y.f0 < x.f0 then 1 else if x.f1 < y.f1 then -1 else if y.f1 < x.f1 then 1 else 0
theorem cmp_f (a b : Int) : cmp_Compare_int.f a b = some (if a < b then -1 else if b < a then 1 else 0) := by
  unfold cmp_Compare_int.f cmp_isNaN_int.f
  simp
  repeat' split
  all_goals first | rfl | omega
theorem compare_f (x y : S24) : claims_Compare.f 4 x.f0 x.f1 y.f0 y.f1 = some (cfC x y) := by
  unfold claims_Compare.f cfC
  rw [cmp_f, cmp_f]
  simp only [Option.bind_some]
  repeat' split
  all_goals first | rfl | kernel_rfl
theorem cfC_lt (x y : S24) : Go.Proofs.ltOf cfC x y = decide (x.f0 < y.f0 ∨ x.f0 = y.f0 ∧ x.f1 < y.f1) := by
  unfold Go.Proofs.ltOf cfC
  apply decide_eq_decide.2
  repeat' split
  all_goals simp
  all_goals omega
theorem cfC_swo : Go.Sort.SWO (Go.Proofs.ltOf cfC) where
  irrefl x := by rw [cfC_lt]; simp
  trans x y z h1 h2 := by rw [cfC_lt, decide_eq_true_eq] at *; omega
  ntrans x y z h1 h2 := by rw [cfC_lt, decide_eq_false_iff_not] at *; omega
theorem agg52 (w : World) : (isAgg 24).run Tryz.prog w = .ok true w := by kernel_rfl
theorem size52 (w : World) : (Go.sizeOf 24).run Tryz.prog w = .ok 2 w := by kernel_rfl
theorem flat_get (l : List S24) (rest : List Value) (j : Nat) (h : j < l.length * 2) : (encs l ++ rest)[j]? = some ((Go.Sort.flatK encL 2 l.toArray)[j]!) := by
  rw [Go.Sort.get_flatK encL 2 l.toArray j (by simpa using h), arr_get]
  obtain ⟨h0, h1⟩ := encs_get l rest (j / 2) (by omega)
  have e : j = j / 2 * 2 + j % 2 := by omega
  rcases (by omega : j % 2 = 0 ∨ j % 2 = 1) with q | q
  · rw [q] at e ⊢
    rw [Nat.add_zero] at e
    rw [← e] at h0
    exact h0
  · rw [q] at e ⊢
    rw [← e] at h1
    exact h1
theorem put_flat (l l' : List S24) (rest : List Value) (h : l'.length = l.length) : Go.Sort.putCells id 0 (Go.Sort.flatK encL 2 l'.toArray) (encs l ++ rest).toArray = (encs l' ++ rest).toArray := by
  unfold Go.Sort.putCells
  apply Array.ext_getElem?
  intro j
  rw [Array.getElem?_mapIdx]
  simp only [List.getElem?_toArray, Go.Sort.size_flatK, List.size_toArray, Nat.zero_le, Nat.zero_add, true_and, Nat.sub_zero, id_eq]
  rcases Nat.lt_or_ge j (l.length * 2) with q | q
  · rw [flat_get l rest j q, flat_get l' rest j (by omega)]
    simp [h, q]
  · rw [List.getElem?_append_right (by rw [encs_length]; omega), List.getElem?_append_right (by rw [encs_length]; omega), encs_length, encs_length, h]
    have hn : ¬ j < l.length * 2 := by omega
    simp [hn]
theorem RowB.sorted {base : Nat} {w0 w : World} {g cap : Nat} {l l' : List S24} {rest : List Value} (h : RowB base w0 w g cap (encs l ++ rest)) (hB : base ≤ w.heap.size) (hl : l'.length = l.length) (n : Nat) (os : Array Obj) :
    RowB base w0 (Go.Proofs.sortWorldK encL 2 w g 0 n l'.toArray os) g cap (encs l' ++ rest) ∧ base ≤ (Go.Proofs.sortWorldK encL 2 w g 0 n l'.toArray os).heap.size := by
  have hblk := h.blk
  have hlt := h.lt
  unfold Go.Proofs.sortWorldK Go.Sort.putRowK Go.Sort.putRow Go.Sort.mapBlock Go.Sort.ahead
  refine ⟨⟨h.lo, ?_, ?_, by have := h.len; rw [List.length_append, encs_length] at this ⊢; rw [hl]; exact this, h.cap⟩, by simp; omega⟩
  · rw [Go.Sort.heap_grow_old _ _ (by simpa using hlt)]
    simp only [Array.getElem?_modify, if_true, hblk, Option.map_some, Go.Sort.onCells, put_flat l l' rest hl]
  · refine h.bel.trans ⟨rfl, rfl, rfl, by simp, fun k hk => ?_⟩
    rw [Go.Sort.heap_grow_old _ _ (by simp; omega)]
    simp only [Array.getElem?_modify]
    rw [if_neg (by have := h.lo; omega)]
set_option maxHeartbeats 1000000 in
theorem sort40_calls (base : Nat) (w0 w : World) (g cap : Nat) (l : List S24) (rest : List Value) (hR : RowB base w0 w g cap (encs l ++ rest)) (hB : base ≤ w.heap.size) (hl : l.length ≤ 1000000) :
    Calls Tryz.prog 45 #[.slice (some ⟨g, 0, none⟩) l.length cap, .func (.func 13) #[] #[]] w fun e w' => e = .returned (.tuple #[]) ∧ base ≤ w'.heap.size ∧ ∃ l' : List S24, l'.Perm l ∧ (∀ i j : Nat, i < j → j < l'.length → Go.Proofs.ltOf cfC (rd_T24 l' (j : Int)) (rd_T24 l' (i : Int)) = false) ∧ RowB base w0 w' g cap (encs l' ++ rest) := by
  have eg : ∀ args w, (callFunc 13 args).run Tryz.prog w = .ok (.enter 13 args) w := enters_of Tryz.func13 (by kernel_rfl) rfl
  have hcmp : Go.Proofs.CmpLays Tryz.prog 13 #[] encL 2 cfC g 0 l.toArray.size w := fun _ _ _ _ x y => claims_Compare.grows 4 _ _ _ _ _ _ (compare_f x y)
  have hH : Go.Sort.HoldsK encL 2 w g 0 l.toArray := fun j hj => by
    rw [Go.Sort.size_flatK, List.size_toArray] at hj
    refine ⟨?_, hR.frozenAt _⟩
    rw [hR.cellAt, Nat.zero_add, flat_get l rest j hj]
    rfl
  have hcon := Go.Proofs.AnyQ.slices_SortFunc Go.Proofs.Tryz.sortC 2 agg52 size52 encL (fun _ => rfl) (fun x v hv => by simp [encL] at hv; rcases hv with rfl | rfl <;> rfl) cfC cfC_swo 13 #[] g 0 cap l.toArray w eg hcmp hH hR.lt (by simp; omega)
  rw [List.size_toArray] at hcon
  refine Calls.mono hcon ?_
  rintro e w' ⟨rfl, d', n, os, hp, hs, rfl⟩
  obtain ⟨l', rfl⟩ : ∃ l' : List S24, d' = l'.toArray := ⟨d'.toList, by simp⟩
  obtain ⟨hp1, _, hp3⟩ := hp
  have hll : l'.length = l.length := by simpa using hp1
  obtain ⟨r1, r2⟩ := hR.sorted hB hll n os
  refine ⟨rfl, r2, l', ?_, fun i j hij hj => ?_, r1⟩
  · have : (l'.toArray.extract 0 l.length).toList = l' := by simp [← hll]
    rw [this] at hp3
    simpa using hp3
  · have := hs i j (Nat.zero_le _) hij (by omega)
    rwa [arr_get, arr_get] at this
end Go.Proofs.YtocadlecfddbcaaGreatDoor.QClaims
