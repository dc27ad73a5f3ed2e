/- claims.Union. -/
import Derived.Test.YtocadlecfddbcaaGreatDoorGConcat
namespace Go.Proofs.YtocadlecfddbcaaGreatDoor.QClaims
open Go.RowKit Go.Proofs.YtocadlecfddbcaaGreatDoorW.PrintWords Go.Proofs.YtocadlecfddbcaaGreatDoorW.PrintLast Go.Proofs.YtocadlecfddbcaaGreatDoorW.PrintMore
set_option linter.unusedVariables false
set_option linter.unusedSimpArgs false

theorem add_off0 (b o j : Nat) : (⟨b, o, none⟩ : Addr).add j = ⟨b, o + j, none⟩ := by unfold Addr.add; split <;> simp_all
theorem owns_reads {base : Nat} {w : World} {v : Value} {l : List S24} (h : w.ownsRow base 24 2 v l.length (encs l)) : ∃ A c, v = .slice A l.length c ∧ l.length ≤ c ∧ Kd.C k24 w A l.length l := by
  by_cases hv : v = .slice none 0 0
  · subst hv
    obtain ⟨h1, ⟨_, h0⟩ | ⟨g, cap, cur, e, _⟩⟩ := h
    · have : l = [] := List.length_eq_zero_iff.1 h0
      subst this
      exact ⟨none, 0, rfl, Nat.le_refl _, rfl, by simp, fun h => absurd h (Nat.lt_irrefl _)⟩
    · simp at e
  · obtain ⟨g, cap, rest, e, hR, hc⟩ := RowB.of_owns h (Below.refl base w) hv
    exact ⟨_, cap, e, hc, hR.reads⟩
def claims_Union.f (l0 l1 : List S24) : Option (List S24) := if l0.length + l1.length ≤ 1000000 then some (canon (l0 ++ l1)) else none
set_option maxRecDepth 100000 in
set_option maxHeartbeats 2000000 in
theorem claims_Union.calls (A0 : Option Addr) (c0 : Nat) (l0 : List S24) (A1 : Option Addr) (c1 : Nat) (l1 : List S24) (r : List S24) (w : World) (hr0 : Kd.C k24 w A0 l0.length l0) (hc0 : l0.length ≤ c0) (hr1 : Kd.C k24 w A1 l1.length l1) (hc1 : l1.length ≤ c1) (h : claims_Union.f l0 l1 = some r) :
    Calls Tryz.prog 27 #[.slice A0 l0.length c0, .slice A1 l1.length c1] w fun e w' => ∃ v0_ : Value, e = .returned (v0_) ∧ Kd.R k24 24 w' w.heap.size (fun _ => True) v0_ r ∧ Below w.heap.size w w' := by
  unfold claims_Union.f at h
  split at h
  case isFalse => cases h
  rename_i hl
  obtain rfl := Option.some.inj h
  clear h
  have HL := Aside0.mk hl; clear hl
  have HR0 := Aside0.mk hr0; clear hr0
  have HR1 := Aside0.mk hr1; clear hr1
  have HC0 := Aside0.mk hc0; clear hc0
  have HC1 := Aside0.mk hc1; clear hc1
  have hu52 := Tryz.underlying24
  have hC : Kd.C (Kd.slice 24 k24) (w.alloc (.cells #[.slice A0 l0.length c0, .slice A1 l1.length c1] 25)) (some ⟨w.heap.size, 0, none⟩) 2 [l0, l1] := by
    refine ⟨rfl, by omega, fun _ => ⟨_, rfl, fun j p hj => ?_⟩⟩
    have hcell : ∀ i u, (#[Value.slice A0 l0.length c0, Value.slice A1 l1.length c1] : Array Value)[i]? = some u → (w.alloc (.cells #[.slice A0 l0.length c0, .slice A1 l1.length c1] 25)).cell? ((⟨w.heap.size, 0, none⟩ : Addr).add i) = some u := by
      intro i u hu
      rw [add_off0, Nat.zero_add, cell_of_row _ _ _ _ 25 (0, 0) (heap_alloc_new w _)]
      exact hu
    match j, hj with
    | 0, hj =>
      obtain rfl : l0 = p := by simpa using hj
      refine ⟨_, rfl, ⟨A0, c0, rfl, HC0.out, Kd.C_alloc HR0.out _⟩, fun i u hu => ?_⟩
      match i, hu with
      | 0, hu => exact hcell 0 u (by simpa using hu)
    | 1, hj =>
      obtain rfl : l1 = p := by simpa using hj
      refine ⟨_, rfl, ⟨A1, c1, rfl, HC1.out, Kd.C_alloc HR1.out _⟩, fun i u hu => ?_⟩
      match i, hu with
      | 0, hu => exact hcell 1 u (by simpa using hu)
    | j + 2, hj => simp at hj
  have h50 := concat50_calls (fun n w hn => grow69_calls n w hn) (some ⟨w.heap.size, 0, none⟩) 2 [l0, l1] _ hC (by simp) (by simpa using HL.out)
  have h50' : Calls Tryz.prog 47 #[.slice (some ⟨w.heap.size, 0, none⟩) 2 2] (w.alloc (.cells #[.slice A0 l0.length c0, .slice A1 l1.length c1] 25)) fun e w' => ∃ A c, e = .returned (.slice A (l0 ++ l1).length c) ∧ (l0 ++ l1).length ≤ c ∧ Kd.C k24 w' A (l0 ++ l1).length (l0 ++ l1) ∧ Below w.heap.size w w' := by
    refine Calls.mono h50 ?_
    rintro e w' ⟨v, rfl, ho, hb⟩
    rw [show [l0, l1].flatten = l0 ++ l1 by simp] at ho
    obtain ⟨A, c, rfl, hc, hC⟩ := owns_reads ho
    exact ⟨A, c, rfl, hc, hC, ((Below.refl _ w).alloc (Nat.le_refl _) _).trans (hb.mono (by simp))⟩
  clear hC h50
  have hs : claims_Sorted.f (l0 ++ l1) = some (canon (l0 ++ l1)) := by unfold claims_Sorted.f; rw [if_pos (by rw [List.length_append]; exact HL.out)]
  generalize l0 ++ l1 = l at h50' hs ⊢
  have HS := Aside0.mk hs; clear hs
  go_enter Tryz.func27, Tryz.ntmps27
  go_wp2_with (first
    | (go_at_call 47; refine h50'.mono ?_; rintro e w1 ⟨A, c, rfl, hc_, hC_, hb_⟩; have hc := Aside0.mk hc_; have hC := Aside0.mk hC_; have HB := Aside0.mk hb_; clear hc_ hC_ hb_ h50')
    | (go_at_call 26; refine (claims_Sorted.calls A c l _ _ hC.out hc.out HS.out).mono ?_; rintro e w2 ⟨v, rfl, hR_, hb_⟩; have hR := Aside0.mk hR_; have HB2 := Aside0.mk hb_; clear hR_ hb_))
  go_ret
  exact ⟨_, rfl, Kd.R_lower hR.out HB.out.size, HB.out.trans (HB2.out.mono HB.out.size)⟩
end Go.Proofs.YtocadlecfddbcaaGreatDoor.QClaims
