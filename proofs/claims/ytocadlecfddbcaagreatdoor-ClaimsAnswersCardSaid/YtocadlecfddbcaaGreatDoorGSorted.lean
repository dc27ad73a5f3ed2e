/- claims.Sorted. -/
import Derived.Test.YtocadlecfddbcaaGreatDoorGSort5
namespace Go.Proofs.YtocadlecfddbcaaGreatDoor.QClaims
open Go.RowKit Go.Proofs.YtocadlecfddbcaaGreatDoorW.PrintWords Go.Proofs.YtocadlecfddbcaaGreatDoorW.PrintLast Go.Proofs.YtocadlecfddbcaaGreatDoorW.PrintMore
set_option linter.unusedVariables false
set_option linter.unusedSimpArgs false

theorem reps_encs (w : World) (base : Nat) (ok : Nat → Prop) (l : List S24) : Reps (k24.M w base ok) 2 l (encs l) := by
  refine ⟨encs_length l, fun j p hp => ?_⟩
  have hj := (List.getElem?_eq_some_iff.1 hp).1
  have e : ((encs l).drop (j * 2)).take 2 = [.int .i64 p.f0, .int .i64 p.f1] := by
    obtain ⟨h0, h1⟩ := encs_get l [] j hj
    rw [List.append_nil] at h0 h1
    have hr : rd_T24 l (j : Int) = p := by unfold rd_T24; rw [Int.toNat_natCast, List.getD_eq_getElem?_getD, hp]; rfl
    rw [hr] at h0 h1
    apply List.ext_getElem?
    intro i
    rw [List.getElem?_take, List.getElem?_drop]
    match i with
    | 0 => simpa using h0
    | 1 => simpa using h1
    | i + 2 => rw [if_neg (by omega)]; rfl
  rw [e]
  exact k24_mkM w base ok p
/-- A row in a block of one's own, as the print tells it. -/
theorem RowB.R {base : Nat} {w0 w : World} {g cap : Nat} {l : List S24} {rest : List Value} (h : RowB base w0 w g cap (encs l ++ rest)) (hc : l.length ≤ cap) : Kd.R k24 24 w base (fun _ => True) (.slice (some ⟨g, 0, none⟩) l.length cap) l := by
  refine ⟨fun _ _ => trivial, encs l, ?_, reps_encs _ _ _ l⟩
  have h1 := h.owns l.length hc
  rw [encs_take l rest l.length (Nat.le_refl _), List.take_length] at h1
  exact h1
def claims_Sorted.f (l0 : List S24) : Option (List S24) := if l0.length ≤ 1000000 then some (canon l0) else none
theorem dedTo_nil : dedTo [] 0 = [] := rfl
set_option maxRecDepth 100000 in
set_option maxHeartbeats 2000000 in
theorem idxNil (c : Nat) (fv : Value) (w : World) : Calls Tryz.prog 57 #[.slice none 0 c, fv] w fun e w' => e = .returned (.int .i64 (-1)) ∧ w' = w := by
  have hu52 := Tryz.underlying24
  go_enter Tryz.func57, Tryz.ntmps57
  go_wp2
  refine wp_loop_rounds 1 ?_
  rw [rounds_succ]
  go_wp2
  go_ret
  exact ⟨rfl, rfl⟩
set_option maxRecDepth 100000 in
set_option maxHeartbeats 2000000 in
theorem claims_Sorted.calls (A0 : Option Addr) (c0 : Nat) (l0 : List S24) (r : List S24) (w : World) (hr0 : Kd.C k24 w A0 l0.length l0) (hc0 : l0.length ≤ c0) (h : claims_Sorted.f l0 = some r) :
    Calls Tryz.prog 26 #[.slice A0 l0.length c0] w fun e w' => ∃ v0_ : Value, e = .returned (v0_) ∧ Kd.R k24 24 w' w.heap.size (fun _ => True) v0_ r ∧ Below w.heap.size w w' := by
  have hu52 := Tryz.underlying24
  unfold claims_Sorted.f at h
  split at h
  case isFalse => cases h
  rename_i hl
  obtain rfl := Option.some.inj h
  clear h
  cases A0 with
  | none =>
    have hl0 : l0 = [] := by
      cases l0 with
      | nil => rfl
      | cons x l =>
        obtain ⟨ad, e, _⟩ := hr0.2.2 (by simp)
        cases e
    subst hl0
    have q38 : ∀ (w : World) (a : Option Addr) (n c n' c' : Nat), (binOp .eql 25 (.slice a n c) (.slice none n' c')).run Tryz.prog w = .ok (.bool a.isNone) w := fun w a n c n' c' => Lib.run_eql_slice_nil w _ _ a n c n' c' Tryz.underlying25
    have h37 : ∀ w, Calls Tryz.prog 43 #[.slice none 0 c0] w fun e w' => e = .returned (.slice none 0 0) ∧ w' = w := by
      intro w
      go_enter Tryz.func43, Tryz.ntmps43
      go_wp2
      go_ret
      exact ⟨rfl, rfl⟩
    have h55 := fun w => idxNil 0 (.func (.func 44) #[] #[]) w
    have h36 : ∀ w, Calls Tryz.prog 42 #[.slice none 0 0, .func (.func 44) #[] #[]] w fun e w' => e = .returned (.slice none 0 0) ∧ w' = w := by
      intro w
      go_enter Tryz.func42, Tryz.ntmps42
      go_wp2_with (go_at_call 57; refine (h55 _).mono ?_; rintro e w1 ⟨rfl, rfl⟩)
      go_ret
      exact ⟨rfl, rfl⟩
    have h40 : ∀ w, Calls Tryz.prog 45 #[.slice none 0 0, .func (.func 13) #[] #[]] w fun e w' => e = .returned (.tuple #[]) ∧ w' = w := fun w => Go.Proofs.AnyF.slices_SortFunc_none Go.Proofs.Tryz.sortC none 0 (.func (.func 13) #[] #[]) w
    have h42 : ∀ w, Calls Tryz.prog 46 #[.slice none 0 0] w fun e w' => e = .returned (.slice none 0 0) ∧ w' = w := by
      intro w
      go_enter Tryz.func46, Tryz.ntmps46
      go_wp2
      go_ret
      exact ⟨rfl, rfl⟩
    have hcan : canon [] = [] := by decide +kernel
    rw [hcan]
    clear hr0 hl hcan
    go_enter Tryz.func26, Tryz.ntmps26
    go_wp2_with (first | (go_at_call 43; refine (h37 _).mono ?_; rintro e w1 ⟨rfl, rfl⟩) | (go_at_call 42; refine (h36 _).mono ?_; rintro e w1 ⟨rfl, rfl⟩) | (go_at_call 45; refine (h40 _).mono ?_; rintro e w1 ⟨rfl, rfl⟩) | (go_at_call 46; refine (h42 _).mono ?_; rintro e w1 ⟨rfl, rfl⟩))
    go_ret
    exact ⟨_, rfl, ⟨fun _ _ => trivial, [], World.ownsRow_nil _ _ _ _, Reps.none _ _⟩, Below.refl _ _⟩
  | some ad =>
    have h37 := clone37_calls ad c0 l0 w hr0 hl
    clear hr0
    have HL := Aside0.mk hl; clear hl
    go_enter Tryz.func26, Tryz.ntmps26
    go_wp2_with (first
      | (go_at_call 43; refine h37.mono ?_; rintro e w1 ⟨g, cap, rest, rfl, R1_, hcap⟩; have B1 := Aside0.mk (Nat.le_trans R1_.lo (Nat.le_of_lt R1_.lt)); have R1 := Aside0.mk R1_; clear R1_ h37; have HC := Aside0.mk hcap; clear hcap)
      | (go_at_call 42; refine (del36_calls w.heap.size w w1 g cap l0 rest R1.out B1.out HL.out HC.out).mono ?_; rintro e w2 ⟨rfl, B2_, rest2, R2_⟩; have B2 := Aside0.mk B2_; have R2 := Aside0.mk R2_; clear B2_ R2_ R1 B1)
      | (go_at_call 45; refine (sort40_calls w.heap.size w _ g cap (l0.filter okC) rest2 R2.out B2.out (Nat.le_trans (List.length_filter_le _ _) HL.out)).mono ?_; rintro e w3 ⟨rfl, B3_, l3, hp_, hs_, R3_⟩; have B3 := Aside0.mk B3_; have hp := Aside0.mk hp_; have hs := Aside0.mk hs_; have R3 := Aside0.mk R3_; clear B3_ hp_ hs_ R3_ R2 B2; rw [← hp.out.length_eq])
      | (go_at_call 46; refine (com42_calls w.heap.size w _ g cap l3 rest2 R3.out B3.out (by rw [hp.out.length_eq]; exact Nat.le_trans (List.length_filter_le _ _) HL.out) (by rw [hp.out.length_eq]; exact Nat.le_trans (List.length_filter_le _ _) HC.out)).mono ?_; rintro e w4 ⟨rfl, B4_, rest4, R4_⟩; have B4 := Aside0.mk B4_; have R4 := Aside0.mk R4_; clear B4_ R4_ R3 B3))
    go_ret
    have hcap4 : (dedTo l3 l3.length).length ≤ cap := by
      refine Nat.le_trans (dedTo_len l3 _) ?_
      rw [hp.out.length_eq]
      exact Nat.le_trans (List.length_filter_le _ _) HC.out
    have hR := R4.out.R hcap4
    have hB := R4.out.bel
    rw [← sorted_canon l0 l3 hp.out hs.out]
    exact ⟨_, rfl, hR, hB⟩
end Go.Proofs.YtocadlecfddbcaaGreatDoor.QClaims
