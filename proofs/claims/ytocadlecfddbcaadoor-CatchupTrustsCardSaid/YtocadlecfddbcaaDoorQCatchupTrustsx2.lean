-- Written by a program of this session (wip/tools/myprint.py) out of the translation, by the kit's print. Lean checks it.
import Derived.Test.YtocadlecfddbcaaDoorQCatchupTrustsx0
namespace Go.Proofs.YtocadlecfddbcaaDoor.QCatchupTrusts
open Go.RowKit Go.Proofs.YtocadlecfddbcaaDoorW.PrintWords Go.Proofs.YtocadlecfddbcaaDoorW.PrintLast Go.Proofs.YtocadlecfddbcaaDoorW.PrintMore
attribute [local go_sem] max2_int min2_int max_two min_two max_three min_three max_four min_four   -- for this text's walks alone
set_option linter.unusedVariables false
set_option linter.unusedSimpArgs false

/-! ### nodeset_below: function 71 -/
def nodeset_below.f (a0 : Int) (a1 : Int) : Option (Bool) := if a0 ≥ 0 then (if 0 ≤ a1 then (some (decide (a0 < (shl .i64 1 a1)))) else (none)) else (some false)
set_option maxHeartbeats 8000000 in
set_option maxRecDepth 100000 in
theorem nodeset_below.calls (a0 : Int) (a1 : Int) (r : Bool) (w : World) (h : nodeset_below.f a0 a1 = some r) :
    Calls Tryd.prog 71 #[.int .i64 a0, .int .i64 a1] w fun e w' => e = .returned (.bool r) ∧ Drawn0 w w' := by
  have H : (if a0 ≥ 0 then (if 0 ≤ a1 then (some (decide (a0 < (shl .i64 1 a1)))) else (none)) else (some false)) = some r := h
  clear h
  by_cases c3 : a0 ≥ 0
  · rw [if_pos c3] at H
    have c3b0 : decide (0 ≤ a0) = true := decide_eq_true c3
    clear c3
    by_cases c4 : 0 ≤ a1
    · rw [if_pos c4] at H
      have c4b0 := eq_true c4
      have c4b1 : decide (0 ≤ a1) = true := decide_eq_true c4
      clear c4
      obtain ⟨ji5, hji5⟩ : ∃ j_ : Int, (shl .i64 1 a1) = j_ := ⟨_, rfl⟩
      replace H : (some (decide (a0 < (ji5)))) = some r := by first | (rw [hji5] at H; exact H) | (simp only [hji5] at H ⊢; exact H)
      have hji5_ : (IntKind.i64.wrap (1 * 2 ^ min a1.toNat 64)) = ji5 := hji5
      have hji5z : a1 ≤ 64 → (IntKind.i64.wrap (1 * 2 ^ a1.toNat)) = ji5 := shl_small hji5
      have hji5u : (IntKind.i64.wrap (2 ^ min a1.toNat 64)) = ji5 := by have h_ := hji5_; rw [Int.one_mul] at h_; exact h_
      have hji5v : a1 ≤ 64 → (IntKind.i64.wrap (2 ^ a1.toNat)) = ji5 := fun hle_ => by have h_ := hji5z hle_; rw [Int.one_mul] at h_; exact h_
      have hji5y : (wrap64 (1 * 2 ^ min a1.toNat 64)) = ji5 := (i64_w _).symm.trans hji5_
      have hji5x : a1 ≤ 64 → (wrap64 (1 * 2 ^ a1.toNat)) = ji5 := fun h_ => (i64_w _).symm.trans (hji5z h_)
      obtain rfl := Option.some.inj H
      go_enter Tryd.func71, Tryd.ntmps71
      go_wp2
      go_ret
      exact ⟨by first | rfl | (simp; done) | (simp only [← hji5] <;> (first | rfl | simp)) | (simp [*]; done), by repeat (first | exact Drawn0.refl _ | apply Drawn0.step)⟩
    · rw [if_neg c4] at H
      exact absurd H (by simp)
  · rw [if_neg c3] at H
    have c3b0 : decide (0 ≤ a0) = false := decide_eq_false c3
    clear c3
    obtain rfl := Option.some.inj H
    go_enter Tryd.func71, Tryd.ntmps71
    go_wp2
    go_ret
    exact ⟨by first | rfl | (simp; done) | (simp [*]; done), by repeat (first | exact Drawn0.refl _ | apply Drawn0.step)⟩

/-! ### nodeset_Valid: function 52 -/
def nodeset_Valid.f (a0 : Int) : Option (Bool) := (nodeset_below.f a0 10).bind fun t132 => (some t132)
set_option maxHeartbeats 8000000 in
set_option maxRecDepth 100000 in
theorem nodeset_Valid.calls (a0 : Int) (r : Bool) (w : World) (h : nodeset_Valid.f a0 = some r) :
    Calls Tryd.prog 52 #[.int .i64 a0] w fun e w' => e = .returned (.bool r) ∧ Drawn0 w w' := by
  have H : ((nodeset_below.f a0 10).bind fun t132 => (some t132)) = some r := h
  clear h
  replace H := Option.bind_eq_some_iff.mp H
  obtain ⟨t132, A20, H⟩ := H
  replace H : (some t132) = some r := H
  have A2 := Aside0.mk A20
  clear A20
  obtain rfl := Option.some.inj H
  go_enter Tryd.func52, Tryd.ntmps52
  go_wp2_with (first | ((with_reducible refine gate_callee (f := 71) rfl ?_); refine goesL_ (some 4) rfl rfl Tryd.func71 (by kernel_rfl) rfl #[.int .i64 a0, .int .i64 10] rfl (by (try simp only [List.map_toArray, List.map_cons, List.map_nil]); first | done | rfl | (simp only [List.length_drop, List.length_take]; rfl)) ?_; (with_reducible refine (nodeset_below.calls a0 10 t132 _ A2.out).mono ?_); rintro e w' ⟨rfl, ⟨nd, rfl⟩⟩; refine ⟨_, rfl, ?_⟩))
  go_ret
  exact ⟨by first | rfl | (simp; done) | (simp [*]; done), by repeat (first | exact Drawn0.refl _ | apply Drawn0.step)⟩

/-! ### nodeset_Has: function 53 -/
def nodeset_Has.f (a0 : Int) (a1 : Int) : Option (Bool) := (nodeset_Valid.f a0).bind fun t133 => (if t133 = true then (if a1 ≥ 0 then (if a1 < 10 then (if 0 ≤ a1 then (some ((Go.bits .and .i64 a0 (shl .i64 1 a1)) != 0)) else (none)) else (some false)) else (some false)) else (some false))
set_option maxHeartbeats 8000000 in
set_option maxRecDepth 100000 in
theorem nodeset_Has.calls (a0 : Int) (a1 : Int) (r : Bool) (w : World) (h : nodeset_Has.f a0 a1 = some r) :
    Calls Tryd.prog 53 #[.int .i64 a0, .int .i64 a1] w fun e w' => e = .returned (.bool r) ∧ Drawn0 w w' := by
  have H : ((nodeset_Valid.f a0).bind fun t133 => (if t133 = true then (if a1 ≥ 0 then (if a1 < 10 then (if 0 ≤ a1 then (some ((Go.bits .and .i64 a0 (shl .i64 1 a1)) != 0)) else (none)) else (some false)) else (some false)) else (some false))) = some r := h
  clear h
  replace H := Option.bind_eq_some_iff.mp H
  obtain ⟨t133, A30, H⟩ := H
  replace H : (if t133 = true then (if a1 ≥ 0 then (if a1 < 10 then (if 0 ≤ a1 then (some ((Go.bits .and .i64 a0 (shl .i64 1 a1)) != 0)) else (none)) else (some false)) else (some false)) else (some false)) = some r := H
  have A3 := Aside0.mk A30
  clear A30
  by_cases c4 : t133 = true
  · subst c4
    have H1 : (if a1 ≥ 0 then (if a1 < 10 then (if 0 ≤ a1 then (some ((Go.bits .and .i64 a0 (shl .i64 1 a1)) != 0)) else (none)) else (some false)) else (some false)) = some r := by rw [if_pos rfl] at H; exact H
    clear H
    have H := H1
    clear H1
    by_cases c5 : a1 ≥ 0
    · rw [if_pos c5] at H
      have c5b0 : decide (0 ≤ a1) = true := decide_eq_true c5
      clear c5
      by_cases c6 : a1 < 10
      · rw [if_pos c6] at H
        have c6b0 : decide (a1 < 10) = true := decide_eq_true c6
        clear c6
        by_cases c7 : 0 ≤ a1
        · rw [if_pos c7] at H
          have c7b0 := eq_true c7
          have c7b1 : decide (0 ≤ a1) = true := decide_eq_true c7
          clear c7
          obtain ⟨ji8, hji8⟩ : ∃ j_ : Int, (shl .i64 1 a1) = j_ := ⟨_, rfl⟩
          replace H : (some ((Go.bits .and .i64 a0 (ji8)) != 0)) = some r := by first | (rw [hji8] at H; exact H) | (simp only [hji8] at H ⊢; exact H)
          (try rw [hji8] at A3)
          have hji8_ : (IntKind.i64.wrap (1 * 2 ^ min a1.toNat 64)) = ji8 := hji8
          have hji8z : a1 ≤ 64 → (IntKind.i64.wrap (1 * 2 ^ a1.toNat)) = ji8 := shl_small hji8
          have hji8u : (IntKind.i64.wrap (2 ^ min a1.toNat 64)) = ji8 := by have h_ := hji8_; rw [Int.one_mul] at h_; exact h_
          have hji8v : a1 ≤ 64 → (IntKind.i64.wrap (2 ^ a1.toNat)) = ji8 := fun hle_ => by have h_ := hji8z hle_; rw [Int.one_mul] at h_; exact h_
          have hji8y : (wrap64 (1 * 2 ^ min a1.toNat 64)) = ji8 := (i64_w _).symm.trans hji8_
          have hji8x : a1 ≤ 64 → (wrap64 (1 * 2 ^ a1.toNat)) = ji8 := fun h_ => (i64_w _).symm.trans (hji8z h_)
          obtain rfl := Option.some.inj H
          go_enter Tryd.func53, Tryd.ntmps53
          go_wp2_with (first | ((with_reducible refine gate_callee (f := 52) rfl ?_); refine goesL_ (some 6) rfl rfl Tryd.func52 (by kernel_rfl) rfl #[.int .i64 a0] rfl (by (try simp only [List.map_toArray, List.map_cons, List.map_nil]); first | done | rfl | (simp only [List.length_drop, List.length_take]; rfl)) ?_; (with_reducible refine (nodeset_Valid.calls a0 true _ A3.out).mono ?_); rintro e w' ⟨rfl, ⟨nd, rfl⟩⟩; refine ⟨_, rfl, ?_⟩))
          go_ret
          exact ⟨by first | rfl | (simp; done) | (simp only [← hji8] <;> (first | rfl | simp)) | (simp [*]; done), by repeat (first | exact Drawn0.refl _ | apply Drawn0.step)⟩
        · rw [if_neg c7] at H
          exact absurd H (by simp)
      · rw [if_neg c6] at H
        have c6b0 : decide (a1 < 10) = false := decide_eq_false c6
        clear c6
        obtain rfl := Option.some.inj H
        go_enter Tryd.func53, Tryd.ntmps53
        go_wp2_with (first | ((with_reducible refine gate_callee (f := 52) rfl ?_); refine goesL_ (some 6) rfl rfl Tryd.func52 (by kernel_rfl) rfl #[.int .i64 a0] rfl (by (try simp only [List.map_toArray, List.map_cons, List.map_nil]); first | done | rfl | (simp only [List.length_drop, List.length_take]; rfl)) ?_; (with_reducible refine (nodeset_Valid.calls a0 true _ A3.out).mono ?_); rintro e w' ⟨rfl, ⟨nd, rfl⟩⟩; refine ⟨_, rfl, ?_⟩))
        go_ret
        exact ⟨by first | rfl | (simp; done) | (simp [*]; done), by repeat (first | exact Drawn0.refl _ | apply Drawn0.step)⟩
    · rw [if_neg c5] at H
      have c5b0 : decide (0 ≤ a1) = false := decide_eq_false c5
      clear c5
      obtain rfl := Option.some.inj H
      go_enter Tryd.func53, Tryd.ntmps53
      go_wp2_with (first | ((with_reducible refine gate_callee (f := 52) rfl ?_); refine goesL_ (some 6) rfl rfl Tryd.func52 (by kernel_rfl) rfl #[.int .i64 a0] rfl (by (try simp only [List.map_toArray, List.map_cons, List.map_nil]); first | done | rfl | (simp only [List.length_drop, List.length_take]; rfl)) ?_; (with_reducible refine (nodeset_Valid.calls a0 true _ A3.out).mono ?_); rintro e w' ⟨rfl, ⟨nd, rfl⟩⟩; refine ⟨_, rfl, ?_⟩))
      go_ret
      exact ⟨by first | rfl | (simp; done) | (simp [*]; done), by repeat (first | exact Drawn0.refl _ | apply Drawn0.step)⟩
  · replace c4 := Bool.eq_false_iff.mpr c4
    subst c4
    have H1 : (some false) = some r := by rw [if_neg (show ¬ (false = true) by decide)] at H; exact H
    clear H
    have H := H1
    clear H1
    obtain rfl := Option.some.inj H
    go_enter Tryd.func53, Tryd.ntmps53
    go_wp2_with (first | ((with_reducible refine gate_callee (f := 52) rfl ?_); refine goesL_ (some 6) rfl rfl Tryd.func52 (by kernel_rfl) rfl #[.int .i64 a0] rfl (by (try simp only [List.map_toArray, List.map_cons, List.map_nil]); first | done | rfl | (simp only [List.length_drop, List.length_take]; rfl)) ?_; (with_reducible refine (nodeset_Valid.calls a0 false _ A3.out).mono ?_); rintro e w' ⟨rfl, ⟨nd, rfl⟩⟩; refine ⟨_, rfl, ?_⟩))
    go_ret
    exact ⟨by first | rfl | (simp; done) | (simp [*]; done), by repeat (first | exact Drawn0.refl _ | apply Drawn0.step)⟩

/-! ### threshold_Satisfied: function 31 -/
mutual
def threshold_Satisfied.l0 : Nat → Int → Int → List Int → Int → Int → Int → List Int → List (S27) → Option (Bool)
  | 0, _, _, _, _, _, _, _, _ => none
  | k + 1, x1, x5, x14, x15, x16, x135000, x135001, x135002 => if x16 < x15 then (if 0 ≤ x16 then (if x16 < (x14.length : Int) then ((nodeset_Has.f x1 (rd x14 x16)).bind fun t137 => (if t137 = true then (threshold_Satisfied.l0 k x1 (wrap64 (x5 + 1)) x14 x15 (wrap64 (x16 + 1)) x135000 x135001 x135002) else (threshold_Satisfied.l0 k x1 x5 x14 x15 (wrap64 (x16 + 1)) x135000 x135001 x135002))) else (none)) else (none)) else (threshold_Satisfied.l1 k x1 x5 x135002 (x135002.length : Int) 0 x135000 x135001 x135002)
def threshold_Satisfied.l1 : Nat → Int → Int → List (S27) → Int → Int → Int → List Int → List (S27) → Option (Bool)
  | 0, _, _, _, _, _, _, _, _ => none
  | k + 1, x1, x5, x27, x28, x29, x135000, x135001, x135002 => if x29 < x28 then (if 0 ≤ x29 then (if x29 < (x27.length : Int) then ((threshold_Satisfied.f k ((rd_T27 x27 x29).f0) ((rd_T27 x27 x29).f1) ((rd_T27 x27 x29).f2) x1).bind fun t140 => (if t140 = true then (threshold_Satisfied.l1 k x1 (wrap64 (x5 + 1)) x27 x28 (wrap64 (x29 + 1)) x135000 x135001 x135002) else (threshold_Satisfied.l1 k x1 x5 x27 x28 (wrap64 (x29 + 1)) x135000 x135001 x135002))) else (none)) else (none)) else (some (decide (x5 ≥ x135000)))
def threshold_Satisfied.f : Nat → Int → List Int → List (S27) → Int → Option (Bool)
  | 0, _, _, _, _ => none
  | k + 1, a0_0, l0_1, l0_2, a1 => (nodeset_Valid.f a1).bind fun t135 => (if t135 = true then (threshold_Satisfied.l0 k a1 0 l0_1 (l0_1.length : Int) 0 a0_0 l0_1 l0_2) else (some false))
end
theorem threshold_Satisfied.mono_l : ∀ k, (∀ y0 y1 y2 y3, LeO (threshold_Satisfied.f k y0 y1 y2 y3) (threshold_Satisfied.f (k + 1) y0 y1 y2 y3)) ∧ (∀ y0 y1 y2 y3 y4 y5 y6 y7, LeO (threshold_Satisfied.l0 k y0 y1 y2 y3 y4 y5 y6 y7) (threshold_Satisfied.l0 (k + 1) y0 y1 y2 y3 y4 y5 y6 y7)) ∧ (∀ y0 y1 y2 y3 y4 y5 y6 y7, LeO (threshold_Satisfied.l1 k y0 y1 y2 y3 y4 y5 y6 y7) (threshold_Satisfied.l1 (k + 1) y0 y1 y2 y3 y4 y5 y6 y7))
  | 0 => ⟨fun _ _ _ _ r h => by simp [threshold_Satisfied.f] at h, fun _ _ _ _ _ _ _ _ r h => by simp [threshold_Satisfied.l0] at h, fun _ _ _ _ _ _ _ _ r h => by simp [threshold_Satisfied.l1] at h⟩
  | k + 1 => by
    obtain ⟨ih0, ih1, ih2⟩ := threshold_Satisfied.mono_l k
    refine ⟨?_, ?_, ?_⟩
    · intro y0 y1 y2 y3
      unfold threshold_Satisfied.f
      repeat' first
      | (with_reducible exact ih0 _ _ _ _)
      | (with_reducible exact ih1 _ _ _ _ _ _ _ _)
      | (with_reducible exact ih2 _ _ _ _ _ _ _ _)
      | (with_reducible exact LeO.refl _)
      | (with_reducible exact LeO.none _)
      | (with_reducible refine LeO.ite ?_ ?_)
      | (with_reducible refine LeO.bind ?_ (fun _ => ?_))
      | exact ih0 _ _ _ _
      | exact ih1 _ _ _ _ _ _ _ _
      | exact ih2 _ _ _ _ _ _ _ _
      | exact LeO.none _
      | refine LeO.ite ?_ ?_
      | refine LeO.bind ?_ (fun _ => ?_)
    · intro y0 y1 y2 y3 y4 y5 y6 y7
      unfold threshold_Satisfied.l0
      repeat' first
      | (with_reducible exact ih0 _ _ _ _)
      | (with_reducible exact ih1 _ _ _ _ _ _ _ _)
      | (with_reducible exact ih2 _ _ _ _ _ _ _ _)
      | (with_reducible exact LeO.refl _)
      | (with_reducible exact LeO.none _)
      | (with_reducible refine LeO.ite ?_ ?_)
      | (with_reducible refine LeO.bind ?_ (fun _ => ?_))
      | exact ih0 _ _ _ _
      | exact ih1 _ _ _ _ _ _ _ _
      | exact ih2 _ _ _ _ _ _ _ _
      | exact LeO.none _
      | refine LeO.ite ?_ ?_
      | refine LeO.bind ?_ (fun _ => ?_)
    · intro y0 y1 y2 y3 y4 y5 y6 y7
      unfold threshold_Satisfied.l1
      repeat' first
      | (with_reducible exact ih0 _ _ _ _)
      | (with_reducible exact ih1 _ _ _ _ _ _ _ _)
      | (with_reducible exact ih2 _ _ _ _ _ _ _ _)
      | (with_reducible exact LeO.refl _)
      | (with_reducible exact LeO.none _)
      | (with_reducible refine LeO.ite ?_ ?_)
      | (with_reducible refine LeO.bind ?_ (fun _ => ?_))
      | exact ih0 _ _ _ _
      | exact ih1 _ _ _ _ _ _ _ _
      | exact ih2 _ _ _ _ _ _ _ _
      | exact LeO.none _
      | refine LeO.ite ?_ ?_
      | refine LeO.bind ?_ (fun _ => ?_)
theorem threshold_Satisfied.mono : ∀ a0 a1 a2 a3 k, LeO (threshold_Satisfied.f k a0 a1 a2 a3) (threshold_Satisfied.f (k + 1) a0 a1 a2 a3) := by
  intro a0 a1 a2 a3 k
  obtain ⟨ih0, ih1, ih2⟩ := threshold_Satisfied.mono_l k
  exact ih0 a0 a1 a2 a3
set_option maxHeartbeats 8000000 in
set_option maxRecDepth 100000 in
theorem threshold_Satisfied.calls (k : Nat) : ∀ (a0_0 : Int) (A0_1 : Option Addr) (c0_1 : Nat) (l0_1 : List Int) (A0_2 : Option Addr) (c0_2 : Nat) (l0_2 : List (S27)) (a1 : Int) (r : Bool) (w : World) (hr0_1 : Kd.C (Kd.int .i64) w A0_1 l0_1.length l0_1) (hc0_1 : l0_1.length ≤ c0_1) (hr0_2 : Kd.C k27 w A0_2 l0_2.length l0_2) (hc0_2 : l0_2.length ≤ c0_2) (h : threshold_Satisfied.f k a0_0 l0_1 l0_2 a1 = some r),
    Calls Tryd.prog 31 #[.agg #[.int .i64 a0_0, .slice A0_1 l0_1.length c0_1, .slice A0_2 l0_2.length c0_2], .int .i64 a1] w fun e w' => e = .returned (.bool r) ∧ Below w.heap.size w w' := by
  induction k using Nat.strongRecOn with
  | _ k ih =>
  intro a0_0 A0_1 c0_1 l0_1 A0_2 c0_2 l0_2 a1 r w hr0_1 hc0_1 hr0_2 hc0_2 h
  cases k with
  | zero => exact absurd h (by simp [threshold_Satisfied.f])
  | succ k =>
  simp only [threshold_Satisfied.f] at h
  have hu27 := Tryd.underlying27
  have HR0_1 := Aside0.mk hr0_1
  have HC0_1 := Aside0.mk hc0_1
  clear hr0_1 hc0_1
  have HR0_2 := Aside0.mk hr0_2
  have HC0_2 := Aside0.mk hc0_2
  clear hr0_2 hc0_2
  have HB := Aside0.mk (Below.refl w.heap.size w)
  have H : ((nodeset_Valid.f a1).bind fun t135 => (if t135 = true then (threshold_Satisfied.l0 k a1 0 l0_1 (l0_1.length : Int) 0 a0_0 l0_1 l0_2) else (some false))) = some r := h
  clear h
  replace H := Option.bind_eq_some_iff.mp H
  obtain ⟨t135, A30, H⟩ := H
  replace H : (if t135 = true then (threshold_Satisfied.l0 k a1 0 l0_1 (l0_1.length : Int) 0 a0_0 l0_1 l0_2) else (some false)) = some r := H
  have A3 := Aside0.mk A30
  clear A30
  by_cases c4 : t135 = true
  · subst c4
    have H1 : (threshold_Satisfied.l0 k a1 0 l0_1 (l0_1.length : Int) 0 a0_0 l0_1 l0_2) = some r := by rw [if_pos rfl] at H; exact H
    clear H
    have H := H1
    clear H1
    have H' := Aside0.mk H
    clear H
    go_enter Tryd.func31, Tryd.ntmps31
    go_wp2_with (first | ((with_reducible refine gate_dst (N := 2) rfl ?_); refine box_event ?hg (N := 2) ?hd (cs := #[.int .i64 a0_0, .slice A0_1 l0_1.length c0_1, .slice A0_2 l0_2.length c0_2]) (t := 27) ?hr ?_; (case hd => rfl); (case hg => rfl); (case hr => first | (go_simp; done) | (go_simp; rfl)); intro gb134 hg w5 hbox hb; have n0_ := Aside0.mk (below_step (by repeat (first | (with_reducible first | exact HB.out | apply below_alloc | apply pw_below_drewN | apply below_drew1) | exact HB.out)) hb); have n1_ := Aside0.mk (hbox); have n2_ := Aside0.mk ((by rw [hg]; exact (below_size (by repeat (first | (with_reducible first | exact HB.out | apply below_alloc | apply pw_below_drewN | apply below_drew1) | exact HB.out))) : w.heap.size ≤ gb134)); have n3_ := Aside0.mk ((by rw [hg]; exact (below_size (by repeat (first | (with_reducible first | exact HB.out | apply below_alloc | apply pw_below_drewN | apply below_drew1) | exact HB.out))) : w.heap.size ≤ gb134)); clear HB; have HB := n0_; have BK134 := n1_; have GW134 := n2_; have GE134 := n3_; clear n0_ n1_ n2_ n3_; clear hb hbox hg) | ((with_reducible refine gate_callee (f := 52) rfl ?_); refine goesL_ (some 11) rfl rfl Tryd.func52 (by kernel_rfl) rfl #[.int .i64 a1] rfl (by (try simp only [List.map_toArray, List.map_cons, List.map_nil]); first | done | rfl | (simp only [List.length_drop, List.length_take]; rfl)) ?_; (with_reducible refine (nodeset_Valid.calls a1 true _ A3.out).mono ?_); rintro e w' ⟨rfl, ⟨nd, rfl⟩⟩; refine ⟨_, rfl, ?_⟩; have hcz6_0 : w5.cell? ⟨gb134, 0, none⟩ = some (.int .i64 a0_0) := (blk_cell BK134.out 0).trans rfl; have hcz6_1 : w5.cell? ⟨gb134, 1, none⟩ = some (.slice A0_1 l0_1.length c0_1) := (blk_cell BK134.out 1).trans rfl; have hcz6_2 : w5.cell? ⟨gb134, 2, none⟩ = some (.slice A0_2 l0_2.length c0_2) := (blk_cell BK134.out 2).trans rfl; have hfz6_0 := blk_frozen BK134.out 0; have hfz6_1 := blk_frozen BK134.out 1; have hfz6_2 := blk_frozen BK134.out 2))
    go_loopg [5, 16] k (fun kq v5 v16 w' => ∃ (x5_1 : Int) (x16_1 : Int), v5 = .int .i64 x5_1 ∧ v16 = .int .i64 x16_1 ∧ Aside0 (threshold_Satisfied.l0 kq a1 x5_1 l0_1 (l0_1.length : Int) x16_1 a0_0 l0_1 l0_2 = some r) ∧ Aside0 (kq ≤ k) ∧ Aside0 (w'.heap[gb134]? = some (.cells #[.int .i64 a0_0, (.slice A0_1 l0_1.length c0_1), (.slice A0_2 l0_2.length c0_2)] 27 (0, 0))) ∧ Aside0 (Below w.heap.size w w'))
    case atStart => exact ⟨(0), (0), (by first | rfl | (simp; done) | (simp [*]; done)), (by first | rfl | (simp; done) | (simp [*]; done)), H', ⟨Nat.le_refl _⟩, ⟨by (with_reducible repeat (first | refine blk_drewN ?_ _ | refine blk_drew ?_ | refine blk_alloc ?_ _)); exact BK134.out⟩, ⟨by repeat (first | (with_reducible first | exact HB.out | apply below_alloc | apply pw_below_drewN | apply below_drew1 | refine below_set ?_ GE134.out) | exact HB.out)⟩⟩
    case round =>
      clear H'
      try clear p2
      try clear c3
      try clear c4
      try clear c5
      try clear hcz6_0
      try clear hcz6_1
      try clear hcz6_2
      try clear hfz6_0
      try clear hfz6_1
      try clear hfz6_2
      obtain ⟨x5_1, x16_1, rfl, rfl, HA, HK1, BK134, HB⟩ := hrel
      cases gk with
      | zero => exact absurd HA.out (by simp [threshold_Satisfied.l0])
      | succ k1 =>
        have H := HA.out
        clear HA
        simp only [threshold_Satisfied.l0] at H
        by_cases c7 : x16_1 < (l0_1.length : Int)
        · rw [if_pos c7] at H
          have c7b0 : decide (x16_1 < (l0_1.length : Int)) = true := decide_eq_true c7
          clear c7
          by_cases c8 : 0 ≤ x16_1
          · rw [if_pos c8] at H
            have c8b0 : decide (0 ≤ x16_1) = true := decide_eq_true c8
            clear c8
            by_cases c9 : x16_1 < (l0_1.length : Int)
            · rw [if_pos c9] at H
              have c9b0 : decide (x16_1 < (l0_1.length : Int)) = true := decide_eq_true c9
              clear c9
              replace H := Option.bind_eq_some_iff.mp H
              obtain ⟨t137, A100, H⟩ := H
              replace H : (if t137 = true then (threshold_Satisfied.l0 k1 a1 (wrap64 (x5_1 + 1)) l0_1 (l0_1.length : Int) (wrap64 (x16_1 + 1)) a0_0 l0_1 l0_2) else (threshold_Satisfied.l0 k1 a1 x5_1 l0_1 (l0_1.length : Int) (wrap64 (x16_1 + 1)) a0_0 l0_1 l0_2)) = some r := H
              have A10 := Aside0.mk A100
              clear A100
              by_cases c11 : t137 = true
              · subst c11
                have H1 : (threshold_Satisfied.l0 k1 a1 (wrap64 (x5_1 + 1)) l0_1 (l0_1.length : Int) (wrap64 (x16_1 + 1)) a0_0 l0_1 l0_2) = some r := by rw [if_pos rfl] at H; exact H
                clear H
                have H := H1
                clear H1
                have H' := Aside0.mk H
                clear H
                have p136 : 0 ≤ (x16_1 : Int) := of_decide_eq_true (by first | (with_reducible assumption) | assumption)
                have q136 : x16_1 < (l0_1.length : Int) := of_decide_eq_true (by first | (with_reducible assumption) | assumption)
                obtain ⟨ad136, e136, hx136_0⟩ := Kd.at_int HR0_1.out x16_1 p136 q136
                cases e136
                replace hx136_0 := (HB.out.cell (World.block_lt_of_cell? w _ hx136_0)).trans hx136_0
                replace p136 := eq_true p136
                replace q136 := eq_true q136
                go_wp2_with (first | ((with_reducible refine gate_callee (f := 53) rfl ?_); refine goesL_ (some 22) rfl rfl Tryd.func53 (by kernel_rfl) rfl #[.int .i64 a1, .int .i64 (rd l0_1 x16_1)] rfl (by (try simp only [List.map_toArray, List.map_cons, List.map_nil]); first | done | rfl | (simp only [List.length_drop, List.length_take]; rfl)) ?_; (with_reducible refine (nodeset_Has.calls a1 (rd l0_1 x16_1) true _ A10.out).mono ?_); rintro e w' ⟨rfl, ⟨nd, rfl⟩⟩; refine ⟨_, rfl, ?_⟩))
                go_roundg k1
                case measure => have := HK1.out; omega
                case rel => exact ⟨(wrap64 (x5_1 + 1)), (wrap64 (x16_1 + 1)), (by first | rfl | (simp; done) | (simp [*]; done)), (by first | rfl | (simp; done) | (simp [*]; done)), H', ⟨by have := HK1.out; omega⟩, ⟨by (with_reducible repeat (first | refine blk_drewN ?_ _ | refine blk_drew ?_ | refine blk_alloc ?_ _)); exact BK134.out⟩, ⟨by repeat (first | (with_reducible first | exact HB.out | apply below_alloc | apply pw_below_drewN | apply below_drew1 | refine below_set ?_ GE134.out) | exact HB.out)⟩⟩
              · replace c11 := Bool.eq_false_iff.mpr c11
                subst c11
                have H1 : (threshold_Satisfied.l0 k1 a1 x5_1 l0_1 (l0_1.length : Int) (wrap64 (x16_1 + 1)) a0_0 l0_1 l0_2) = some r := by rw [if_neg (show ¬ (false = true) by decide)] at H; exact H
                clear H
                have H := H1
                clear H1
                have H' := Aside0.mk H
                clear H
                have p136 : 0 ≤ (x16_1 : Int) := of_decide_eq_true (by first | (with_reducible assumption) | assumption)
                have q136 : x16_1 < (l0_1.length : Int) := of_decide_eq_true (by first | (with_reducible assumption) | assumption)
                obtain ⟨ad136, e136, hx136_0⟩ := Kd.at_int HR0_1.out x16_1 p136 q136
                cases e136
                replace hx136_0 := (HB.out.cell (World.block_lt_of_cell? w _ hx136_0)).trans hx136_0
                replace p136 := eq_true p136
                replace q136 := eq_true q136
                go_wp2_with (first | ((with_reducible refine gate_callee (f := 53) rfl ?_); refine goesL_ (some 22) rfl rfl Tryd.func53 (by kernel_rfl) rfl #[.int .i64 a1, .int .i64 (rd l0_1 x16_1)] rfl (by (try simp only [List.map_toArray, List.map_cons, List.map_nil]); first | done | rfl | (simp only [List.length_drop, List.length_take]; rfl)) ?_; (with_reducible refine (nodeset_Has.calls a1 (rd l0_1 x16_1) false _ A10.out).mono ?_); rintro e w' ⟨rfl, ⟨nd, rfl⟩⟩; refine ⟨_, rfl, ?_⟩))
                go_roundg k1
                case measure => have := HK1.out; omega
                case rel => exact ⟨(x5_1), (wrap64 (x16_1 + 1)), (by first | rfl | (simp; done) | (simp [*]; done)), (by first | rfl | (simp; done) | (simp [*]; done)), H', ⟨by have := HK1.out; omega⟩, ⟨by (with_reducible repeat (first | refine blk_drewN ?_ _ | refine blk_drew ?_ | refine blk_alloc ?_ _)); exact BK134.out⟩, ⟨by repeat (first | (with_reducible first | exact HB.out | apply below_alloc | apply pw_below_drewN | apply below_drew1 | refine below_set ?_ GE134.out) | exact HB.out)⟩⟩
            · rw [if_neg c9] at H
              exact absurd H (by simp)
          · rw [if_neg c8] at H
            exact absurd H (by simp)
        · rw [if_neg c7] at H
          have c7b0 : decide (x16_1 < (l0_1.length : Int)) = false := decide_eq_false c7
          clear c7
          have H' := Aside0.mk H
          clear H
          have hcz12_0 : wr.cell? ⟨gb134, 0, none⟩ = some (.int .i64 a0_0) := (blk_cell BK134.out 0).trans rfl
          have hcz12_1 : wr.cell? ⟨gb134, 1, none⟩ = some (.slice A0_1 l0_1.length c0_1) := (blk_cell BK134.out 1).trans rfl
          have hcz12_2 : wr.cell? ⟨gb134, 2, none⟩ = some (.slice A0_2 l0_2.length c0_2) := (blk_cell BK134.out 2).trans rfl
          have hfz12_0 := blk_frozen BK134.out 0
          have hfz12_1 := blk_frozen BK134.out 1
          have hfz12_2 := blk_frozen BK134.out 2
          go_wp2
          go_loopg [5, 29] k1 (fun kq v5 v29 w' => ∃ (x5_2 : Int) (x29_2 : Int), v5 = .int .i64 x5_2 ∧ v29 = .int .i64 x29_2 ∧ Aside0 (threshold_Satisfied.l1 kq a1 x5_2 l0_2 (l0_2.length : Int) x29_2 a0_0 l0_1 l0_2 = some r) ∧ Aside0 (kq ≤ k1) ∧ Aside0 (w'.heap[gb134]? = some (.cells #[.int .i64 a0_0, (.slice A0_1 l0_1.length c0_1), (.slice A0_2 l0_2.length c0_2)] 27 (0, 0))) ∧ Aside0 (Below w.heap.size w w'))
          case atStart => exact ⟨(x5_1), (0), (by first | rfl | (simp; done) | (simp [*]; done)), (by first | rfl | (simp; done) | (simp [*]; done)), H', ⟨Nat.le_refl _⟩, ⟨by (with_reducible repeat (first | refine blk_drewN ?_ _ | refine blk_drew ?_ | refine blk_alloc ?_ _)); exact BK134.out⟩, ⟨by repeat (first | (with_reducible first | exact HB.out | apply below_alloc | apply pw_below_drewN | apply below_drew1 | refine below_set ?_ GE134.out) | exact HB.out)⟩⟩
          case round =>
            clear H'
            try clear c1
            try clear p1
            try clear q1
            try clear hx1
            try clear p2
            try clear c3
            try clear c4
            try clear c5
            try clear p6
            try clear c7
            try clear c7b0
            try clear c8
            try clear c8b0
            try clear c9
            try clear c9b0
            try clear c11
            try clear hcz12_0
            try clear hcz12_1
            try clear hcz12_2
            try clear hcz6_0
            try clear hcz6_1
            try clear hcz6_2
            try clear hfz12_0
            try clear hfz12_1
            try clear hfz12_2
            try clear hfz6_0
            try clear hfz6_1
            try clear hfz6_2
            try clear hx136_0
            try clear p136
            try clear p2
            try clear q136
            obtain ⟨x5_2, x29_2, rfl, rfl, HA, HK2, BK134, HB⟩ := hrel
            cases gk with
            | zero => exact absurd HA.out (by simp [threshold_Satisfied.l1])
            | succ k2 =>
              have H := HA.out
              clear HA
              simp only [threshold_Satisfied.l1] at H
              by_cases c13 : x29_2 < (l0_2.length : Int)
              · rw [if_pos c13] at H
                have c13b0 : decide (x29_2 < (l0_2.length : Int)) = true := decide_eq_true c13
                clear c13
                by_cases c14 : 0 ≤ x29_2
                · rw [if_pos c14] at H
                  have c14b0 : decide (0 ≤ x29_2) = true := decide_eq_true c14
                  clear c14
                  by_cases c15 : x29_2 < (l0_2.length : Int)
                  · rw [if_pos c15] at H
                    have c15b0 : decide (x29_2 < (l0_2.length : Int)) = true := decide_eq_true c15
                    clear c15
                    replace H := Option.bind_eq_some_iff.mp H
                    obtain ⟨t140, A160, H⟩ := H
                    replace H : (if t140 = true then (threshold_Satisfied.l1 k2 a1 (wrap64 (x5_2 + 1)) l0_2 (l0_2.length : Int) (wrap64 (x29_2 + 1)) a0_0 l0_1 l0_2) else (threshold_Satisfied.l1 k2 a1 x5_2 l0_2 (l0_2.length : Int) (wrap64 (x29_2 + 1)) a0_0 l0_1 l0_2)) = some r := H
                    have A16 := Aside0.mk A160
                    clear A160
                    by_cases c17 : t140 = true
                    · subst c17
                      have H1 : (threshold_Satisfied.l1 k2 a1 (wrap64 (x5_2 + 1)) l0_2 (l0_2.length : Int) (wrap64 (x29_2 + 1)) a0_0 l0_1 l0_2) = some r := by rw [if_pos rfl] at H; exact H
                      clear H
                      have H := H1
                      clear H1
                      have H' := Aside0.mk H
                      clear H
                      have p138 : 0 ≤ (x29_2 : Int) := of_decide_eq_true (by first | (with_reducible assumption) | assumption)
                      have q138 : x29_2 < (l0_2.length : Int) := of_decide_eq_true (by first | (with_reducible assumption) | assumption)
                      obtain ⟨ad138, A138_1, c138_1, A138_2, c138_2, e138, hx138_0, hx138_1, hx138_2, hl138_1, hi138_1, hl138_2, hi138_2⟩ := at_T27 HR0_2.out x29_2 p138 q138
                      cases e138
                      replace hx138_0 := (HB.out.cell (World.block_lt_of_cell? w _ hx138_0)).trans hx138_0
                      replace hx138_1 := (HB.out.cell (World.block_lt_of_cell? w _ hx138_1)).trans hx138_1
                      replace hx138_2 := (HB.out.cell (World.block_lt_of_cell? w _ hx138_2)).trans hx138_2
                      have HR138_1 := Aside0.mk hi138_1
                      have HC138_1 := Aside0.mk hl138_1
                      clear hi138_1 hl138_1
                      have HR138_2 := Aside0.mk hi138_2
                      have HC138_2 := Aside0.mk hl138_2
                      clear hi138_2 hl138_2
                      replace p138 := eq_true p138
                      replace q138 := eq_true q138
                      go_wp2_with (first | ((with_reducible refine gate_dst (N := 9) rfl ?_); refine box_event ?hg (N := 9) ?hd (cs := #[.int .i64 0, .slice none 0 0, .slice none 0 0]) (t := 27) ?hr ?_; (case hd => rfl); (case hg => rfl); (case hr => first | (go_simp; done) | (go_simp; rfl)); intro gb139 hg w18 hbox hb; have n0_ := Aside0.mk (blk_below (g := gb134) (o := .cells #[.int .i64 a0_0, .slice A0_1 l0_1.length c0_1, .slice (some ad138) l0_2.length c0_2] 27 (0, 0)) (by (with_reducible repeat (first | refine blk_drewN ?_ _ | refine blk_drew ?_ | refine blk_alloc ?_ _)); exact BK134.out) hb); have n1_ := Aside0.mk (below_step (by repeat (first | (with_reducible first | exact HB.out | apply below_alloc | apply pw_below_drewN | apply below_drew1 | refine below_set ?_ GE134.out) | exact HB.out)) hb); have n2_ := Aside0.mk (hbox); have n3_ := Aside0.mk ((by rw [hg]; exact (below_size (by repeat (first | (with_reducible first | exact HB.out | apply below_alloc | apply pw_below_drewN | apply below_drew1 | refine below_set ?_ GE134.out) | exact HB.out))) : w.heap.size ≤ gb139)); have n4_ := Aside0.mk ((by rw [hg]; exact (below_size (by repeat (first | (with_reducible first | exact HB.out | apply below_alloc | apply pw_below_drewN | apply below_drew1 | refine below_set ?_ GE134.out) | exact HB.out))) : w.heap.size ≤ gb139)); have n5_ := Aside0.mk ((by rw [hg]; exact Nat.ne_of_lt (blk_lt (g := gb134) (o := .cells #[.int .i64 a0_0, .slice A0_1 l0_1.length c0_1, .slice (some ad138) l0_2.length c0_2] 27 (0, 0)) (by (with_reducible repeat (first | refine blk_drewN ?_ _ | refine blk_drew ?_ | refine blk_alloc ?_ _)); exact BK134.out)) : gb134 ≠ gb139)); have n6_ := Aside0.mk ((by rw [hg]; exact Nat.ne_of_gt (blk_lt (g := gb134) (o := .cells #[.int .i64 a0_0, .slice A0_1 l0_1.length c0_1, .slice (some ad138) l0_2.length c0_2] 27 (0, 0)) (by (with_reducible repeat (first | refine blk_drewN ?_ _ | refine blk_drew ?_ | refine blk_alloc ?_ _)); exact BK134.out)) : gb139 ≠ gb134)); clear BK134; clear HB; have BK134 := n0_; have HB := n1_; have BK139 := n2_; have GW139 := n3_; have GE139 := n4_; have NB134_139 := n5_; have NB139_134 := n6_; clear n0_ n1_ n2_ n3_ n4_ n5_ n6_; clear hb hbox hg; have hnb19 := NB139_134.out; have hnc19 := NB134_139.out; have hcz20_0 : w18.cell? ⟨gb139, 0, none⟩ = some (.int .i64 0) := (blk_cell BK139.out 0).trans rfl; have hcz20_1 : w18.cell? ⟨gb139, 1, none⟩ = some (.slice none 0 0) := (blk_cell BK139.out 1).trans rfl; have hcz20_2 : w18.cell? ⟨gb139, 2, none⟩ = some (.slice none 0 0) := (blk_cell BK139.out 2).trans rfl; have hfz20_0 := blk_frozen BK139.out 0; have hfz20_1 := blk_frozen BK139.out 1; have hfz20_2 := blk_frozen BK139.out 2) | ((with_reducible refine gate_callee (f := 31) rfl ?_); refine goesL_ (some 35) rfl rfl Tryd.func31 (by kernel_rfl) rfl #[.agg #[.int .i64 ((rd_T27 l0_2 x29_2).f0), .slice A138_1 ((rd_T27 l0_2 x29_2).f1).length c138_1, .slice A138_2 ((rd_T27 l0_2 x29_2).f2).length c138_2], .int .i64 a1] rfl (by (try simp only [List.map_toArray, List.map_cons, List.map_nil]); first | done | rfl | (simp only [List.length_drop, List.length_take]; rfl)) ?_; (with_reducible refine (ih k2 (by have := HK1.out; have := HK2.out; omega) ((rd_T27 l0_2 x29_2).f0) _ _ ((rd_T27 l0_2 x29_2).f1) _ _ ((rd_T27 l0_2 x29_2).f2) a1 true _ ?side1 ?side2 ?side3 ?side4 A16.out).mono ?_); (case side1 => exact Kd.C_below HR138_1.out (by repeat (first | (with_reducible first | exact HB.out | apply below_alloc | apply pw_below_drewN | apply below_drew1 | refine below_set ?_ GE134.out | refine below_set ?_ GE139.out) | exact HB.out))); (case side2 => exact HC138_1.out); (case side3 => exact Kd.C_below HR138_2.out (by repeat (first | (with_reducible first | exact HB.out | apply below_alloc | apply pw_below_drewN | apply below_drew1 | refine below_set ?_ GE134.out | refine below_set ?_ GE139.out) | exact HB.out))); (case side4 => exact HC138_2.out); rintro e w21 ⟨rfl, hb⟩; refine ⟨_, rfl, ?_⟩; have n0_ := Aside0.mk (blk_below (g := gb134) (o := .cells #[.int .i64 a0_0, .slice A0_1 l0_1.length c0_1, .slice (some ad138) l0_2.length c0_2] 27 (0, 0)) (by (with_reducible repeat (first | refine blk_drewN ?_ _ | refine blk_drew ?_ | refine blk_alloc ?_ _)); refine blk_far ?_ NB134_139.out _; (with_reducible repeat (first | refine blk_drewN ?_ _ | refine blk_drew ?_ | refine blk_alloc ?_ _)); refine blk_far ?_ NB134_139.out _; (with_reducible repeat (first | refine blk_drewN ?_ _ | refine blk_drew ?_ | refine blk_alloc ?_ _)); refine blk_far ?_ NB134_139.out _; (with_reducible repeat (first | refine blk_drewN ?_ _ | refine blk_drew ?_ | refine blk_alloc ?_ _)); exact BK134.out) hb); have n1_ := Aside0.mk (blk_below (g := gb139) (o := .cells #[.int .i64 ((rd_T27 l0_2 x29_2).f0), .slice A138_1 ((rd_T27 l0_2 x29_2).f1).length c138_1, .slice A138_2 ((rd_T27 l0_2 x29_2).f2).length c138_2] 27 (0, 0)) (by (with_reducible repeat (first | refine blk_drewN ?_ _ | refine blk_drew ?_ | refine blk_alloc ?_ _)); refine blk_put (cs := #[.int .i64 ((rd_T27 l0_2 x29_2).f0), .slice A138_1 ((rd_T27 l0_2 x29_2).f1).length c138_1, .slice none 0 0]) ?_ 2 _ rfl; (with_reducible repeat (first | refine blk_drewN ?_ _ | refine blk_drew ?_ | refine blk_alloc ?_ _)); refine blk_put (cs := #[.int .i64 ((rd_T27 l0_2 x29_2).f0), .slice none 0 0, .slice none 0 0]) ?_ 1 _ rfl; (with_reducible repeat (first | refine blk_drewN ?_ _ | refine blk_drew ?_ | refine blk_alloc ?_ _)); refine blk_put (cs := #[.int .i64 0, .slice none 0 0, .slice none 0 0]) ?_ 0 _ rfl; (with_reducible repeat (first | refine blk_drewN ?_ _ | refine blk_drew ?_ | refine blk_alloc ?_ _)); exact BK139.out) hb); have n2_ := Aside0.mk (below_step (by repeat (first | (with_reducible first | exact HB.out | apply below_alloc | apply pw_below_drewN | apply below_drew1 | refine below_set ?_ GE134.out | refine below_set ?_ GE139.out) | exact HB.out)) hb); clear BK134; clear BK139; clear HB; have BK134 := n0_; have BK139 := n1_; have HB := n2_; clear n0_ n1_ n2_; (try clear hb); (try clear hb2); (try clear hk); (try clear hi)))
                      go_roundg k2
                      case measure => have := HK1.out; have := HK2.out; omega
                      case rel => exact ⟨(wrap64 (x5_2 + 1)), (wrap64 (x29_2 + 1)), (by first | rfl | (simp; done) | (simp [*]; done)), (by first | rfl | (simp; done) | (simp [*]; done)), H', ⟨by have := HK1.out; have := HK2.out; omega⟩, ⟨by (with_reducible repeat (first | refine blk_drewN ?_ _ | refine blk_drew ?_ | refine blk_alloc ?_ _)); exact BK134.out⟩, ⟨by repeat (first | (with_reducible first | exact HB.out | apply below_alloc | apply pw_below_drewN | apply below_drew1 | refine below_set ?_ GE134.out | refine below_set ?_ GE139.out) | exact HB.out)⟩⟩
                    · replace c17 := Bool.eq_false_iff.mpr c17
                      subst c17
                      have H1 : (threshold_Satisfied.l1 k2 a1 x5_2 l0_2 (l0_2.length : Int) (wrap64 (x29_2 + 1)) a0_0 l0_1 l0_2) = some r := by rw [if_neg (show ¬ (false = true) by decide)] at H; exact H
                      clear H
                      have H := H1
                      clear H1
                      have H' := Aside0.mk H
                      clear H
                      have p138 : 0 ≤ (x29_2 : Int) := of_decide_eq_true (by first | (with_reducible assumption) | assumption)
                      have q138 : x29_2 < (l0_2.length : Int) := of_decide_eq_true (by first | (with_reducible assumption) | assumption)
                      obtain ⟨ad138, A138_1, c138_1, A138_2, c138_2, e138, hx138_0, hx138_1, hx138_2, hl138_1, hi138_1, hl138_2, hi138_2⟩ := at_T27 HR0_2.out x29_2 p138 q138
                      cases e138
                      replace hx138_0 := (HB.out.cell (World.block_lt_of_cell? w _ hx138_0)).trans hx138_0
                      replace hx138_1 := (HB.out.cell (World.block_lt_of_cell? w _ hx138_1)).trans hx138_1
                      replace hx138_2 := (HB.out.cell (World.block_lt_of_cell? w _ hx138_2)).trans hx138_2
                      have HR138_1 := Aside0.mk hi138_1
                      have HC138_1 := Aside0.mk hl138_1
                      clear hi138_1 hl138_1
                      have HR138_2 := Aside0.mk hi138_2
                      have HC138_2 := Aside0.mk hl138_2
                      clear hi138_2 hl138_2
                      replace p138 := eq_true p138
                      replace q138 := eq_true q138
                      go_wp2_with (first | ((with_reducible refine gate_dst (N := 9) rfl ?_); refine box_event ?hg (N := 9) ?hd (cs := #[.int .i64 0, .slice none 0 0, .slice none 0 0]) (t := 27) ?hr ?_; (case hd => rfl); (case hg => rfl); (case hr => first | (go_simp; done) | (go_simp; rfl)); intro gb139 hg w22 hbox hb; have n0_ := Aside0.mk (blk_below (g := gb134) (o := .cells #[.int .i64 a0_0, .slice A0_1 l0_1.length c0_1, .slice (some ad138) l0_2.length c0_2] 27 (0, 0)) (by (with_reducible repeat (first | refine blk_drewN ?_ _ | refine blk_drew ?_ | refine blk_alloc ?_ _)); exact BK134.out) hb); have n1_ := Aside0.mk (below_step (by repeat (first | (with_reducible first | exact HB.out | apply below_alloc | apply pw_below_drewN | apply below_drew1 | refine below_set ?_ GE134.out) | exact HB.out)) hb); have n2_ := Aside0.mk (hbox); have n3_ := Aside0.mk ((by rw [hg]; exact (below_size (by repeat (first | (with_reducible first | exact HB.out | apply below_alloc | apply pw_below_drewN | apply below_drew1 | refine below_set ?_ GE134.out) | exact HB.out))) : w.heap.size ≤ gb139)); have n4_ := Aside0.mk ((by rw [hg]; exact (below_size (by repeat (first | (with_reducible first | exact HB.out | apply below_alloc | apply pw_below_drewN | apply below_drew1 | refine below_set ?_ GE134.out) | exact HB.out))) : w.heap.size ≤ gb139)); have n5_ := Aside0.mk ((by rw [hg]; exact Nat.ne_of_lt (blk_lt (g := gb134) (o := .cells #[.int .i64 a0_0, .slice A0_1 l0_1.length c0_1, .slice (some ad138) l0_2.length c0_2] 27 (0, 0)) (by (with_reducible repeat (first | refine blk_drewN ?_ _ | refine blk_drew ?_ | refine blk_alloc ?_ _)); exact BK134.out)) : gb134 ≠ gb139)); have n6_ := Aside0.mk ((by rw [hg]; exact Nat.ne_of_gt (blk_lt (g := gb134) (o := .cells #[.int .i64 a0_0, .slice A0_1 l0_1.length c0_1, .slice (some ad138) l0_2.length c0_2] 27 (0, 0)) (by (with_reducible repeat (first | refine blk_drewN ?_ _ | refine blk_drew ?_ | refine blk_alloc ?_ _)); exact BK134.out)) : gb139 ≠ gb134)); clear BK134; clear HB; have BK134 := n0_; have HB := n1_; have BK139 := n2_; have GW139 := n3_; have GE139 := n4_; have NB134_139 := n5_; have NB139_134 := n6_; clear n0_ n1_ n2_ n3_ n4_ n5_ n6_; clear hb hbox hg; have hnb23 := NB139_134.out; have hnc23 := NB134_139.out; have hcz24_0 : w22.cell? ⟨gb139, 0, none⟩ = some (.int .i64 0) := (blk_cell BK139.out 0).trans rfl; have hcz24_1 : w22.cell? ⟨gb139, 1, none⟩ = some (.slice none 0 0) := (blk_cell BK139.out 1).trans rfl; have hcz24_2 : w22.cell? ⟨gb139, 2, none⟩ = some (.slice none 0 0) := (blk_cell BK139.out 2).trans rfl; have hfz24_0 := blk_frozen BK139.out 0; have hfz24_1 := blk_frozen BK139.out 1; have hfz24_2 := blk_frozen BK139.out 2) | ((with_reducible refine gate_callee (f := 31) rfl ?_); refine goesL_ (some 35) rfl rfl Tryd.func31 (by kernel_rfl) rfl #[.agg #[.int .i64 ((rd_T27 l0_2 x29_2).f0), .slice A138_1 ((rd_T27 l0_2 x29_2).f1).length c138_1, .slice A138_2 ((rd_T27 l0_2 x29_2).f2).length c138_2], .int .i64 a1] rfl (by (try simp only [List.map_toArray, List.map_cons, List.map_nil]); first | done | rfl | (simp only [List.length_drop, List.length_take]; rfl)) ?_; (with_reducible refine (ih k2 (by have := HK1.out; have := HK2.out; omega) ((rd_T27 l0_2 x29_2).f0) _ _ ((rd_T27 l0_2 x29_2).f1) _ _ ((rd_T27 l0_2 x29_2).f2) a1 false _ ?side1 ?side2 ?side3 ?side4 A16.out).mono ?_); (case side1 => exact Kd.C_below HR138_1.out (by repeat (first | (with_reducible first | exact HB.out | apply below_alloc | apply pw_below_drewN | apply below_drew1 | refine below_set ?_ GE134.out | refine below_set ?_ GE139.out) | exact HB.out))); (case side2 => exact HC138_1.out); (case side3 => exact Kd.C_below HR138_2.out (by repeat (first | (with_reducible first | exact HB.out | apply below_alloc | apply pw_below_drewN | apply below_drew1 | refine below_set ?_ GE134.out | refine below_set ?_ GE139.out) | exact HB.out))); (case side4 => exact HC138_2.out); rintro e w25 ⟨rfl, hb⟩; refine ⟨_, rfl, ?_⟩; have n0_ := Aside0.mk (blk_below (g := gb134) (o := .cells #[.int .i64 a0_0, .slice A0_1 l0_1.length c0_1, .slice (some ad138) l0_2.length c0_2] 27 (0, 0)) (by (with_reducible repeat (first | refine blk_drewN ?_ _ | refine blk_drew ?_ | refine blk_alloc ?_ _)); refine blk_far ?_ NB134_139.out _; (with_reducible repeat (first | refine blk_drewN ?_ _ | refine blk_drew ?_ | refine blk_alloc ?_ _)); refine blk_far ?_ NB134_139.out _; (with_reducible repeat (first | refine blk_drewN ?_ _ | refine blk_drew ?_ | refine blk_alloc ?_ _)); refine blk_far ?_ NB134_139.out _; (with_reducible repeat (first | refine blk_drewN ?_ _ | refine blk_drew ?_ | refine blk_alloc ?_ _)); exact BK134.out) hb); have n1_ := Aside0.mk (blk_below (g := gb139) (o := .cells #[.int .i64 ((rd_T27 l0_2 x29_2).f0), .slice A138_1 ((rd_T27 l0_2 x29_2).f1).length c138_1, .slice A138_2 ((rd_T27 l0_2 x29_2).f2).length c138_2] 27 (0, 0)) (by (with_reducible repeat (first | refine blk_drewN ?_ _ | refine blk_drew ?_ | refine blk_alloc ?_ _)); refine blk_put (cs := #[.int .i64 ((rd_T27 l0_2 x29_2).f0), .slice A138_1 ((rd_T27 l0_2 x29_2).f1).length c138_1, .slice none 0 0]) ?_ 2 _ rfl; (with_reducible repeat (first | refine blk_drewN ?_ _ | refine blk_drew ?_ | refine blk_alloc ?_ _)); refine blk_put (cs := #[.int .i64 ((rd_T27 l0_2 x29_2).f0), .slice none 0 0, .slice none 0 0]) ?_ 1 _ rfl; (with_reducible repeat (first | refine blk_drewN ?_ _ | refine blk_drew ?_ | refine blk_alloc ?_ _)); refine blk_put (cs := #[.int .i64 0, .slice none 0 0, .slice none 0 0]) ?_ 0 _ rfl; (with_reducible repeat (first | refine blk_drewN ?_ _ | refine blk_drew ?_ | refine blk_alloc ?_ _)); exact BK139.out) hb); have n2_ := Aside0.mk (below_step (by repeat (first | (with_reducible first | exact HB.out | apply below_alloc | apply pw_below_drewN | apply below_drew1 | refine below_set ?_ GE134.out | refine below_set ?_ GE139.out) | exact HB.out)) hb); clear BK134; clear BK139; clear HB; have BK134 := n0_; have BK139 := n1_; have HB := n2_; clear n0_ n1_ n2_; (try clear hb); (try clear hb2); (try clear hk); (try clear hi)))
                      go_roundg k2
                      case measure => have := HK1.out; have := HK2.out; omega
                      case rel => exact ⟨(x5_2), (wrap64 (x29_2 + 1)), (by first | rfl | (simp; done) | (simp [*]; done)), (by first | rfl | (simp; done) | (simp [*]; done)), H', ⟨by have := HK1.out; have := HK2.out; omega⟩, ⟨by (with_reducible repeat (first | refine blk_drewN ?_ _ | refine blk_drew ?_ | refine blk_alloc ?_ _)); exact BK134.out⟩, ⟨by repeat (first | (with_reducible first | exact HB.out | apply below_alloc | apply pw_below_drewN | apply below_drew1 | refine below_set ?_ GE134.out | refine below_set ?_ GE139.out) | exact HB.out)⟩⟩
                  · rw [if_neg c15] at H
                    exact absurd H (by simp)
                · rw [if_neg c14] at H
                  exact absurd H (by simp)
              · rw [if_neg c13] at H
                have c13b0 : decide (x29_2 < (l0_2.length : Int)) = false := decide_eq_false c13
                clear c13
                obtain rfl := Option.some.inj H
                have hcz26_0 : wr.cell? ⟨gb134, 0, none⟩ = some (.int .i64 a0_0) := (blk_cell BK134.out 0).trans rfl
                have hcz26_1 : wr.cell? ⟨gb134, 1, none⟩ = some (.slice A0_1 l0_1.length c0_1) := (blk_cell BK134.out 1).trans rfl
                have hcz26_2 : wr.cell? ⟨gb134, 2, none⟩ = some (.slice A0_2 l0_2.length c0_2) := (blk_cell BK134.out 2).trans rfl
                have hfz26_0 := blk_frozen BK134.out 0
                have hfz26_1 := blk_frozen BK134.out 1
                have hfz26_2 := blk_frozen BK134.out 2
                go_wp2
                go_ret
                exact ⟨by first | rfl | (simp [errW_none, errW_some] <;> rfl) | (simp [*, errW_none, errW_some] <;> rfl), by repeat (first | (with_reducible first | exact HB.out | apply below_alloc | apply pw_below_drewN | apply below_drew1 | refine below_set ?_ GE134.out) | exact HB.out)⟩
  · replace c4 := Bool.eq_false_iff.mpr c4
    subst c4
    have H1 : (some false) = some r := by rw [if_neg (show ¬ (false = true) by decide)] at H; exact H
    clear H
    have H := H1
    clear H1
    obtain rfl := Option.some.inj H
    go_enter Tryd.func31, Tryd.ntmps31
    go_wp2_with (first | ((with_reducible refine gate_dst (N := 2) rfl ?_); refine box_event ?hg (N := 2) ?hd (cs := #[.int .i64 a0_0, .slice A0_1 l0_1.length c0_1, .slice A0_2 l0_2.length c0_2]) (t := 27) ?hr ?_; (case hd => rfl); (case hg => rfl); (case hr => first | (go_simp; done) | (go_simp; rfl)); intro gb134 hg w27 hbox hb; have n0_ := Aside0.mk (below_step (by repeat (first | (with_reducible first | exact HB.out | apply below_alloc | apply pw_below_drewN | apply below_drew1) | exact HB.out)) hb); have n1_ := Aside0.mk (hbox); have n2_ := Aside0.mk ((by rw [hg]; exact (below_size (by repeat (first | (with_reducible first | exact HB.out | apply below_alloc | apply pw_below_drewN | apply below_drew1) | exact HB.out))) : w.heap.size ≤ gb134)); have n3_ := Aside0.mk ((by rw [hg]; exact (below_size (by repeat (first | (with_reducible first | exact HB.out | apply below_alloc | apply pw_below_drewN | apply below_drew1) | exact HB.out))) : w.heap.size ≤ gb134)); clear HB; have HB := n0_; have BK134 := n1_; have GW134 := n2_; have GE134 := n3_; clear n0_ n1_ n2_ n3_; clear hb hbox hg) | ((with_reducible refine gate_callee (f := 52) rfl ?_); refine goesL_ (some 11) rfl rfl Tryd.func52 (by kernel_rfl) rfl #[.int .i64 a1] rfl (by (try simp only [List.map_toArray, List.map_cons, List.map_nil]); first | done | rfl | (simp only [List.length_drop, List.length_take]; rfl)) ?_; (with_reducible refine (nodeset_Valid.calls a1 false _ A3.out).mono ?_); rintro e w' ⟨rfl, ⟨nd, rfl⟩⟩; refine ⟨_, rfl, ?_⟩))
    go_ret
    exact ⟨by first | rfl | (simp [errW_none, errW_some] <;> rfl) | (simp [*, errW_none, errW_some] <;> rfl), by repeat (first | (with_reducible first | exact HB.out | apply below_alloc | apply pw_below_drewN | apply below_drew1 | refine below_set ?_ GE134.out) | exact HB.out)⟩

end Go.Proofs.YtocadlecfddbcaaDoor.QCatchupTrusts
