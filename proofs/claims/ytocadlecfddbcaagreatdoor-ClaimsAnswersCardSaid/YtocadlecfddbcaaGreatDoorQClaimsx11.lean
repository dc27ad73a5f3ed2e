-- Written by a program of this session (wip/tools/myprint.py) out of the translation, by the kit's print. Lean checks it.
import Derived.Test.YtocadlecfddbcaaGreatDoorQClaimsx0
import Derived.Test.YtocadlecfddbcaaGreatDoorQClaimsx9
import Derived.Test.YtocadlecfddbcaaGreatDoorGText
namespace Go.Proofs.YtocadlecfddbcaaGreatDoor.QClaims
open Go.RowKit Go.Proofs.YtocadlecfddbcaaGreatDoorW.PrintWords Go.Proofs.YtocadlecfddbcaaGreatDoorW.PrintLast Go.Proofs.YtocadlecfddbcaaGreatDoorW.PrintMore
attribute [local go_sem] max2_int min2_int max_two min_two max_three min_three max_four min_four   -- for this text's walks alone
set_option linter.unusedVariables false
set_option linter.unusedSimpArgs false

/-! ### trustquorumref17_Parse: function 34 -/
mutual
def trustquorumref17_Parse.l0 : Nat → ByteArray → List (S24) → Int → Option ((List (S24)) × Int)
  | 0, _, _, _ => none
  | k + 1, x0, x4, x5 => if x5 < 8 then (trustquorumref17_Parse.l1 k x0 x4 x5 0) else ((trustquorumref17_Text.f k x4).bind fun t269 => (if t269.toList = x0.toList then (some (x4, 0)) else (some (([] : List (S24)), 2))))
def trustquorumref17_Parse.l1 : Nat → ByteArray → List (S24) → Int → Int → Option ((List (S24)) × Int)
  | 0, _, _, _, _ => none
  | k + 1, x0, x4, x5, x6 => if x6 ≤ 15 then ((strconv_Itoa.f x5).bind fun t270 => (if t270.size + 1 ≤ 9223372036854775807 then ((strconv_Itoa.f x6).bind fun t271 => (if (t270 ++ (⟨#[61]⟩ : ByteArray)).size + t271.size ≤ 9223372036854775807 then (trustquorumref17_Parse.l2 k x0 x4 x5 x6 ((t270 ++ (⟨#[61]⟩ : ByteArray)) ++ t271) (((t270 ++ (⟨#[61]⟩ : ByteArray)) ++ t271).size : Int) 0) else (none))) else (none))) else (trustquorumref17_Parse.l0 k x0 x4 (wrap64 (x5 + 1)))
def trustquorumref17_Parse.l2 : Nat → ByteArray → List (S24) → Int → Int → ByteArray → Int → Int → Option ((List (S24)) × Int)
  | 0, _, _, _, _, _, _, _ => none
  | k + 1, x0, x4, x5, x6, x7, x8, x9 => if (wrap64 (x9 + x8)) ≤ (x0.size : Int) then (if 0 ≤ x9 then (if x9 ≤ (wrap64 (x9 + x8)) then (if (x0.extract (x9 : Int).toNat ((wrap64 (x9 + x8)) : Int).toNat).toList = x7.toList then (if x9 = 0 then (if (wrap64 (x9 + x8)) = (x0.size : Int) then (if x4.length < 8796093022208 then (trustquorumref17_Parse.l1 k x0 (x4 ++ [(⟨x5, x6⟩ : S24)]) x5 (wrap64 (x6 + 1))) else (none)) else (if 0 ≤ (wrap64 (x9 + x8)) then (if (wrap64 (x9 + x8)) < (x0.size : Int) then (if (bt x0 (wrap64 (x9 + x8))) = 32 then (if x4.length < 8796093022208 then (trustquorumref17_Parse.l1 k x0 (x4 ++ [(⟨x5, x6⟩ : S24)]) x5 (wrap64 (x6 + 1))) else (none)) else (trustquorumref17_Parse.l2 k x0 x4 x5 x6 x7 x8 (wrap64 (x9 + 1)))) else (none)) else (none))) else (if 0 ≤ (wrap64 (x9 - 1)) then (if (wrap64 (x9 - 1)) < (x0.size : Int) then (if (bt x0 (wrap64 (x9 - 1))) = 32 then (if (wrap64 (x9 + x8)) = (x0.size : Int) then (if x4.length < 8796093022208 then (trustquorumref17_Parse.l1 k x0 (x4 ++ [(⟨x5, x6⟩ : S24)]) x5 (wrap64 (x6 + 1))) else (none)) else (if 0 ≤ (wrap64 (x9 + x8)) then (if (wrap64 (x9 + x8)) < (x0.size : Int) then (if (bt x0 (wrap64 (x9 + x8))) = 32 then (if x4.length < 8796093022208 then (trustquorumref17_Parse.l1 k x0 (x4 ++ [(⟨x5, x6⟩ : S24)]) x5 (wrap64 (x6 + 1))) else (none)) else (trustquorumref17_Parse.l2 k x0 x4 x5 x6 x7 x8 (wrap64 (x9 + 1)))) else (none)) else (none))) else (trustquorumref17_Parse.l2 k x0 x4 x5 x6 x7 x8 (wrap64 (x9 + 1)))) else (none)) else (none))) else (trustquorumref17_Parse.l2 k x0 x4 x5 x6 x7 x8 (wrap64 (x9 + 1)))) else (none)) else (none)) else (trustquorumref17_Parse.l1 k x0 x4 x5 (wrap64 (x6 + 1)))
end
def trustquorumref17_Parse.f (k : Nat) (a0 : ByteArray) : Option ((List (S24)) × Int) := if (a0.size : Int) > 6000 then (some (([] : List (S24)), 3)) else (trustquorumref17_Parse.l0 k a0 ([] : List (S24)) 0)
theorem trustquorumref17_Parse.mono_l : ∀ k, (∀ y0 y1 y2, LeO (trustquorumref17_Parse.l0 k y0 y1 y2) (trustquorumref17_Parse.l0 (k + 1) y0 y1 y2)) ∧ (∀ y0 y1 y2 y3, LeO (trustquorumref17_Parse.l1 k y0 y1 y2 y3) (trustquorumref17_Parse.l1 (k + 1) y0 y1 y2 y3)) ∧ (∀ y0 y1 y2 y3 y4 y5 y6, LeO (trustquorumref17_Parse.l2 k y0 y1 y2 y3 y4 y5 y6) (trustquorumref17_Parse.l2 (k + 1) y0 y1 y2 y3 y4 y5 y6))
  | 0 => ⟨fun _ _ _ r h => by simp [trustquorumref17_Parse.l0] at h, fun _ _ _ _ r h => by simp [trustquorumref17_Parse.l1] at h, fun _ _ _ _ _ _ _ r h => by simp [trustquorumref17_Parse.l2] at h⟩
  | k + 1 => by
    obtain ⟨ih0, ih1, ih2⟩ := trustquorumref17_Parse.mono_l k
    refine ⟨?_, ?_, ?_⟩
    · intro y0 y1 y2
      unfold trustquorumref17_Parse.l0
      repeat' first
      | (with_reducible exact ih0 _ _ _)
      | (with_reducible exact ih1 _ _ _ _)
      | (with_reducible exact ih2 _ _ _ _ _ _ _)
      | (with_reducible exact trustquorumref17_Text.mono _ _)
      | (with_reducible exact LeO.refl _)
      | (with_reducible exact LeO.none _)
      | (with_reducible refine LeO.ite ?_ ?_)
      | (with_reducible refine LeO.bind ?_ (fun _ => ?_))
      | exact ih0 _ _ _
      | exact ih1 _ _ _ _
      | exact ih2 _ _ _ _ _ _ _
      | exact trustquorumref17_Text.mono _ _
      | exact LeO.none _
      | refine LeO.ite ?_ ?_
      | refine LeO.bind ?_ (fun _ => ?_)
    · intro y0 y1 y2 y3
      unfold trustquorumref17_Parse.l1
      repeat' first
      | (with_reducible exact ih0 _ _ _)
      | (with_reducible exact ih1 _ _ _ _)
      | (with_reducible exact ih2 _ _ _ _ _ _ _)
      | (with_reducible exact trustquorumref17_Text.mono _ _)
      | (with_reducible exact LeO.refl _)
      | (with_reducible exact LeO.none _)
      | (with_reducible refine LeO.ite ?_ ?_)
      | (with_reducible refine LeO.bind ?_ (fun _ => ?_))
      | exact ih0 _ _ _
      | exact ih1 _ _ _ _
      | exact ih2 _ _ _ _ _ _ _
      | exact trustquorumref17_Text.mono _ _
      | exact LeO.none _
      | refine LeO.ite ?_ ?_
      | refine LeO.bind ?_ (fun _ => ?_)
    · intro y0 y1 y2 y3 y4 y5 y6
      unfold trustquorumref17_Parse.l2
      repeat' first
      | (with_reducible exact ih0 _ _ _)
      | (with_reducible exact ih1 _ _ _ _)
      | (with_reducible exact ih2 _ _ _ _ _ _ _)
      | (with_reducible exact trustquorumref17_Text.mono _ _)
      | (with_reducible exact LeO.refl _)
      | (with_reducible exact LeO.none _)
      | (with_reducible refine LeO.ite ?_ ?_)
      | (with_reducible refine LeO.bind ?_ (fun _ => ?_))
      | exact ih0 _ _ _
      | exact ih1 _ _ _ _
      | exact ih2 _ _ _ _ _ _ _
      | exact trustquorumref17_Text.mono _ _
      | exact LeO.none _
      | refine LeO.ite ?_ ?_
      | refine LeO.bind ?_ (fun _ => ?_)
theorem trustquorumref17_Parse.mono : ∀ a0 k, LeO (trustquorumref17_Parse.f k a0) (trustquorumref17_Parse.f (k + 1) a0) := by
  intro a0 k
  obtain ⟨ih0, ih1, ih2⟩ := trustquorumref17_Parse.mono_l k
  unfold trustquorumref17_Parse.f
  repeat' first
      | (with_reducible exact ih0 _ _ _)
      | (with_reducible exact ih1 _ _ _ _)
      | (with_reducible exact ih2 _ _ _ _ _ _ _)
      | (with_reducible exact trustquorumref17_Text.mono _ _)
      | (with_reducible exact LeO.refl _)
      | (with_reducible exact LeO.none _)
      | (with_reducible refine LeO.ite ?_ ?_)
      | (with_reducible refine LeO.bind ?_ (fun _ => ?_))
      | exact ih0 _ _ _
      | exact ih1 _ _ _ _
      | exact ih2 _ _ _ _ _ _ _
      | exact trustquorumref17_Text.mono _ _
      | exact LeO.none _
      | refine LeO.ite ?_ ?_
      | refine LeO.bind ?_ (fun _ => ?_)
set_option maxHeartbeats 8000000 in
set_option maxRecDepth 100000 in
theorem trustquorumref17_Parse.calls (k : Nat) (a0 : ByteArray) (r1 : List (S24)) (r2 : Int) (w : World) (h : trustquorumref17_Parse.f k a0 = some (r1, r2)) :
    Calls Tryz.prog 34 #[.string a0] w fun e w' => ∃ v0_ : Value, e = .returned (.tuple #[v0_, .int .i64 r2]) ∧ Kd.R k24 24 w' w.heap.size (fun _ => True) v0_ r1 ∧ Below w.heap.size w w' := by
  have hu24 := Tryz.underlying24
  have HB := Aside0.mk (Below.refl w.heap.size w)
  have H : (if (a0.size : Int) > 6000 then (some (([] : List (S24)), 3)) else (trustquorumref17_Parse.l0 k a0 ([] : List (S24)) 0)) = some (r1, r2) := h
  clear h
  by_cases c2 : (a0.size : Int) > 6000
  · rw [if_pos c2] at H
    have c2b0 : decide (6000 < (a0.size : Int)) = true := decide_eq_true c2
    have c2b1 : decide (6000 < a0.size) = true := decide_eq_true (by omega)
    clear c2
    simp only [Option.some.injEq, Prod.mk.injEq] at H
    obtain ⟨rfl, rfl⟩ := H
    go_enter Tryz.func34, Tryz.ntmps34
    go_wp2
    go_ret2
    exact ⟨_, by first | rfl | (simp [errW_none, errW_some] <;> rfl) | (simp [*, errW_none, errW_some] <;> rfl), by first | exact Kd.R_nil _ _ _ _ _ | exact Kd.N_nil _ _ _ _ _ | exact Kd.V_nil _ _ _ _ _ | exact Kd.Q_nil _ _ _ _ _ | exact Kd.S_nil _ _ _ _ _, by repeat (first | (with_reducible first | exact HB.out | apply below_alloc | apply pw_below_drewN | apply below_drew1) | exact HB.out)⟩
  · rw [if_neg c2] at H
    have c2b0 : decide (6000 < (a0.size : Int)) = false := decide_eq_false c2
    have c2b1 : decide (6000 < a0.size) = false := decide_eq_false (by omega)
    clear c2
    have H' := Aside0.mk H
    clear H
    go_enter Tryz.func34, Tryz.ntmps34
    go_wp2
    go_loopg [4, 5] k (fun kq v4 v5 w' => ∃ (x4_1 : List (S24)) (x5_1 : Int), v5 = .int .i64 x5_1 ∧ Aside0 (trustquorumref17_Parse.l0 kq a0 x4_1 x5_1 = some (r1, r2)) ∧ Aside0 (kq ≤ k) ∧ Aside0 (Kd.R k24 24 w' w.heap.size (fun _ => True) v4 x4_1) ∧ Aside0 (Below w.heap.size w w'))
    case atStart => exact ⟨(([] : List (S24))), (0), (by first | rfl | (simp; done) | (simp [*]; done)), H', ⟨Nat.le_refl _⟩, ⟨by first | exact Kd.R_nil _ _ _ _ _ | exact Kd.N_nil _ _ _ _ _ | exact Kd.V_nil _ _ _ _ _ | exact Kd.Q_nil _ _ _ _ _ | exact Kd.S_nil _ _ _ _ _⟩, ⟨by repeat (first | (with_reducible first | exact HB.out | apply below_alloc | apply pw_below_drewN | apply below_drew1) | exact HB.out)⟩⟩
    case round =>
      clear H'
      try clear c2
      try clear c2b0
      try clear c2b1
      try clear p2
      obtain ⟨x4_1, x5_1, rfl, HA, HK1, HO_4, HB⟩ := hrel
      cases gk with
      | zero => exact absurd HA.out (by simp [trustquorumref17_Parse.l0])
      | succ k1 =>
        have H := HA.out
        clear HA
        simp only [trustquorumref17_Parse.l0] at H
        by_cases c3 : x5_1 < 8
        · rw [if_pos c3] at H
          have c3b0 : decide (x5_1 < 8) = true := decide_eq_true c3
          clear c3
          have H' := Aside0.mk H
          clear H
          go_wp2
          go_loopg [4, 6] k1 (fun kq v4 v6 w' => ∃ (x4_2 : List (S24)) (x6_2 : Int), v6 = .int .i64 x6_2 ∧ Aside0 (trustquorumref17_Parse.l1 kq a0 x4_2 x5_1 x6_2 = some (r1, r2)) ∧ Aside0 (kq ≤ k1) ∧ Aside0 (Kd.R k24 24 w' w.heap.size (fun _ => True) v4 x4_2) ∧ Aside0 (Below w.heap.size w w'))
          case atStart => exact ⟨(x4_1), (0), (by first | rfl | (simp; done) | (simp [*]; done)), H', ⟨Nat.le_refl _⟩, ⟨by (with_reducible repeat (first | apply Kd.R_alloc | apply Kd.R_drewN | apply Kd.R_drew)); exact HO_4.out⟩, ⟨by repeat (first | (with_reducible first | exact HB.out | apply below_alloc | apply pw_below_drewN | apply below_drew1) | exact HB.out)⟩⟩
          case round =>
            clear H'
            try clear c2
            try clear c2b0
            try clear c2b1
            try clear p2
            try clear c3
            try clear c3b0
            try clear p2
            obtain ⟨x4_2, x6_2, rfl, HA, HK2, HO_4, HB⟩ := hrel
            cases gk with
            | zero => exact absurd HA.out (by simp [trustquorumref17_Parse.l1])
            | succ k2 =>
              have H := HA.out
              clear HA
              simp only [trustquorumref17_Parse.l1] at H
              by_cases c4 : x6_2 ≤ 15
              · rw [if_pos c4] at H
                have c4b0 : decide (x6_2 ≤ 15) = true := decide_eq_true c4
                clear c4
                replace H := Option.bind_eq_some_iff.mp H
                obtain ⟨t270, A50, H⟩ := H
                replace H : (if t270.size + 1 ≤ 9223372036854775807 then ((strconv_Itoa.f x6_2).bind fun t271 => (if (t270 ++ (⟨#[61]⟩ : ByteArray)).size + t271.size ≤ 9223372036854775807 then (trustquorumref17_Parse.l2 k2 a0 x4_2 x5_1 x6_2 ((t270 ++ (⟨#[61]⟩ : ByteArray)) ++ t271) (((t270 ++ (⟨#[61]⟩ : ByteArray)) ++ t271).size : Int) 0) else (none))) else (none)) = some (r1, r2) := H
                have A5 := Aside0.mk A50
                clear A50
                by_cases c6 : t270.size + 1 ≤ 9223372036854775807
                · rw [if_pos c6] at H
                  have c6b0 := eq_true c6
                  have c6b1 : decide (t270.size + 1 ≤ 9223372036854775807) = true := decide_eq_true c6
                  try have c6b2 : (9223372036854775807 < t270.size + 1) = False := eq_false (Nat.not_lt.2 c6)
                  replace H := Option.bind_eq_some_iff.mp H
                  obtain ⟨t271, A70, H⟩ := H
                  replace H : (if (t270 ++ (⟨#[61]⟩ : ByteArray)).size + t271.size ≤ 9223372036854775807 then (trustquorumref17_Parse.l2 k2 a0 x4_2 x5_1 x6_2 ((t270 ++ (⟨#[61]⟩ : ByteArray)) ++ t271) (((t270 ++ (⟨#[61]⟩ : ByteArray)) ++ t271).size : Int) 0) else (none)) = some (r1, r2) := H
                  have A7 := Aside0.mk A70
                  clear A70
                  by_cases c8 : (t270 ++ (⟨#[61]⟩ : ByteArray)).size + t271.size ≤ 9223372036854775807
                  · rw [if_pos c8] at H
                    have c8b0 := eq_true c8
                    have c8b1 : decide ((t270 ++ (⟨#[61]⟩ : ByteArray)).size + t271.size ≤ 9223372036854775807) = true := decide_eq_true c8
                    try have c8b2 : (9223372036854775807 < (t270 ++ (⟨#[61]⟩ : ByteArray)).size + t271.size) = False := eq_false (Nat.not_lt.2 c8)
                    have c8b3 : (9223372036854775807 < t270.size + 1 + t271.size) = False := by have h_ := c8b2; simp only [ByteArray.size_append] at h_; exact h_
                    have H' := Aside0.mk H
                    clear H
                    go_wp2_with (first | ((with_reducible refine gate_callee (f := 40) rfl ?_); refine goesL_ (some 22) rfl rfl Tryz.func40 (by kernel_rfl) rfl #[.int .i64 x5_1] rfl (by (try simp only [List.map_toArray, List.map_cons, List.map_nil]); first | done | rfl | (simp only [List.length_drop, List.length_take]; rfl)) ?_; (with_reducible refine (strconv_Itoa.calls x5_1 t270 _ A5.out).mono ?_); rintro e w9 ⟨rfl, hb⟩; refine ⟨_, rfl, ?_⟩; have n0_ := Aside0.mk (Kd.R_below (by (with_reducible repeat (first | apply Kd.R_alloc | apply Kd.R_drewN | apply Kd.R_drew)); exact HO_4.out) hb); have n1_ := Aside0.mk (below_step (by repeat (first | (with_reducible first | exact HB.out | apply below_alloc | apply pw_below_drewN | apply below_drew1) | exact HB.out)) hb); clear HO_4; clear HB; have HO_4 := n0_; have HB := n1_; clear n0_ n1_; (try clear hb); (try clear hb2); (try clear hk); (try clear hi)) | ((with_reducible refine gate_callee (f := 40) rfl ?_); refine goesL_ (some 25) rfl rfl Tryz.func40 (by kernel_rfl) rfl #[.int .i64 x6_2] rfl (by (try simp only [List.map_toArray, List.map_cons, List.map_nil]); first | done | rfl | (simp only [List.length_drop, List.length_take]; rfl)) ?_; (with_reducible refine (strconv_Itoa.calls x6_2 t271 _ A7.out).mono ?_); rintro e w10 ⟨rfl, hb⟩; refine ⟨_, rfl, ?_⟩; have n0_ := Aside0.mk (Kd.R_below (by (with_reducible repeat (first | apply Kd.R_alloc | apply Kd.R_drewN | apply Kd.R_drew)); exact HO_4.out) hb); have n1_ := Aside0.mk (below_step (by repeat (first | (with_reducible first | exact HB.out | apply below_alloc | apply pw_below_drewN | apply below_drew1) | exact HB.out)) hb); clear HO_4; clear HB; have HO_4 := n0_; have HB := n1_; clear n0_ n1_; (try clear hb); (try clear hb2); (try clear hk); (try clear hi)))
                    obtain ⟨X_, hX_⟩ : ∃ X_ : ByteArray, ((t270 ++ (⟨#[61]⟩ : ByteArray)) ++ t271) = X_ := ⟨_, rfl⟩
                    have hS_ : ((t270.size : Int) + 1 + (t271.size : Int)) = (X_.size : Int) := by rw [← hX_, ByteArray.size_append, ByteArray.size_append]; rfl
                    have H'' := H'.out
                    rw [hX_] at H''
                    clear H'
                    have H' := Aside0.mk H''
                    clear H''
                    simp only [hS_, hX_]
                    clear hS_ hX_
                    clear c6b0 c6b1 c8b0 c8b1
                    (try clear c6b2)
                    (try clear c6b3)
                    (try clear c8b2)
                    (try clear c8b3)
                    go_loopg [4, 9] k2 (fun kq v4 v9 w' => ∃ (x4_3 : List (S24)) (x9_3 : Int), v9 = .int .i64 x9_3 ∧ Aside0 (trustquorumref17_Parse.l2 kq a0 x4_3 x5_1 x6_2 X_ (X_.size : Int) x9_3 = some (r1, r2)) ∧ Aside0 (kq ≤ k2) ∧ Aside0 (Kd.R k24 24 w' w.heap.size (fun _ => True) v4 x4_3) ∧ Aside0 (Below w.heap.size w w'))
                    case atStart => exact ⟨(x4_2), (0), (by first | rfl | (simp; done) | (simp [*]; done)), H', ⟨Nat.le_refl _⟩, ⟨by (with_reducible repeat (first | apply Kd.R_alloc | apply Kd.R_drewN | apply Kd.R_drew)); exact HO_4.out⟩, ⟨by repeat (first | (with_reducible first | exact HB.out | apply below_alloc | apply pw_below_drewN | apply below_drew1) | exact HB.out)⟩⟩
                    case round =>
                      clear H'
                      try clear c2
                      try clear c2b0
                      try clear c2b1
                      try clear p2
                      try clear c3
                      try clear c3b0
                      try clear c4
                      try clear c4b0
                      try clear c6
                      try clear c6b0
                      try clear c6b1
                      try clear c6b2
                      try clear c8
                      try clear c8b0
                      try clear c8b1
                      try clear c8b2
                      try clear p2
                      obtain ⟨x4_3, x9_3, rfl, HA, HK3, HO_4, HB⟩ := hrel
                      cases gk with
                      | zero => exact absurd HA.out (by simp [trustquorumref17_Parse.l2])
                      | succ k3 =>
                        have H := HA.out
                        clear HA
                        simp only [trustquorumref17_Parse.l2] at H
                        by_cases c11 : (wrap64 (x9_3 + (X_.size : Int))) ≤ (a0.size : Int)
                        · rw [if_pos c11] at H
                          have c11b0 : decide ((wrap64 (x9_3 + (X_.size : Int))) ≤ (a0.size : Int)) = true := decide_eq_true c11
                          clear c11
                          by_cases c12 : 0 ≤ x9_3
                          · rw [if_pos c12] at H
                            have c12b0 := eq_true c12
                            have c12b1 : decide (0 ≤ x9_3) = true := decide_eq_true c12
                            clear c12
                            by_cases c13 : x9_3 ≤ (wrap64 (x9_3 + (X_.size : Int)))
                            · rw [if_pos c13] at H
                              have c13b0 := eq_true c13
                              have c13b1 : decide (x9_3 ≤ (wrap64 (x9_3 + (X_.size : Int)))) = true := decide_eq_true c13
                              have c14b0 := eq_true (of_decide_eq_true (by first | (with_reducible assumption) | assumption) : (wrap64 (x9_3 + (X_.size : Int))) ≤ (a0.size : Int))
                              by_cases c15 : (a0.extract (x9_3 : Int).toNat ((wrap64 (x9_3 + (X_.size : Int))) : Int).toNat).toList = X_.toList
                              · rw [if_pos c15] at H
                                have c15b0 : ((a0.extract (x9_3 : Int).toNat ((wrap64 (x9_3 + (X_.size : Int))) : Int).toNat).toList == X_.toList) = true := beq_iff_eq.mpr c15
                                have c15b1 : ((a0.extract (x9_3 : Int).toNat ((wrap64 (x9_3 + (X_.size : Int))) : Int).toNat).toList != X_.toList) = false := bne_eq_false_iff_eq.mpr c15
                                clear c15
                                by_cases c16 : x9_3 = 0
                                · rw [if_pos c16] at H
                                  have c16b0 : (x9_3 == 0) = true := beq_iff_eq.mpr c16
                                  have c16b1 : (x9_3 != 0) = false := bne_eq_false_iff_eq.mpr c16
                                  clear c16
                                  by_cases c17 : (wrap64 (x9_3 + (X_.size : Int))) = (a0.size : Int)
                                  · rw [if_pos c17] at H
                                    have c17b0 : ((wrap64 (x9_3 + (X_.size : Int))) == (a0.size : Int)) = true := beq_iff_eq.mpr c17
                                    have c17b1 : ((wrap64 (x9_3 + (X_.size : Int))) != (a0.size : Int)) = false := bne_eq_false_iff_eq.mpr c17
                                    clear c17
                                    by_cases c18 : x4_3.length < 8796093022208
                                    · rw [if_pos c18] at H
                                      have LMc18 := Aside0.mk c18
                                      clear c18
                                      obtain ⟨y272, hy272⟩ : ∃ y_ : List (S24), y_ = (x4_3 ++ [(⟨x5_1, x6_2⟩ : S24)]) := ⟨_, rfl⟩
                                      replace H : (trustquorumref17_Parse.l1 k3 a0 y272 x5_1 (wrap64 (x6_2 + 1))) = some (r1, r2) := by first | (rw [hy272]; with_reducible exact H) | (have H2_ := (Option.bind_some _ _).symm.trans H; rw [hy272]; with_reducible exact H2_) | (have H2_ := (Option.bind_some _ _).symm.trans H; with_reducible exact H2_) | with_reducible exact H | (rw [hy272]; exact H) | exact H
                                      have Ny272 := Aside0.mk hy272
                                      clear hy272
                                      have H' := Aside0.mk H
                                      clear H
                                      go_wp2_with (first | ((with_reducible refine gate_builtin (b := .append) (xs := #[.tmp 72, .tmp 76]) rfl ?_); (try (refine gate_guard (by rfl) ?_; dsimp only)); at_builtin; refine Kd.R_append k24 (w0 := w) w.heap.size rfl (.tmp 72) (.tmp 76) 25 24 (.agg #[(.int .i64 0), (.int .i64 0)]) 16 rfl Tryz.underlying25 info24 rfl (by decide) (by omega) u4 x4_3 (⟨x5_1, x6_2⟩ : S24) [.int .i64 x5_1, .int .i64 x6_2] (fun _ => True) (fun _ => False) rfl rfl ?aP (fun _ hk => hk.elim) ?aF ?aO ?aB ?aS ?aL ?_; (case aP => exact k24_mkM _ _ _ (⟨x5_1, x6_2⟩ : S24)); (case aB => exact (by repeat (first | (with_reducible first | exact HB.out | apply below_alloc | apply pw_below_drewN | apply below_drew1) | exact HB.out))); (case aF => exact (fun _ _ => trivial)); (case aO => exact (by (with_reducible repeat (first | apply Kd.R_alloc | apply Kd.R_drewN | apply Kd.R_drew)); exact HO_4.out)); (case aS => exact (below_size (by repeat (first | (with_reducible first | exact HB.out | apply below_alloc | apply pw_below_drewN | apply below_drew1) | exact HB.out)))); (case aL => have := LMc18.out; omega); intro v273 w19 ho hb hg hat; rw [← Ny272.out] at ho; have n0_ := Aside0.mk (hb); have n1_ := Aside0.mk (ho); clear HB; clear HO_4; have HB := n0_; have HO274 := n1_; clear n0_ n1_; clear ho hb hg hat))
                                      go_roundg k3
                                      case measure => have := HK1.out; have := HK2.out; have := HK3.out; omega
                                      case rel => exact ⟨(y272), (wrap64 (x6_2 + 1)), (by first | rfl | (simp; done) | (simp [*]; done)), H', ⟨by have := HK1.out; have := HK2.out; have := HK3.out; omega⟩, ⟨by (with_reducible repeat (first | apply Kd.R_alloc | apply Kd.R_drewN | apply Kd.R_drew)); exact HO274.out⟩, ⟨by repeat (first | (with_reducible first | exact HB.out | apply below_alloc | apply pw_below_drewN | apply below_drew1) | exact HB.out)⟩⟩
                                    · rw [if_neg c18] at H
                                      exact absurd H (by simp)
                                  · rw [if_neg c17] at H
                                    have c17b0 : ((wrap64 (x9_3 + (X_.size : Int))) == (a0.size : Int)) = false := beq_eq_false_iff_ne.mpr c17
                                    have c17b1 : ((wrap64 (x9_3 + (X_.size : Int))) != (a0.size : Int)) = true := bne_iff_ne.mpr c17
                                    obtain ⟨ji20, hji20⟩ : ∃ j_ : Int, (wrap64 (x9_3 + (X_.size : Int))) = j_ := ⟨_, rfl⟩
                                    (try rw [hji20] at c14b0)
                                    replace H : (if 0 ≤ (ji20) then (if (ji20) < (a0.size : Int) then (if (bt a0 (ji20)) = 32 then (if x4_3.length < 8796093022208 then (trustquorumref17_Parse.l1 k3 a0 (x4_3 ++ [(⟨x5_1, x6_2⟩ : S24)]) x5_1 (wrap64 (x6_2 + 1))) else (none)) else (trustquorumref17_Parse.l2 k3 a0 x4_3 x5_1 x6_2 X_ (X_.size : Int) (wrap64 (x9_3 + 1)))) else (none)) else (none)) = some (r1, r2) := by first | (rw [hji20] at H; exact H) | (simp only [hji20] at H ⊢; exact H)
                                    (try rw [hji20] at c11b0)
                                    (try rw [hji20] at c13b0)
                                    (try rw [hji20] at c13b1)
                                    (try rw [hji20] at c13)
                                    (try rw [hji20] at c15b0)
                                    (try rw [hji20] at c15b1)
                                    (try rw [hji20] at c17b0)
                                    (try rw [hji20] at c17b1)
                                    have hji20w : (IntKind.i64.wrap (x9_3 + (X_.size : Int))) = ji20 := (i64_w _).trans hji20
                                    by_cases c21 : 0 ≤ (ji20)
                                    · rw [if_pos c21] at H
                                      have c21b0 : decide (0 ≤ (ji20)) = true := decide_eq_true c21
                                      clear c21
                                      by_cases c22 : (ji20) < (a0.size : Int)
                                      · rw [if_pos c22] at H
                                        have c22b0 : decide ((ji20) < (a0.size : Int)) = true := decide_eq_true c22
                                        clear c22
                                        by_cases c24 : (bt a0 (ji20)) = 32
                                        · rw [if_pos c24] at H
                                          have c24b0 : ((bt a0 (ji20)) == 32) = true := beq_iff_eq.mpr c24
                                          have c24b1 : ((bt a0 (ji20)) != 32) = false := bne_eq_false_iff_eq.mpr c24
                                          clear c24
                                          by_cases c25 : x4_3.length < 8796093022208
                                          · rw [if_pos c25] at H
                                            have LMc25 := Aside0.mk c25
                                            clear c25
                                            obtain ⟨y275, hy275⟩ : ∃ y_ : List (S24), y_ = (x4_3 ++ [(⟨x5_1, x6_2⟩ : S24)]) := ⟨_, rfl⟩
                                            replace H : (trustquorumref17_Parse.l1 k3 a0 y275 x5_1 (wrap64 (x6_2 + 1))) = some (r1, r2) := by first | (rw [hy275]; with_reducible exact H) | (have H2_ := (Option.bind_some _ _).symm.trans H; rw [hy275]; with_reducible exact H2_) | (have H2_ := (Option.bind_some _ _).symm.trans H; with_reducible exact H2_) | with_reducible exact H | (rw [hy275]; exact H) | exact H
                                            have Ny275 := Aside0.mk hy275
                                            clear hy275
                                            have H' := Aside0.mk H
                                            clear H
                                            have p23 : 0 ≤ ((ji20) : Int) := of_decide_eq_true (by first | (with_reducible assumption) | assumption)
                                            have q23 : (ji20) < (a0.size : Int) := of_decide_eq_true (by first | (with_reducible assumption) | assumption)
                                            have hx23 := bt_at a0 (ji20)
                                            replace p23 := eq_true p23
                                            replace q23 := eq_true q23
                                            go_wp2_with (first | ((with_reducible refine gate_builtin (b := .append) (xs := #[.tmp 72, .tmp 76]) rfl ?_); (try (refine gate_guard (by rfl) ?_; dsimp only)); at_builtin; refine Kd.R_append k24 (w0 := w) w.heap.size rfl (.tmp 72) (.tmp 76) 25 24 (.agg #[(.int .i64 0), (.int .i64 0)]) 16 rfl Tryz.underlying25 info24 rfl (by decide) (by omega) u4 x4_3 (⟨x5_1, x6_2⟩ : S24) [.int .i64 x5_1, .int .i64 x6_2] (fun _ => True) (fun _ => False) rfl rfl ?aP (fun _ hk => hk.elim) ?aF ?aO ?aB ?aS ?aL ?_; (case aP => exact k24_mkM _ _ _ (⟨x5_1, x6_2⟩ : S24)); (case aB => exact (by repeat (first | (with_reducible first | exact HB.out | apply below_alloc | apply pw_below_drewN | apply below_drew1) | exact HB.out))); (case aF => exact (fun _ _ => trivial)); (case aO => exact (by (with_reducible repeat (first | apply Kd.R_alloc | apply Kd.R_drewN | apply Kd.R_drew)); exact HO_4.out)); (case aS => exact (below_size (by repeat (first | (with_reducible first | exact HB.out | apply below_alloc | apply pw_below_drewN | apply below_drew1) | exact HB.out)))); (case aL => have := LMc25.out; omega); intro v276 w26 ho hb hg hat; rw [← Ny275.out] at ho; have n0_ := Aside0.mk (hb); have n1_ := Aside0.mk (ho); clear HB; clear HO_4; have HB := n0_; have HO277 := n1_; clear n0_ n1_; clear ho hb hg hat))
                                            go_roundg k3
                                            case measure => have := HK1.out; have := HK2.out; have := HK3.out; omega
                                            case rel => exact ⟨(y275), (wrap64 (x6_2 + 1)), (by first | rfl | (simp; done) | (simp [*]; done)), H', ⟨by have := HK1.out; have := HK2.out; have := HK3.out; omega⟩, ⟨by (with_reducible repeat (first | apply Kd.R_alloc | apply Kd.R_drewN | apply Kd.R_drew)); exact HO277.out⟩, ⟨by repeat (first | (with_reducible first | exact HB.out | apply below_alloc | apply pw_below_drewN | apply below_drew1) | exact HB.out)⟩⟩
                                          · rw [if_neg c25] at H
                                            exact absurd H (by simp)
                                        · rw [if_neg c24] at H
                                          have c24b0 : ((bt a0 (ji20)) == 32) = false := beq_eq_false_iff_ne.mpr c24
                                          have c24b1 : ((bt a0 (ji20)) != 32) = true := bne_iff_ne.mpr c24
                                          have H' := Aside0.mk H
                                          clear H
                                          have p23 : 0 ≤ ((ji20) : Int) := of_decide_eq_true (by first | (with_reducible assumption) | assumption)
                                          have q23 : (ji20) < (a0.size : Int) := of_decide_eq_true (by first | (with_reducible assumption) | assumption)
                                          have hx23 := bt_at a0 (ji20)
                                          replace p23 := eq_true p23
                                          replace q23 := eq_true q23
                                          go_wp2
                                          go_roundg k3
                                          case measure => have := HK1.out; have := HK2.out; have := HK3.out; omega
                                          case rel => exact ⟨(x4_3), (wrap64 (x9_3 + 1)), (by first | rfl | (simp; done) | (simp [*]; done)), H', ⟨by have := HK1.out; have := HK2.out; have := HK3.out; omega⟩, ⟨by (with_reducible repeat (first | apply Kd.R_alloc | apply Kd.R_drewN | apply Kd.R_drew)); exact HO_4.out⟩, ⟨by repeat (first | (with_reducible first | exact HB.out | apply below_alloc | apply pw_below_drewN | apply below_drew1) | exact HB.out)⟩⟩
                                      · rw [if_neg c22] at H
                                        exact absurd H (by simp)
                                    · rw [if_neg c21] at H
                                      exact absurd H (by simp)
                                · rw [if_neg c16] at H
                                  have c16b0 : (x9_3 == 0) = false := beq_eq_false_iff_ne.mpr c16
                                  have c16b1 : (x9_3 != 0) = true := bne_iff_ne.mpr c16
                                  obtain ⟨ji27, hji27⟩ : ∃ j_ : Int, (wrap64 (x9_3 - 1)) = j_ := ⟨_, rfl⟩
                                  (try rw [hji27] at c14b0)
                                  replace H : (if 0 ≤ (ji27) then (if (ji27) < (a0.size : Int) then (if (bt a0 (ji27)) = 32 then (if (wrap64 (x9_3 + (X_.size : Int))) = (a0.size : Int) then (if x4_3.length < 8796093022208 then (trustquorumref17_Parse.l1 k3 a0 (x4_3 ++ [(⟨x5_1, x6_2⟩ : S24)]) x5_1 (wrap64 (x6_2 + 1))) else (none)) else (if 0 ≤ (wrap64 (x9_3 + (X_.size : Int))) then (if (wrap64 (x9_3 + (X_.size : Int))) < (a0.size : Int) then (if (bt a0 (wrap64 (x9_3 + (X_.size : Int)))) = 32 then (if x4_3.length < 8796093022208 then (trustquorumref17_Parse.l1 k3 a0 (x4_3 ++ [(⟨x5_1, x6_2⟩ : S24)]) x5_1 (wrap64 (x6_2 + 1))) else (none)) else (trustquorumref17_Parse.l2 k3 a0 x4_3 x5_1 x6_2 X_ (X_.size : Int) (wrap64 (x9_3 + 1)))) else (none)) else (none))) else (trustquorumref17_Parse.l2 k3 a0 x4_3 x5_1 x6_2 X_ (X_.size : Int) (wrap64 (x9_3 + 1)))) else (none)) else (none)) = some (r1, r2) := by first | (rw [hji27] at H; exact H) | (simp only [hji27] at H ⊢; exact H)
                                  have hji27w : (IntKind.i64.wrap (x9_3 - 1)) = ji27 := (i64_w _).trans hji27
                                  by_cases c28 : 0 ≤ (ji27)
                                  · rw [if_pos c28] at H
                                    have c28b0 : decide (0 ≤ (ji27)) = true := decide_eq_true c28
                                    clear c28
                                    by_cases c29 : (ji27) < (a0.size : Int)
                                    · rw [if_pos c29] at H
                                      have c29b0 : decide ((ji27) < (a0.size : Int)) = true := decide_eq_true c29
                                      clear c29
                                      by_cases c31 : (bt a0 (ji27)) = 32
                                      · rw [if_pos c31] at H
                                        have c31b0 : ((bt a0 (ji27)) == 32) = true := beq_iff_eq.mpr c31
                                        have c31b1 : ((bt a0 (ji27)) != 32) = false := bne_eq_false_iff_eq.mpr c31
                                        clear c31
                                        by_cases c32 : (wrap64 (x9_3 + (X_.size : Int))) = (a0.size : Int)
                                        · rw [if_pos c32] at H
                                          have c32b0 : ((wrap64 (x9_3 + (X_.size : Int))) == (a0.size : Int)) = true := beq_iff_eq.mpr c32
                                          have c32b1 : ((wrap64 (x9_3 + (X_.size : Int))) != (a0.size : Int)) = false := bne_eq_false_iff_eq.mpr c32
                                          clear c32
                                          by_cases c33 : x4_3.length < 8796093022208
                                          · rw [if_pos c33] at H
                                            have LMc33 := Aside0.mk c33
                                            clear c33
                                            obtain ⟨y278, hy278⟩ : ∃ y_ : List (S24), y_ = (x4_3 ++ [(⟨x5_1, x6_2⟩ : S24)]) := ⟨_, rfl⟩
                                            replace H : (trustquorumref17_Parse.l1 k3 a0 y278 x5_1 (wrap64 (x6_2 + 1))) = some (r1, r2) := by first | (rw [hy278]; with_reducible exact H) | (have H2_ := (Option.bind_some _ _).symm.trans H; rw [hy278]; with_reducible exact H2_) | (have H2_ := (Option.bind_some _ _).symm.trans H; with_reducible exact H2_) | with_reducible exact H | (rw [hy278]; exact H) | exact H
                                            have Ny278 := Aside0.mk hy278
                                            clear hy278
                                            have H' := Aside0.mk H
                                            clear H
                                            have p30 : 0 ≤ ((ji27) : Int) := of_decide_eq_true (by first | (with_reducible assumption) | assumption)
                                            have q30 : (ji27) < (a0.size : Int) := of_decide_eq_true (by first | (with_reducible assumption) | assumption)
                                            have hx30 := bt_at a0 (ji27)
                                            replace p30 := eq_true p30
                                            replace q30 := eq_true q30
                                            go_wp2_with (first | ((with_reducible refine gate_builtin (b := .append) (xs := #[.tmp 72, .tmp 76]) rfl ?_); (try (refine gate_guard (by rfl) ?_; dsimp only)); at_builtin; refine Kd.R_append k24 (w0 := w) w.heap.size rfl (.tmp 72) (.tmp 76) 25 24 (.agg #[(.int .i64 0), (.int .i64 0)]) 16 rfl Tryz.underlying25 info24 rfl (by decide) (by omega) u4 x4_3 (⟨x5_1, x6_2⟩ : S24) [.int .i64 x5_1, .int .i64 x6_2] (fun _ => True) (fun _ => False) rfl rfl ?aP (fun _ hk => hk.elim) ?aF ?aO ?aB ?aS ?aL ?_; (case aP => exact k24_mkM _ _ _ (⟨x5_1, x6_2⟩ : S24)); (case aB => exact (by repeat (first | (with_reducible first | exact HB.out | apply below_alloc | apply pw_below_drewN | apply below_drew1) | exact HB.out))); (case aF => exact (fun _ _ => trivial)); (case aO => exact (by (with_reducible repeat (first | apply Kd.R_alloc | apply Kd.R_drewN | apply Kd.R_drew)); exact HO_4.out)); (case aS => exact (below_size (by repeat (first | (with_reducible first | exact HB.out | apply below_alloc | apply pw_below_drewN | apply below_drew1) | exact HB.out)))); (case aL => have := LMc33.out; omega); intro v279 w34 ho hb hg hat; rw [← Ny278.out] at ho; have n0_ := Aside0.mk (hb); have n1_ := Aside0.mk (ho); clear HB; clear HO_4; have HB := n0_; have HO280 := n1_; clear n0_ n1_; clear ho hb hg hat))
                                            go_roundg k3
                                            case measure => have := HK1.out; have := HK2.out; have := HK3.out; omega
                                            case rel => exact ⟨(y278), (wrap64 (x6_2 + 1)), (by first | rfl | (simp; done) | (simp [*]; done)), H', ⟨by have := HK1.out; have := HK2.out; have := HK3.out; omega⟩, ⟨by (with_reducible repeat (first | apply Kd.R_alloc | apply Kd.R_drewN | apply Kd.R_drew)); exact HO280.out⟩, ⟨by repeat (first | (with_reducible first | exact HB.out | apply below_alloc | apply pw_below_drewN | apply below_drew1) | exact HB.out)⟩⟩
                                          · rw [if_neg c33] at H
                                            exact absurd H (by simp)
                                        · rw [if_neg c32] at H
                                          have c32b0 : ((wrap64 (x9_3 + (X_.size : Int))) == (a0.size : Int)) = false := beq_eq_false_iff_ne.mpr c32
                                          have c32b1 : ((wrap64 (x9_3 + (X_.size : Int))) != (a0.size : Int)) = true := bne_iff_ne.mpr c32
                                          obtain ⟨ji35, hji35⟩ : ∃ j_ : Int, (wrap64 (x9_3 + (X_.size : Int))) = j_ := ⟨_, rfl⟩
                                          (try rw [hji35] at c14b0)
                                          replace H : (if 0 ≤ (ji35) then (if (ji35) < (a0.size : Int) then (if (bt a0 (ji35)) = 32 then (if x4_3.length < 8796093022208 then (trustquorumref17_Parse.l1 k3 a0 (x4_3 ++ [(⟨x5_1, x6_2⟩ : S24)]) x5_1 (wrap64 (x6_2 + 1))) else (none)) else (trustquorumref17_Parse.l2 k3 a0 x4_3 x5_1 x6_2 X_ (X_.size : Int) (wrap64 (x9_3 + 1)))) else (none)) else (none)) = some (r1, r2) := by first | (rw [hji35] at H; exact H) | (simp only [hji35] at H ⊢; exact H)
                                          (try rw [hji35] at c11b0)
                                          (try rw [hji35] at c13b0)
                                          (try rw [hji35] at c13b1)
                                          (try rw [hji35] at c13)
                                          (try rw [hji35] at c15b0)
                                          (try rw [hji35] at c15b1)
                                          (try rw [hji35] at c32b0)
                                          (try rw [hji35] at c32b1)
                                          have hji35w : (IntKind.i64.wrap (x9_3 + (X_.size : Int))) = ji35 := (i64_w _).trans hji35
                                          by_cases c36 : 0 ≤ (ji35)
                                          · rw [if_pos c36] at H
                                            have c36b0 : decide (0 ≤ (ji35)) = true := decide_eq_true c36
                                            clear c36
                                            by_cases c37 : (ji35) < (a0.size : Int)
                                            · rw [if_pos c37] at H
                                              have c37b0 : decide ((ji35) < (a0.size : Int)) = true := decide_eq_true c37
                                              clear c37
                                              by_cases c39 : (bt a0 (ji35)) = 32
                                              · rw [if_pos c39] at H
                                                have c39b0 : ((bt a0 (ji35)) == 32) = true := beq_iff_eq.mpr c39
                                                have c39b1 : ((bt a0 (ji35)) != 32) = false := bne_eq_false_iff_eq.mpr c39
                                                clear c39
                                                by_cases c40 : x4_3.length < 8796093022208
                                                · rw [if_pos c40] at H
                                                  have LMc40 := Aside0.mk c40
                                                  clear c40
                                                  obtain ⟨y281, hy281⟩ : ∃ y_ : List (S24), y_ = (x4_3 ++ [(⟨x5_1, x6_2⟩ : S24)]) := ⟨_, rfl⟩
                                                  replace H : (trustquorumref17_Parse.l1 k3 a0 y281 x5_1 (wrap64 (x6_2 + 1))) = some (r1, r2) := by first | (rw [hy281]; with_reducible exact H) | (have H2_ := (Option.bind_some _ _).symm.trans H; rw [hy281]; with_reducible exact H2_) | (have H2_ := (Option.bind_some _ _).symm.trans H; with_reducible exact H2_) | with_reducible exact H | (rw [hy281]; exact H) | exact H
                                                  have Ny281 := Aside0.mk hy281
                                                  clear hy281
                                                  have H' := Aside0.mk H
                                                  clear H
                                                  have p30 : 0 ≤ ((ji27) : Int) := of_decide_eq_true (by first | (with_reducible assumption) | assumption)
                                                  have q30 : (ji27) < (a0.size : Int) := of_decide_eq_true (by first | (with_reducible assumption) | assumption)
                                                  have hx30 := bt_at a0 (ji27)
                                                  replace p30 := eq_true p30
                                                  replace q30 := eq_true q30
                                                  have p38 : 0 ≤ ((ji35) : Int) := of_decide_eq_true (by first | (with_reducible assumption) | assumption)
                                                  have q38 : (ji35) < (a0.size : Int) := of_decide_eq_true (by first | (with_reducible assumption) | assumption)
                                                  have hx38 := bt_at a0 (ji35)
                                                  replace p38 := eq_true p38
                                                  replace q38 := eq_true q38
                                                  go_wp2_with (first | ((with_reducible refine gate_builtin (b := .append) (xs := #[.tmp 72, .tmp 76]) rfl ?_); (try (refine gate_guard (by rfl) ?_; dsimp only)); at_builtin; refine Kd.R_append k24 (w0 := w) w.heap.size rfl (.tmp 72) (.tmp 76) 25 24 (.agg #[(.int .i64 0), (.int .i64 0)]) 16 rfl Tryz.underlying25 info24 rfl (by decide) (by omega) u4 x4_3 (⟨x5_1, x6_2⟩ : S24) [.int .i64 x5_1, .int .i64 x6_2] (fun _ => True) (fun _ => False) rfl rfl ?aP (fun _ hk => hk.elim) ?aF ?aO ?aB ?aS ?aL ?_; (case aP => exact k24_mkM _ _ _ (⟨x5_1, x6_2⟩ : S24)); (case aB => exact (by repeat (first | (with_reducible first | exact HB.out | apply below_alloc | apply pw_below_drewN | apply below_drew1) | exact HB.out))); (case aF => exact (fun _ _ => trivial)); (case aO => exact (by (with_reducible repeat (first | apply Kd.R_alloc | apply Kd.R_drewN | apply Kd.R_drew)); exact HO_4.out)); (case aS => exact (below_size (by repeat (first | (with_reducible first | exact HB.out | apply below_alloc | apply pw_below_drewN | apply below_drew1) | exact HB.out)))); (case aL => have := LMc40.out; omega); intro v282 w41 ho hb hg hat; rw [← Ny281.out] at ho; have n0_ := Aside0.mk (hb); have n1_ := Aside0.mk (ho); clear HB; clear HO_4; have HB := n0_; have HO283 := n1_; clear n0_ n1_; clear ho hb hg hat))
                                                  go_roundg k3
                                                  case measure => have := HK1.out; have := HK2.out; have := HK3.out; omega
                                                  case rel => exact ⟨(y281), (wrap64 (x6_2 + 1)), (by first | rfl | (simp; done) | (simp [*]; done)), H', ⟨by have := HK1.out; have := HK2.out; have := HK3.out; omega⟩, ⟨by (with_reducible repeat (first | apply Kd.R_alloc | apply Kd.R_drewN | apply Kd.R_drew)); exact HO283.out⟩, ⟨by repeat (first | (with_reducible first | exact HB.out | apply below_alloc | apply pw_below_drewN | apply below_drew1) | exact HB.out)⟩⟩
                                                · rw [if_neg c40] at H
                                                  exact absurd H (by simp)
                                              · rw [if_neg c39] at H
                                                have c39b0 : ((bt a0 (ji35)) == 32) = false := beq_eq_false_iff_ne.mpr c39
                                                have c39b1 : ((bt a0 (ji35)) != 32) = true := bne_iff_ne.mpr c39
                                                have H' := Aside0.mk H
                                                clear H
                                                have p30 : 0 ≤ ((ji27) : Int) := of_decide_eq_true (by first | (with_reducible assumption) | assumption)
                                                have q30 : (ji27) < (a0.size : Int) := of_decide_eq_true (by first | (with_reducible assumption) | assumption)
                                                have hx30 := bt_at a0 (ji27)
                                                replace p30 := eq_true p30
                                                replace q30 := eq_true q30
                                                have p38 : 0 ≤ ((ji35) : Int) := of_decide_eq_true (by first | (with_reducible assumption) | assumption)
                                                have q38 : (ji35) < (a0.size : Int) := of_decide_eq_true (by first | (with_reducible assumption) | assumption)
                                                have hx38 := bt_at a0 (ji35)
                                                replace p38 := eq_true p38
                                                replace q38 := eq_true q38
                                                go_wp2
                                                go_roundg k3
                                                case measure => have := HK1.out; have := HK2.out; have := HK3.out; omega
                                                case rel => exact ⟨(x4_3), (wrap64 (x9_3 + 1)), (by first | rfl | (simp; done) | (simp [*]; done)), H', ⟨by have := HK1.out; have := HK2.out; have := HK3.out; omega⟩, ⟨by (with_reducible repeat (first | apply Kd.R_alloc | apply Kd.R_drewN | apply Kd.R_drew)); exact HO_4.out⟩, ⟨by repeat (first | (with_reducible first | exact HB.out | apply below_alloc | apply pw_below_drewN | apply below_drew1) | exact HB.out)⟩⟩
                                            · rw [if_neg c37] at H
                                              exact absurd H (by simp)
                                          · rw [if_neg c36] at H
                                            exact absurd H (by simp)
                                      · rw [if_neg c31] at H
                                        have c31b0 : ((bt a0 (ji27)) == 32) = false := beq_eq_false_iff_ne.mpr c31
                                        have c31b1 : ((bt a0 (ji27)) != 32) = true := bne_iff_ne.mpr c31
                                        have H' := Aside0.mk H
                                        clear H
                                        have p30 : 0 ≤ ((ji27) : Int) := of_decide_eq_true (by first | (with_reducible assumption) | assumption)
                                        have q30 : (ji27) < (a0.size : Int) := of_decide_eq_true (by first | (with_reducible assumption) | assumption)
                                        have hx30 := bt_at a0 (ji27)
                                        replace p30 := eq_true p30
                                        replace q30 := eq_true q30
                                        go_wp2
                                        go_roundg k3
                                        case measure => have := HK1.out; have := HK2.out; have := HK3.out; omega
                                        case rel => exact ⟨(x4_3), (wrap64 (x9_3 + 1)), (by first | rfl | (simp; done) | (simp [*]; done)), H', ⟨by have := HK1.out; have := HK2.out; have := HK3.out; omega⟩, ⟨by (with_reducible repeat (first | apply Kd.R_alloc | apply Kd.R_drewN | apply Kd.R_drew)); exact HO_4.out⟩, ⟨by repeat (first | (with_reducible first | exact HB.out | apply below_alloc | apply pw_below_drewN | apply below_drew1) | exact HB.out)⟩⟩
                                    · rw [if_neg c29] at H
                                      exact absurd H (by simp)
                                  · rw [if_neg c28] at H
                                    exact absurd H (by simp)
                              · rw [if_neg c15] at H
                                have c15b0 : ((a0.extract (x9_3 : Int).toNat ((wrap64 (x9_3 + (X_.size : Int))) : Int).toNat).toList == X_.toList) = false := beq_eq_false_iff_ne.mpr c15
                                have c15b1 : ((a0.extract (x9_3 : Int).toNat ((wrap64 (x9_3 + (X_.size : Int))) : Int).toNat).toList != X_.toList) = true := bne_iff_ne.mpr c15
                                have H' := Aside0.mk H
                                clear H
                                go_wp2
                                go_roundg k3
                                case measure => have := HK1.out; have := HK2.out; have := HK3.out; omega
                                case rel => exact ⟨(x4_3), (wrap64 (x9_3 + 1)), (by first | rfl | (simp; done) | (simp [*]; done)), H', ⟨by have := HK1.out; have := HK2.out; have := HK3.out; omega⟩, ⟨by (with_reducible repeat (first | apply Kd.R_alloc | apply Kd.R_drewN | apply Kd.R_drew)); exact HO_4.out⟩, ⟨by repeat (first | (with_reducible first | exact HB.out | apply below_alloc | apply pw_below_drewN | apply below_drew1) | exact HB.out)⟩⟩
                            · rw [if_neg c13] at H
                              exact absurd H (by simp)
                          · rw [if_neg c12] at H
                            exact absurd H (by simp)
                        · rw [if_neg c11] at H
                          have c11b0 : decide ((wrap64 (x9_3 + (X_.size : Int))) ≤ (a0.size : Int)) = false := decide_eq_false c11
                          clear c11
                          have H' := Aside0.mk H
                          clear H
                          go_wp2
                          go_roundg k3
                          case measure => have := HK1.out; have := HK2.out; have := HK3.out; omega
                          case rel => exact ⟨(x4_3), (wrap64 (x6_2 + 1)), (by first | rfl | (simp; done) | (simp [*]; done)), H', ⟨by have := HK1.out; have := HK2.out; have := HK3.out; omega⟩, ⟨by (with_reducible repeat (first | apply Kd.R_alloc | apply Kd.R_drewN | apply Kd.R_drew)); exact HO_4.out⟩, ⟨by repeat (first | (with_reducible first | exact HB.out | apply below_alloc | apply pw_below_drewN | apply below_drew1) | exact HB.out)⟩⟩
                  · rw [if_neg c8] at H
                    exact absurd H (by simp)
                · rw [if_neg c6] at H
                  exact absurd H (by simp)
              · rw [if_neg c4] at H
                have c4b0 : decide (x6_2 ≤ 15) = false := decide_eq_false c4
                clear c4
                have H' := Aside0.mk H
                clear H
                go_wp2
                go_roundg k2
                case measure => have := HK1.out; have := HK2.out; omega
                case rel => exact ⟨(x4_2), (wrap64 (x5_1 + 1)), (by first | rfl | (simp; done) | (simp [*]; done)), H', ⟨by have := HK1.out; have := HK2.out; omega⟩, ⟨by (with_reducible repeat (first | apply Kd.R_alloc | apply Kd.R_drewN | apply Kd.R_drew)); exact HO_4.out⟩, ⟨by repeat (first | (with_reducible first | exact HB.out | apply below_alloc | apply pw_below_drewN | apply below_drew1) | exact HB.out)⟩⟩
        · rw [if_neg c3] at H
          have c3b0 : decide (x5_1 < 8) = false := decide_eq_false c3
          clear c3
          replace H := Option.bind_eq_some_iff.mp H
          obtain ⟨t269, A420, H⟩ := H
          replace H : (if t269.toList = a0.toList then (some (x4_1, 0)) else (some (([] : List (S24)), 2))) = some (r1, r2) := H
          have A42 := Aside0.mk A420
          clear A420
          by_cases c43 : t269.toList = a0.toList
          · rw [if_pos c43] at H
            have c43b0 : (t269.toList == a0.toList) = true := beq_iff_eq.mpr c43
            have c43b1 : (t269.toList != a0.toList) = false := bne_eq_false_iff_eq.mpr c43
            clear c43
            simp only [Option.some.injEq, Prod.mk.injEq] at H
            obtain ⟨rfl, rfl⟩ := H
            obtain ⟨Ao44, co44, eo44⟩ := Kd.R_slice HO_4.out
            subst eo44
            go_wp2_with (first | ((with_reducible refine gate_callee (f := 25) rfl ?_); refine goesL_ (some 79) rfl rfl Tryz.func25 (by kernel_rfl) rfl #[.slice Ao44 x4_1.length co44] rfl (by (try simp only [List.map_toArray, List.map_cons, List.map_nil]); first | done | rfl | (simp only [List.length_drop, List.length_take]; rfl)) ?_; (with_reducible refine (trustquorumref17_Text.calls k1 _ _ x4_1 t269 _ ?side1 ?side2 A42.out).mono ?_); (case side1 => repeat (first | exact (Kd.R_reads' HO_4.out).2.2 | (with_reducible refine Kd.C_alloc ?_ _) | (with_reducible refine Kd.C_drewN ?_ _) | (with_reducible refine Kd.C_drew ?_))); (case side2 => exact (Kd.R_reads' HO_4.out).2.1); rintro e w45 ⟨rfl, hb⟩; refine ⟨_, rfl, ?_⟩; have n0_ := Aside0.mk (Kd.R_below (by (with_reducible repeat (first | apply Kd.R_alloc | apply Kd.R_drewN | apply Kd.R_drew)); exact HO_4.out) hb); have n1_ := Aside0.mk (below_step (by repeat (first | (with_reducible first | exact HB.out | apply below_alloc | apply pw_below_drewN | apply below_drew1) | exact HB.out)) hb); clear HO_4; clear HB; have HO_4 := n0_; have HB := n1_; clear n0_ n1_; (try clear hb); (try clear hb2); (try clear hk); (try clear hi)))
            go_ret2
            exact ⟨_, by first | rfl | (simp [errW_none, errW_some] <;> rfl) | (simp [*, errW_none, errW_some] <;> rfl), by (with_reducible repeat (first | apply Kd.R_alloc | apply Kd.R_drewN | apply Kd.R_drew)); exact HO_4.out, by repeat (first | (with_reducible first | exact HB.out | apply below_alloc | apply pw_below_drewN | apply below_drew1) | exact HB.out)⟩
          · rw [if_neg c43] at H
            have c43b0 : (t269.toList == a0.toList) = false := beq_eq_false_iff_ne.mpr c43
            have c43b1 : (t269.toList != a0.toList) = true := bne_iff_ne.mpr c43
            simp only [Option.some.injEq, Prod.mk.injEq] at H
            obtain ⟨rfl, rfl⟩ := H
            obtain ⟨Ao46, co46, eo46⟩ := Kd.R_slice HO_4.out
            subst eo46
            go_wp2_with (first | ((with_reducible refine gate_callee (f := 25) rfl ?_); refine goesL_ (some 79) rfl rfl Tryz.func25 (by kernel_rfl) rfl #[.slice Ao46 x4_1.length co46] rfl (by (try simp only [List.map_toArray, List.map_cons, List.map_nil]); first | done | rfl | (simp only [List.length_drop, List.length_take]; rfl)) ?_; (with_reducible refine (trustquorumref17_Text.calls k1 _ _ x4_1 t269 _ ?side1 ?side2 A42.out).mono ?_); (case side1 => repeat (first | exact (Kd.R_reads' HO_4.out).2.2 | (with_reducible refine Kd.C_alloc ?_ _) | (with_reducible refine Kd.C_drewN ?_ _) | (with_reducible refine Kd.C_drew ?_))); (case side2 => exact (Kd.R_reads' HO_4.out).2.1); rintro e w47 ⟨rfl, hb⟩; refine ⟨_, rfl, ?_⟩; have n0_ := Aside0.mk (Kd.R_below (by (with_reducible repeat (first | apply Kd.R_alloc | apply Kd.R_drewN | apply Kd.R_drew)); exact HO_4.out) hb); have n1_ := Aside0.mk (below_step (by repeat (first | (with_reducible first | exact HB.out | apply below_alloc | apply pw_below_drewN | apply below_drew1) | exact HB.out)) hb); clear HO_4; clear HB; have HO_4 := n0_; have HB := n1_; clear n0_ n1_; (try clear hb); (try clear hb2); (try clear hk); (try clear hi)))
            go_ret2
            exact ⟨_, by first | rfl | (simp [errW_none, errW_some] <;> rfl) | (simp [*, errW_none, errW_some] <;> rfl), by first | exact Kd.R_nil _ _ _ _ _ | exact Kd.N_nil _ _ _ _ _ | exact Kd.V_nil _ _ _ _ _ | exact Kd.Q_nil _ _ _ _ _ | exact Kd.S_nil _ _ _ _ _, by repeat (first | (with_reducible first | exact HB.out | apply below_alloc | apply pw_below_drewN | apply below_drew1) | exact HB.out)⟩

end Go.Proofs.YtocadlecfddbcaaGreatDoor.QClaims
