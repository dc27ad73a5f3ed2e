-- Written by a program of this session (wip/tools/myprint.py) out of the translation, by the kit's print. Lean checks it.
import Derived.Test.YtocadlecfddbcaaGreatDoorQClaimsx0
import Derived.Test.YtocadlecfddbcaaGreatDoorQClaimsx5
import Derived.Test.YtocadlecfddbcaaGreatDoorGText
namespace Go.Proofs.YtocadlecfddbcaaGreatDoor.QClaims
open Go.RowKit Go.Proofs.YtocadlecfddbcaaGreatDoorW.PrintWords Go.Proofs.YtocadlecfddbcaaGreatDoorW.PrintLast Go.Proofs.YtocadlecfddbcaaGreatDoorW.PrintMore
attribute [local go_sem] max2_int min2_int max_two min_two max_three min_three max_four min_four   -- for this text's walks alone
set_option linter.unusedVariables false
set_option linter.unusedSimpArgs false

/-! ### trustquorumref17_Consistent: function 23 -/
mutual
def trustquorumref17_Consistent.l0 : Nat → List (S24) → List (S24) → Int → Int → Option (Bool)
  | 0, _, _, _, _ => none
  | k + 1, x0, x7, x8, x9 => if x9 < x8 then (if 0 ≤ x9 then (if x9 < (x7.length : Int) then (if x9 ≤ (x0.length : Int) then ((some (x0.take (x9 : Int).toNat : List (S24))).bind fun y213 => (trustquorumref17_Consistent.l1 k x0 x7 x8 x9 y213 (y213.length : Int) 0 ((rd_T24 x7 x9).f0) ((rd_T24 x7 x9).f1))) else (none)) else (none)) else (none)) else (some true)
def trustquorumref17_Consistent.l1 : Nat → List (S24) → List (S24) → Int → Int → List (S24) → Int → Int → Int → Int → Option (Bool)
  | 0, _, _, _, _, _, _, _, _, _ => none
  | k + 1, x0, x7, x8, x9, x16, x17, x18, x213000, x213001 => if x18 < x17 then (if 0 ≤ x18 then (if x18 < (x16.length : Int) then ((trustquorumref17_Contradict.f x213000 x213001 ((rd_T24 x16 x18).f0) ((rd_T24 x16 x18).f1)).bind fun t219 => (if t219 = true then (some false) else (trustquorumref17_Consistent.l1 k x0 x7 x8 x9 x16 x17 (wrap64 (x18 + 1)) x213000 x213001))) else (none)) else (none)) else (trustquorumref17_Consistent.l0 k x0 x7 x8 (wrap64 (x9 + 1)))
end
def trustquorumref17_Consistent.f (k : Nat) (l0 : List (S24)) : Option (Bool) := trustquorumref17_Consistent.l0 k l0 l0 (l0.length : Int) 0
theorem trustquorumref17_Consistent.mono_l : ∀ k, (∀ y0 y1 y2 y3, LeO (trustquorumref17_Consistent.l0 k y0 y1 y2 y3) (trustquorumref17_Consistent.l0 (k + 1) y0 y1 y2 y3)) ∧ (∀ y0 y1 y2 y3 y4 y5 y6 y7 y8, LeO (trustquorumref17_Consistent.l1 k y0 y1 y2 y3 y4 y5 y6 y7 y8) (trustquorumref17_Consistent.l1 (k + 1) y0 y1 y2 y3 y4 y5 y6 y7 y8))
  | 0 => ⟨fun _ _ _ _ r h => by simp [trustquorumref17_Consistent.l0] at h, fun _ _ _ _ _ _ _ _ _ r h => by simp [trustquorumref17_Consistent.l1] at h⟩
  | k + 1 => by
    obtain ⟨ih0, ih1⟩ := trustquorumref17_Consistent.mono_l k
    refine ⟨?_, ?_⟩
    · intro y0 y1 y2 y3
      unfold trustquorumref17_Consistent.l0
      repeat' first
      | (with_reducible exact ih0 _ _ _ _)
      | (with_reducible exact ih1 _ _ _ _ _ _ _ _ _)
      | (with_reducible exact LeO.refl _)
      | (with_reducible exact LeO.none _)
      | (with_reducible refine LeO.ite ?_ ?_)
      | (with_reducible refine LeO.bind ?_ (fun _ => ?_))
      | exact ih0 _ _ _ _
      | exact ih1 _ _ _ _ _ _ _ _ _
      | exact LeO.none _
      | refine LeO.ite ?_ ?_
      | refine LeO.bind ?_ (fun _ => ?_)
    · intro y0 y1 y2 y3 y4 y5 y6 y7 y8
      unfold trustquorumref17_Consistent.l1
      repeat' first
      | (with_reducible exact ih0 _ _ _ _)
      | (with_reducible exact ih1 _ _ _ _ _ _ _ _ _)
      | (with_reducible exact LeO.refl _)
      | (with_reducible exact LeO.none _)
      | (with_reducible refine LeO.ite ?_ ?_)
      | (with_reducible refine LeO.bind ?_ (fun _ => ?_))
      | exact ih0 _ _ _ _
      | exact ih1 _ _ _ _ _ _ _ _ _
      | exact LeO.none _
      | refine LeO.ite ?_ ?_
      | refine LeO.bind ?_ (fun _ => ?_)
theorem trustquorumref17_Consistent.mono : ∀ a0 k, LeO (trustquorumref17_Consistent.f k a0) (trustquorumref17_Consistent.f (k + 1) a0) := by
  intro a0 k
  obtain ⟨ih0, ih1⟩ := trustquorumref17_Consistent.mono_l k
  unfold trustquorumref17_Consistent.f
  repeat' first
      | (with_reducible exact ih0 _ _ _ _)
      | (with_reducible exact ih1 _ _ _ _ _ _ _ _ _)
      | (with_reducible exact LeO.refl _)
      | (with_reducible exact LeO.none _)
      | (with_reducible refine LeO.ite ?_ ?_)
      | (with_reducible refine LeO.bind ?_ (fun _ => ?_))
      | exact ih0 _ _ _ _
      | exact ih1 _ _ _ _ _ _ _ _ _
      | exact LeO.none _
      | refine LeO.ite ?_ ?_
      | refine LeO.bind ?_ (fun _ => ?_)
set_option maxHeartbeats 8000000 in
set_option maxRecDepth 100000 in
theorem trustquorumref17_Consistent.calls (k : Nat) (A0 : Option Addr) (c0 : Nat) (l0 : List (S24)) (r : Bool) (w : World) (hr0 : Kd.C k24 w A0 l0.length l0) (hc0 : l0.length ≤ c0) (h : trustquorumref17_Consistent.f k l0 = some r) :
    Calls Tryz.prog 23 #[.slice A0 l0.length c0] w fun e w' => e = .returned (.bool r) ∧ Below w.heap.size w w' := by
  have hu24 := Tryz.underlying24
  have HR0 := Aside0.mk hr0
  have HC0 := Aside0.mk hc0
  clear hr0 hc0
  have HB := Aside0.mk (Below.refl w.heap.size w)
  have H : (trustquorumref17_Consistent.l0 k l0 l0 (l0.length : Int) 0) = some r := h
  clear h
  have H' := Aside0.mk H
  clear H
  go_enter Tryz.func23, Tryz.ntmps23
  go_wp2
  go_loopg [9] k (fun kq v9 w' => ∃ (x9_1 : Int), v9 = .int .i64 x9_1 ∧ Aside0 (trustquorumref17_Consistent.l0 kq l0 l0 (l0.length : Int) x9_1 = some r) ∧ Aside0 (kq ≤ k) ∧ Aside0 (Below w.heap.size w w'))
  case atStart => exact ⟨(0), (by first | rfl | (simp; done) | (simp [*]; done)), H', ⟨Nat.le_refl _⟩, ⟨by repeat (first | (with_reducible first | exact HB.out | apply below_alloc | apply pw_below_drewN | apply below_drew1) | exact HB.out)⟩⟩
  case round =>
    clear H'
    obtain ⟨x9_1, rfl, HA, HK1, HB⟩ := hrel
    cases gk with
    | zero => exact absurd HA.out (by simp [trustquorumref17_Consistent.l0])
    | succ k1 =>
      have H := HA.out
      clear HA
      simp only [trustquorumref17_Consistent.l0] at H
      by_cases c2 : x9_1 < (l0.length : Int)
      · rw [if_pos c2] at H
        have c2b0 : decide (x9_1 < (l0.length : Int)) = true := decide_eq_true c2
        clear c2
        by_cases c3 : 0 ≤ x9_1
        · rw [if_pos c3] at H
          have c3b0 : decide (0 ≤ x9_1) = true := decide_eq_true c3
          clear c3
          by_cases c4 : x9_1 < (l0.length : Int)
          · rw [if_pos c4] at H
            have c4b0 : decide (x9_1 < (l0.length : Int)) = true := decide_eq_true c4
            clear c4
            have c5b0 := eq_true (of_decide_eq_true (by first | (with_reducible assumption) | assumption) : 0 ≤ x9_1)
            by_cases c6 : x9_1 ≤ (l0.length : Int)
            · rw [if_pos c6] at H
              have c6b0 := eq_true c6
              have c6b1 : decide (x9_1 ≤ (l0.length : Int)) = true := decide_eq_true c6
              clear c6
              obtain ⟨y213, hy213⟩ : ∃ y_ : List (S24), y_ = (l0.take (x9_1 : Int).toNat) := ⟨_, rfl⟩
              replace H : (trustquorumref17_Consistent.l1 k1 l0 l0 (l0.length : Int) x9_1 y213 (y213.length : Int) 0 ((rd_T24 l0 x9_1).f0) ((rd_T24 l0 x9_1).f1)) = some r := by first | (rw [hy213]; with_reducible exact H) | (have H2_ := (Option.bind_some _ _).symm.trans H; rw [hy213]; with_reducible exact H2_) | (have H2_ := (Option.bind_some _ _).symm.trans H; with_reducible exact H2_) | with_reducible exact H | (rw [hy213]; exact H) | exact H
              have Ny213 := Aside0.mk hy213
              clear hy213
              have H' := Aside0.mk H
              clear H
              have p211 : 0 ≤ (x9_1 : Int) := of_decide_eq_true (by first | (with_reducible assumption) | assumption)
              have q211 : x9_1 < (l0.length : Int) := of_decide_eq_true (by first | (with_reducible assumption) | assumption)
              obtain ⟨ad211, e211, hx211_0, hx211_1⟩ := at_T24 HR0.out x9_1 p211 q211
              cases e211
              replace hx211_0 := (HB.out.cell (World.block_lt_of_cell? w _ hx211_0)).trans hx211_0
              replace hx211_1 := (HB.out.cell (World.block_lt_of_cell? w _ hx211_1)).trans hx211_1
              replace p211 := eq_true p211
              replace q211 := eq_true q211
              go_wp2_with (first | ((with_reducible refine gate_dst (N := 4) rfl ?_); refine box_event ?hg (N := 4) ?hd (cs := #[.int .i64 0, .int .i64 0]) (t := 24) ?hr ?_; (case hd => rfl); (case hg => rfl); (case hr => first | (go_simp; done) | (go_simp; rfl)); intro gb212 hg w7 hbox hb; have n0_ := Aside0.mk (below_step (by repeat (first | (with_reducible first | exact HB.out | apply below_alloc | apply pw_below_drewN | apply below_drew1) | exact HB.out)) hb); have n1_ := Aside0.mk (hbox); have n2_ := Aside0.mk ((by rw [hg]; exact (below_size (by repeat (first | (with_reducible first | exact HB.out | apply below_alloc | apply pw_below_drewN | apply below_drew1) | exact HB.out))) : w.heap.size ≤ gb212)); have n3_ := Aside0.mk ((by rw [hg]; exact (below_size (by repeat (first | (with_reducible first | exact HB.out | apply below_alloc | apply pw_below_drewN | apply below_drew1) | exact HB.out))) : w.heap.size ≤ gb212)); clear HB; have HB := n0_; have BK212 := n1_; have GW212 := n2_; have GE212 := n3_; clear n0_ n1_ n2_ n3_; clear hb hbox hg; have hcz8_0 : w7.cell? ⟨gb212, 0, none⟩ = some (.int .i64 0) := (blk_cell BK212.out 0).trans rfl; have hcz8_1 : w7.cell? ⟨gb212, 1, none⟩ = some (.int .i64 0) := (blk_cell BK212.out 1).trans rfl; have hfz8_0 := blk_frozen BK212.out 0; have hfz8_1 := blk_frozen BK212.out 1) | ((with_reducible refine gate_store (t := 24) (p := 4) rfl ?_); refine store_event (t := 24) (p := 4) (v := ?vo_w9) (w1 := ((w7.setCell ⟨gb212, 0, none⟩ (.int .i64 ((rd_T24 l0 x9_1).f0))).setCell ⟨gb212, 1, none⟩ (.int .i64 ((rd_T24 l0 x9_1).f1)))) ?hg ?ho ?hn ?hr ?_; (case ho => rfl); (case hg => rfl); (case hn => rfl); (case hr => first | (go_simp; done) | (go_simp; rfl)); intro w9 hw; have n0_ : Aside0 (w9.heap[gb212]? = some (.cells #[.int .i64 ((rd_T24 l0 x9_1).f0), .int .i64 ((rd_T24 l0 x9_1).f1)] 24 (0, 0))) := ⟨(by rw [hw]; exact (by (with_reducible repeat (first | refine blk_drewN ?_ _ | refine blk_drew ?_ | refine blk_alloc ?_ _)); refine blk_put (cs := #[.int .i64 ((rd_T24 l0 x9_1).f0), .int .i64 0]) ?_ 1 _ rfl; (with_reducible repeat (first | refine blk_drewN ?_ _ | refine blk_drew ?_ | refine blk_alloc ?_ _)); refine blk_put (cs := #[.int .i64 0, .int .i64 0]) ?_ 0 _ rfl; (with_reducible repeat (first | refine blk_drewN ?_ _ | refine blk_drew ?_ | refine blk_alloc ?_ _)); exact BK212.out))⟩; have n1_ : Aside0 (Below w.heap.size w w9) := ⟨(by rw [hw]; exact (by repeat (first | (with_reducible first | exact HB.out | apply below_alloc | apply pw_below_drewN | apply below_drew1 | refine below_set ?_ GE212.out) | exact HB.out)))⟩; clear hw; clear BK212; clear HB; have BK212 := n0_; have HB := n1_; clear n0_ n1_; have q10 : (x9_1 : Int) ≤ ((l0.length : Int) : Int) := of_decide_eq_true (by first | (with_reducible assumption) | assumption); obtain ⟨i010, hi010, _, hsz10, _⟩ := info_parts info24; have hroom10 : l0.length ≤ c0 := HC0.out; have hC10 : Kd.C k24 _ (some ad211) l0.length l0 := HR0.out; have hcut10 := cut_to (P := Tryz.prog) 25 24 .i64 Tryz.underlying25 hi010 (some ad211) l0.length c0 x9_1 (of_decide_eq_true (by first | (with_reducible assumption) | assumption)) q10 hroom10; have hr10 := Kd.C_take (m := (x9_1 : Int).toNat) hC10 (by omega); have hy10 : y213.length = (x9_1 : Int).toNat := (by rw [Ny213.out, List.length_take]; omega); rw [← Ny213.out] at hr10; rw [← hy10] at hcut10; have HR216 := Aside0.mk hr10; have HC216 := Aside0.mk (show y213.length ≤ c0 from by omega); clear hr10 hC10 hroom10 hi010 hsz10; have KY10 := Aside0.mk hy10; clear hy10; replace q10 := eq_true q10))
              go_loopg [18] k1 (fun kq v18 w' => ∃ (x18_2 : Int), v18 = .int .i64 x18_2 ∧ Aside0 (trustquorumref17_Consistent.l1 kq l0 l0 (l0.length : Int) x9_1 y213 (y213.length : Int) x18_2 ((rd_T24 l0 x9_1).f0) ((rd_T24 l0 x9_1).f1) = some r) ∧ Aside0 (kq ≤ k1) ∧ Aside0 (w'.heap[gb212]? = some (.cells #[.int .i64 ((rd_T24 l0 x9_1).f0), .int .i64 ((rd_T24 l0 x9_1).f1)] 24 (0, 0))) ∧ Aside0 (Below w.heap.size w w'))
              case atStart => exact ⟨(0), (by first | rfl | (simp; done) | (simp [*]; done)), H', ⟨Nat.le_refl _⟩, ⟨by (with_reducible repeat (first | refine blk_drewN ?_ _ | refine blk_drew ?_ | refine blk_alloc ?_ _)); exact BK212.out⟩, ⟨by repeat (first | (with_reducible first | exact HB.out | apply below_alloc | apply pw_below_drewN | apply below_drew1 | refine below_set ?_ GE212.out) | exact HB.out)⟩⟩
              case round =>
                clear H'
                try clear q1
                try clear c2
                try clear c2b0
                try clear p2
                try clear q2
                try clear hx2
                try clear c3
                try clear c3b0
                try clear c4
                try clear c4b0
                try clear c5
                try clear c5b0
                try clear c6
                try clear c6b0
                try clear c6b1
                try clear q10
                try clear hcz8_0
                try clear hcz8_1
                try clear hfz8_0
                try clear hfz8_1
                try clear hx211_0
                try clear hx211_1
                try clear p211
                try clear q10
                try clear q211
                obtain ⟨x18_2, rfl, HA, HK2, BK212, HB⟩ := hrel
                cases gk with
                | zero => exact absurd HA.out (by simp [trustquorumref17_Consistent.l1])
                | succ k2 =>
                  have H := HA.out
                  clear HA
                  simp only [trustquorumref17_Consistent.l1] at H
                  by_cases c11 : x18_2 < (y213.length : Int)
                  · rw [if_pos c11] at H
                    have c11b0 : decide (x18_2 < (y213.length : Int)) = true := decide_eq_true c11
                    clear c11
                    by_cases c12 : 0 ≤ x18_2
                    · rw [if_pos c12] at H
                      have c12b0 : decide (0 ≤ x18_2) = true := decide_eq_true c12
                      clear c12
                      by_cases c13 : x18_2 < (y213.length : Int)
                      · rw [if_pos c13] at H
                        have c13b0 : decide (x18_2 < (y213.length : Int)) = true := decide_eq_true c13
                        clear c13
                        replace H := Option.bind_eq_some_iff.mp H
                        obtain ⟨t219, A140, H⟩ := H
                        replace H : (if t219 = true then (some false) else (trustquorumref17_Consistent.l1 k2 l0 l0 (l0.length : Int) x9_1 y213 (y213.length : Int) (wrap64 (x18_2 + 1)) ((rd_T24 l0 x9_1).f0) ((rd_T24 l0 x9_1).f1))) = some r := H
                        have A14 := Aside0.mk A140
                        clear A140
                        by_cases c15 : t219 = true
                        · subst c15
                          have H1 : (some false) = some r := by rw [if_pos rfl] at H; exact H
                          clear H
                          have H := H1
                          clear H1
                          obtain rfl := Option.some.inj H
                          have p217 : 0 ≤ (x18_2 : Int) := of_decide_eq_true (by first | (with_reducible assumption) | assumption)
                          have q217 : x18_2 < (y213.length : Int) := of_decide_eq_true (by first | (with_reducible assumption) | assumption)
                          obtain ⟨ad217, e217, hx217_0, hx217_1⟩ := at_T24 HR216.out x18_2 p217 q217
                          obtain rfl : ad211 = ad217 := (by injection e217)
                          replace hx217_0 := (HB.out.cell (World.block_lt_of_cell? w _ hx217_0)).trans hx217_0
                          replace hx217_1 := (HB.out.cell (World.block_lt_of_cell? w _ hx217_1)).trans hx217_1
                          replace p217 := eq_true p217
                          replace q217 := eq_true q217
                          go_wp2_with (first | ((with_reducible refine gate_dst (N := 6) rfl ?_); refine box_event ?hg (N := 6) ?hd (cs := #[.int .i64 0, .int .i64 0]) (t := 24) ?hr ?_; (case hd => rfl); (case hg => rfl); (case hr => first | (go_simp; done) | (go_simp; rfl)); intro gb218 hg w16 hbox hb; have n0_ := Aside0.mk (blk_below (g := gb212) (o := .cells #[.int .i64 ((rd_T24 l0 x9_1).f0), .int .i64 ((rd_T24 l0 x9_1).f1)] 24 (0, 0)) (by (with_reducible repeat (first | refine blk_drewN ?_ _ | refine blk_drew ?_ | refine blk_alloc ?_ _)); exact BK212.out) hb); have n1_ := Aside0.mk (below_step (by repeat (first | (with_reducible first | exact HB.out | apply below_alloc | apply pw_below_drewN | apply below_drew1 | refine below_set ?_ GE212.out) | exact HB.out)) hb); have n2_ := Aside0.mk (hbox); have n3_ := Aside0.mk ((by rw [hg]; exact (below_size (by repeat (first | (with_reducible first | exact HB.out | apply below_alloc | apply pw_below_drewN | apply below_drew1 | refine below_set ?_ GE212.out) | exact HB.out))) : w.heap.size ≤ gb218)); have n4_ := Aside0.mk ((by rw [hg]; exact (below_size (by repeat (first | (with_reducible first | exact HB.out | apply below_alloc | apply pw_below_drewN | apply below_drew1 | refine below_set ?_ GE212.out) | exact HB.out))) : w.heap.size ≤ gb218)); have n5_ := Aside0.mk ((by rw [hg]; exact Nat.ne_of_lt (blk_lt (g := gb212) (o := .cells #[.int .i64 ((rd_T24 l0 x9_1).f0), .int .i64 ((rd_T24 l0 x9_1).f1)] 24 (0, 0)) (by (with_reducible repeat (first | refine blk_drewN ?_ _ | refine blk_drew ?_ | refine blk_alloc ?_ _)); exact BK212.out)) : gb212 ≠ gb218)); have n6_ := Aside0.mk ((by rw [hg]; exact Nat.ne_of_gt (blk_lt (g := gb212) (o := .cells #[.int .i64 ((rd_T24 l0 x9_1).f0), .int .i64 ((rd_T24 l0 x9_1).f1)] 24 (0, 0)) (by (with_reducible repeat (first | refine blk_drewN ?_ _ | refine blk_drew ?_ | refine blk_alloc ?_ _)); exact BK212.out)) : gb218 ≠ gb212)); clear BK212; clear HB; have BK212 := n0_; have HB := n1_; have BK218 := n2_; have GW218 := n3_; have GE218 := n4_; have NB212_218 := n5_; have NB218_212 := n6_; clear n0_ n1_ n2_ n3_ n4_ n5_ n6_; clear hb hbox hg; have hnb17 := NB218_212.out; have hnc17 := NB212_218.out; have hcz18_0 : w16.cell? ⟨gb218, 0, none⟩ = some (.int .i64 0) := (blk_cell BK218.out 0).trans rfl; have hcz18_1 : w16.cell? ⟨gb218, 1, none⟩ = some (.int .i64 0) := (blk_cell BK218.out 1).trans rfl; have hfz18_0 := blk_frozen BK218.out 0; have hfz18_1 := blk_frozen BK218.out 1; have hcz19_0 : w16.cell? ⟨gb212, 0, none⟩ = some (.int .i64 ((rd_T24 l0 x9_1).f0)) := (blk_cell BK212.out 0).trans rfl; have hcz19_1 : w16.cell? ⟨gb212, 1, none⟩ = some (.int .i64 ((rd_T24 l0 x9_1).f1)) := (blk_cell BK212.out 1).trans rfl; have hfz19_0 := blk_frozen BK212.out 0; have hfz19_1 := blk_frozen BK212.out 1) | ((with_reducible refine gate_callee (f := 12) rfl ?_); refine goesL_ (some 24) rfl rfl Tryz.func12 (by kernel_rfl) rfl #[.agg #[.int .i64 ((rd_T24 l0 x9_1).f0), .int .i64 ((rd_T24 l0 x9_1).f1)], .agg #[.int .i64 ((rd_T24 y213 x18_2).f0), .int .i64 ((rd_T24 y213 x18_2).f1)]] rfl (by (try simp only [List.map_toArray, List.map_cons, List.map_nil]); first | done | rfl | (simp only [List.length_drop, List.length_take]; rfl)) ?_; (with_reducible refine (trustquorumref17_Contradict.calls ((rd_T24 l0 x9_1).f0) ((rd_T24 l0 x9_1).f1) ((rd_T24 y213 x18_2).f0) ((rd_T24 y213 x18_2).f1) true _ A14.out).mono ?_); rintro e w20 ⟨rfl, hb⟩; refine ⟨_, rfl, ?_⟩; have n0_ := Aside0.mk (blk_below (g := gb212) (o := .cells #[.int .i64 ((rd_T24 l0 x9_1).f0), .int .i64 ((rd_T24 l0 x9_1).f1)] 24 (0, 0)) (by (with_reducible repeat (first | refine blk_drewN ?_ _ | refine blk_drew ?_ | refine blk_alloc ?_ _)); refine blk_far ?_ NB212_218.out _; (with_reducible repeat (first | refine blk_drewN ?_ _ | refine blk_drew ?_ | refine blk_alloc ?_ _)); refine blk_far ?_ NB212_218.out _; (with_reducible repeat (first | refine blk_drewN ?_ _ | refine blk_drew ?_ | refine blk_alloc ?_ _)); exact BK212.out) hb); have n1_ := Aside0.mk (blk_below (g := gb218) (o := .cells #[.int .i64 ((rd_T24 y213 x18_2).f0), .int .i64 ((rd_T24 y213 x18_2).f1)] 24 (0, 0)) (by (with_reducible repeat (first | refine blk_drewN ?_ _ | refine blk_drew ?_ | refine blk_alloc ?_ _)); refine blk_put (cs := #[.int .i64 ((rd_T24 y213 x18_2).f0), .int .i64 0]) ?_ 1 _ rfl; (with_reducible repeat (first | refine blk_drewN ?_ _ | refine blk_drew ?_ | refine blk_alloc ?_ _)); refine blk_put (cs := #[.int .i64 0, .int .i64 0]) ?_ 0 _ rfl; (with_reducible repeat (first | refine blk_drewN ?_ _ | refine blk_drew ?_ | refine blk_alloc ?_ _)); exact BK218.out) hb); have n2_ := Aside0.mk (below_step (by repeat (first | (with_reducible first | exact HB.out | apply below_alloc | apply pw_below_drewN | apply below_drew1 | refine below_set ?_ GE212.out | refine below_set ?_ GE218.out) | exact HB.out)) hb); clear BK212; clear BK218; clear HB; have BK212 := n0_; have BK218 := n1_; have HB := n2_; clear n0_ n1_ n2_; (try clear hb); (try clear hb2); (try clear hk); (try clear hi)))
                          go_ret
                          exact ⟨by first | rfl | (simp [errW_none, errW_some] <;> rfl) | (simp [*, errW_none, errW_some] <;> rfl), by repeat (first | (with_reducible first | exact HB.out | apply below_alloc | apply pw_below_drewN | apply below_drew1 | refine below_set ?_ GE212.out | refine below_set ?_ GE218.out) | exact HB.out)⟩
                        · replace c15 := Bool.eq_false_iff.mpr c15
                          subst c15
                          have H1 : (trustquorumref17_Consistent.l1 k2 l0 l0 (l0.length : Int) x9_1 y213 (y213.length : Int) (wrap64 (x18_2 + 1)) ((rd_T24 l0 x9_1).f0) ((rd_T24 l0 x9_1).f1)) = some r := by rw [if_neg (show ¬ (false = true) by decide)] at H; exact H
                          clear H
                          have H := H1
                          clear H1
                          have H' := Aside0.mk H
                          clear H
                          have p217 : 0 ≤ (x18_2 : Int) := of_decide_eq_true (by first | (with_reducible assumption) | assumption)
                          have q217 : x18_2 < (y213.length : Int) := of_decide_eq_true (by first | (with_reducible assumption) | assumption)
                          obtain ⟨ad217, e217, hx217_0, hx217_1⟩ := at_T24 HR216.out x18_2 p217 q217
                          obtain rfl : ad211 = ad217 := (by injection e217)
                          replace hx217_0 := (HB.out.cell (World.block_lt_of_cell? w _ hx217_0)).trans hx217_0
                          replace hx217_1 := (HB.out.cell (World.block_lt_of_cell? w _ hx217_1)).trans hx217_1
                          replace p217 := eq_true p217
                          replace q217 := eq_true q217
                          go_wp2_with (first | ((with_reducible refine gate_dst (N := 6) rfl ?_); refine box_event ?hg (N := 6) ?hd (cs := #[.int .i64 0, .int .i64 0]) (t := 24) ?hr ?_; (case hd => rfl); (case hg => rfl); (case hr => first | (go_simp; done) | (go_simp; rfl)); intro gb218 hg w21 hbox hb; have n0_ := Aside0.mk (blk_below (g := gb212) (o := .cells #[.int .i64 ((rd_T24 l0 x9_1).f0), .int .i64 ((rd_T24 l0 x9_1).f1)] 24 (0, 0)) (by (with_reducible repeat (first | refine blk_drewN ?_ _ | refine blk_drew ?_ | refine blk_alloc ?_ _)); exact BK212.out) hb); have n1_ := Aside0.mk (below_step (by repeat (first | (with_reducible first | exact HB.out | apply below_alloc | apply pw_below_drewN | apply below_drew1 | refine below_set ?_ GE212.out) | exact HB.out)) hb); have n2_ := Aside0.mk (hbox); have n3_ := Aside0.mk ((by rw [hg]; exact (below_size (by repeat (first | (with_reducible first | exact HB.out | apply below_alloc | apply pw_below_drewN | apply below_drew1 | refine below_set ?_ GE212.out) | exact HB.out))) : w.heap.size ≤ gb218)); have n4_ := Aside0.mk ((by rw [hg]; exact (below_size (by repeat (first | (with_reducible first | exact HB.out | apply below_alloc | apply pw_below_drewN | apply below_drew1 | refine below_set ?_ GE212.out) | exact HB.out))) : w.heap.size ≤ gb218)); have n5_ := Aside0.mk ((by rw [hg]; exact Nat.ne_of_lt (blk_lt (g := gb212) (o := .cells #[.int .i64 ((rd_T24 l0 x9_1).f0), .int .i64 ((rd_T24 l0 x9_1).f1)] 24 (0, 0)) (by (with_reducible repeat (first | refine blk_drewN ?_ _ | refine blk_drew ?_ | refine blk_alloc ?_ _)); exact BK212.out)) : gb212 ≠ gb218)); have n6_ := Aside0.mk ((by rw [hg]; exact Nat.ne_of_gt (blk_lt (g := gb212) (o := .cells #[.int .i64 ((rd_T24 l0 x9_1).f0), .int .i64 ((rd_T24 l0 x9_1).f1)] 24 (0, 0)) (by (with_reducible repeat (first | refine blk_drewN ?_ _ | refine blk_drew ?_ | refine blk_alloc ?_ _)); exact BK212.out)) : gb218 ≠ gb212)); clear BK212; clear HB; have BK212 := n0_; have HB := n1_; have BK218 := n2_; have GW218 := n3_; have GE218 := n4_; have NB212_218 := n5_; have NB218_212 := n6_; clear n0_ n1_ n2_ n3_ n4_ n5_ n6_; clear hb hbox hg; have hnb22 := NB218_212.out; have hnc22 := NB212_218.out; have hcz23_0 : w21.cell? ⟨gb218, 0, none⟩ = some (.int .i64 0) := (blk_cell BK218.out 0).trans rfl; have hcz23_1 : w21.cell? ⟨gb218, 1, none⟩ = some (.int .i64 0) := (blk_cell BK218.out 1).trans rfl; have hfz23_0 := blk_frozen BK218.out 0; have hfz23_1 := blk_frozen BK218.out 1; have hcz24_0 : w21.cell? ⟨gb212, 0, none⟩ = some (.int .i64 ((rd_T24 l0 x9_1).f0)) := (blk_cell BK212.out 0).trans rfl; have hcz24_1 : w21.cell? ⟨gb212, 1, none⟩ = some (.int .i64 ((rd_T24 l0 x9_1).f1)) := (blk_cell BK212.out 1).trans rfl; have hfz24_0 := blk_frozen BK212.out 0; have hfz24_1 := blk_frozen BK212.out 1) | ((with_reducible refine gate_callee (f := 12) rfl ?_); refine goesL_ (some 24) rfl rfl Tryz.func12 (by kernel_rfl) rfl #[.agg #[.int .i64 ((rd_T24 l0 x9_1).f0), .int .i64 ((rd_T24 l0 x9_1).f1)], .agg #[.int .i64 ((rd_T24 y213 x18_2).f0), .int .i64 ((rd_T24 y213 x18_2).f1)]] rfl (by (try simp only [List.map_toArray, List.map_cons, List.map_nil]); first | done | rfl | (simp only [List.length_drop, List.length_take]; rfl)) ?_; (with_reducible refine (trustquorumref17_Contradict.calls ((rd_T24 l0 x9_1).f0) ((rd_T24 l0 x9_1).f1) ((rd_T24 y213 x18_2).f0) ((rd_T24 y213 x18_2).f1) false _ A14.out).mono ?_); rintro e w25 ⟨rfl, hb⟩; refine ⟨_, rfl, ?_⟩; have n0_ := Aside0.mk (blk_below (g := gb212) (o := .cells #[.int .i64 ((rd_T24 l0 x9_1).f0), .int .i64 ((rd_T24 l0 x9_1).f1)] 24 (0, 0)) (by (with_reducible repeat (first | refine blk_drewN ?_ _ | refine blk_drew ?_ | refine blk_alloc ?_ _)); refine blk_far ?_ NB212_218.out _; (with_reducible repeat (first | refine blk_drewN ?_ _ | refine blk_drew ?_ | refine blk_alloc ?_ _)); refine blk_far ?_ NB212_218.out _; (with_reducible repeat (first | refine blk_drewN ?_ _ | refine blk_drew ?_ | refine blk_alloc ?_ _)); exact BK212.out) hb); have n1_ := Aside0.mk (blk_below (g := gb218) (o := .cells #[.int .i64 ((rd_T24 y213 x18_2).f0), .int .i64 ((rd_T24 y213 x18_2).f1)] 24 (0, 0)) (by (with_reducible repeat (first | refine blk_drewN ?_ _ | refine blk_drew ?_ | refine blk_alloc ?_ _)); refine blk_put (cs := #[.int .i64 ((rd_T24 y213 x18_2).f0), .int .i64 0]) ?_ 1 _ rfl; (with_reducible repeat (first | refine blk_drewN ?_ _ | refine blk_drew ?_ | refine blk_alloc ?_ _)); refine blk_put (cs := #[.int .i64 0, .int .i64 0]) ?_ 0 _ rfl; (with_reducible repeat (first | refine blk_drewN ?_ _ | refine blk_drew ?_ | refine blk_alloc ?_ _)); exact BK218.out) hb); have n2_ := Aside0.mk (below_step (by repeat (first | (with_reducible first | exact HB.out | apply below_alloc | apply pw_below_drewN | apply below_drew1 | refine below_set ?_ GE212.out | refine below_set ?_ GE218.out) | exact HB.out)) hb); clear BK212; clear BK218; clear HB; have BK212 := n0_; have BK218 := n1_; have HB := n2_; clear n0_ n1_ n2_; (try clear hb); (try clear hb2); (try clear hk); (try clear hi)))
                          go_roundg k2
                          case measure => have := HK1.out; have := HK2.out; omega
                          case rel => exact ⟨(wrap64 (x18_2 + 1)), (by first | rfl | (simp; done) | (simp [*]; done)), H', ⟨by have := HK1.out; have := HK2.out; omega⟩, ⟨by (with_reducible repeat (first | refine blk_drewN ?_ _ | refine blk_drew ?_ | refine blk_alloc ?_ _)); exact BK212.out⟩, ⟨by repeat (first | (with_reducible first | exact HB.out | apply below_alloc | apply pw_below_drewN | apply below_drew1 | refine below_set ?_ GE212.out | refine below_set ?_ GE218.out) | exact HB.out)⟩⟩
                      · rw [if_neg c13] at H
                        exact absurd H (by simp)
                    · rw [if_neg c12] at H
                      exact absurd H (by simp)
                  · rw [if_neg c11] at H
                    have c11b0 : decide (x18_2 < (y213.length : Int)) = false := decide_eq_false c11
                    clear c11
                    have H' := Aside0.mk H
                    clear H
                    go_wp2
                    go_roundg k2
                    case measure => have := HK1.out; have := HK2.out; omega
                    case rel => exact ⟨(wrap64 (x9_1 + 1)), (by first | rfl | (simp; done) | (simp [*]; done)), H', ⟨by have := HK1.out; have := HK2.out; omega⟩, ⟨by repeat (first | (with_reducible first | exact HB.out | apply below_alloc | apply pw_below_drewN | apply below_drew1 | refine below_set ?_ GE212.out) | exact HB.out)⟩⟩
            · rw [if_neg c6] at H
              exact absurd H (by simp)
          · rw [if_neg c4] at H
            exact absurd H (by simp)
        · rw [if_neg c3] at H
          exact absurd H (by simp)
      · rw [if_neg c2] at H
        have c2b0 : decide (x9_1 < (l0.length : Int)) = false := decide_eq_false c2
        clear c2
        obtain rfl := Option.some.inj H
        go_wp2
        go_ret
        exact ⟨by first | rfl | (simp [errW_none, errW_some] <;> rfl) | (simp [*, errW_none, errW_some] <;> rfl), by repeat (first | (with_reducible first | exact HB.out | apply below_alloc | apply pw_below_drewN | apply below_drew1) | exact HB.out)⟩

/-! ### trustquorumref17_Text: function 25 -/
def trustquorumref17_Text.l0 : Nat → ByteArray → List (S24) → Int → Int → Option (ByteArray)
  | 0, _, _, _, _ => none
  | k + 1, x3, x7, x8, x9 => if x9 < x8 then (if 0 ≤ x9 then (if x9 < (x7.length : Int) then (if x9 > 0 then (if x3.size + 1 ≤ 9223372036854775807 then ((strconv_Itoa.f ((rd_T24 x7 x9).f0)).bind fun t225 => (if t225.size + 1 ≤ 9223372036854775807 then ((strconv_Itoa.f ((rd_T24 x7 x9).f1)).bind fun t226 => (if (t225 ++ (⟨#[61]⟩ : ByteArray)).size + t226.size ≤ 9223372036854775807 then (if (x3 ++ (⟨#[32]⟩ : ByteArray)).size + ((t225 ++ (⟨#[61]⟩ : ByteArray)) ++ t226).size ≤ 9223372036854775807 then (trustquorumref17_Text.l0 k ((x3 ++ (⟨#[32]⟩ : ByteArray)) ++ ((t225 ++ (⟨#[61]⟩ : ByteArray)) ++ t226)) x7 x8 (wrap64 (x9 + 1))) else (none)) else (none))) else (none))) else (none)) else ((strconv_Itoa.f ((rd_T24 x7 x9).f0)).bind fun t227 => (if t227.size + 1 ≤ 9223372036854775807 then ((strconv_Itoa.f ((rd_T24 x7 x9).f1)).bind fun t228 => (if (t227 ++ (⟨#[61]⟩ : ByteArray)).size + t228.size ≤ 9223372036854775807 then (if x3.size + ((t227 ++ (⟨#[61]⟩ : ByteArray)) ++ t228).size ≤ 9223372036854775807 then (trustquorumref17_Text.l0 k (x3 ++ ((t227 ++ (⟨#[61]⟩ : ByteArray)) ++ t228)) x7 x8 (wrap64 (x9 + 1))) else (none)) else (none))) else (none)))) else (none)) else (none)) else (some x3)
def trustquorumref17_Text.f (k : Nat) (l0 : List (S24)) : Option (ByteArray) := (trustquorumref17_Sorted.f k l0).bind fun t220 => (trustquorumref17_Text.l0 k (⟨#[]⟩ : ByteArray) t220 (t220.length : Int) 0)
theorem trustquorumref17_Text.mono_l : ∀ k, (∀ y0 y1 y2 y3, LeO (trustquorumref17_Text.l0 k y0 y1 y2 y3) (trustquorumref17_Text.l0 (k + 1) y0 y1 y2 y3))
  | 0 => fun _ _ _ _ r h => by simp [trustquorumref17_Text.l0] at h
  | k + 1 => by
    have ih0 := trustquorumref17_Text.mono_l k
    · intro y0 y1 y2 y3
      unfold trustquorumref17_Text.l0
      repeat' first
      | (with_reducible exact ih0 _ _ _ _)
      | (with_reducible exact trustquorumref17_Sorted.mono _ _)
      | (with_reducible exact LeO.refl _)
      | (with_reducible exact LeO.none _)
      | (with_reducible refine LeO.ite ?_ ?_)
      | (with_reducible refine LeO.bind ?_ (fun _ => ?_))
      | exact ih0 _ _ _ _
      | exact trustquorumref17_Sorted.mono _ _
      | exact LeO.none _
      | refine LeO.ite ?_ ?_
      | refine LeO.bind ?_ (fun _ => ?_)
theorem trustquorumref17_Text.mono : ∀ a0 k, LeO (trustquorumref17_Text.f k a0) (trustquorumref17_Text.f (k + 1) a0) := by
  intro a0 k
  have ih0 := trustquorumref17_Text.mono_l k
  unfold trustquorumref17_Text.f
  repeat' first
      | (with_reducible exact ih0 _ _ _ _)
      | (with_reducible exact trustquorumref17_Sorted.mono _ _)
      | (with_reducible exact LeO.refl _)
      | (with_reducible exact LeO.none _)
      | (with_reducible refine LeO.ite ?_ ?_)
      | (with_reducible refine LeO.bind ?_ (fun _ => ?_))
      | exact ih0 _ _ _ _
      | exact trustquorumref17_Sorted.mono _ _
      | exact LeO.none _
      | refine LeO.ite ?_ ?_
      | refine LeO.bind ?_ (fun _ => ?_)
def trustquorumref17_Text.T7 : Bool × List (List Nat × List Nat) := (true, [([], []), ([], []), ([1], [1]), ([2], [2]), ([3], [3]), ([], []), ([5], [5]), ([6, 3], [6]), ([4, 7], [4, 7]), ([0, 8], [0, 8]), ([9, 7, 0, 1, 2, 3, 4, 5, 6, 7, 8, 9], [0, 9])])
def trustquorumref17_Text.B7 : List Nat := [0, 0, 2, 6, 14, 0, 32, 110, 254, 511, 1023]
theorem trustquorumref17_Text.tab7 : rtab .any (opsOf Tryz.f25 7) = trustquorumref17_Text.T7 := by kernel_rfl
theorem trustquorumref17_Text.bits7 : waitsOk trustquorumref17_Text.T7.2 trustquorumref17_Text.B7 = true := by kernel_rfl
set_option maxHeartbeats 8000000 in
set_option maxRecDepth 100000 in
theorem trustquorumref17_Text.calls (k : Nat) (A0 : Option Addr) (c0 : Nat) (l0 : List (S24)) (r : ByteArray) (w : World) (hr0 : Kd.C k24 w A0 l0.length l0) (hc0 : l0.length ≤ c0) (h : trustquorumref17_Text.f k l0 = some r) :
    Calls Tryz.prog 25 #[.slice A0 l0.length c0] w fun e w' => e = .returned (.string r) ∧ Below w.heap.size w w' := by
  have hu24 := Tryz.underlying24
  have HR0 := Aside0.mk hr0
  have HC0 := Aside0.mk hc0
  clear hr0 hc0
  have HB := Aside0.mk (Below.refl w.heap.size w)
  have H : ((trustquorumref17_Sorted.f k l0).bind fun t220 => (trustquorumref17_Text.l0 k (⟨#[]⟩ : ByteArray) t220 (t220.length : Int) 0)) = some r := h
  clear h
  replace H := Option.bind_eq_some_iff.mp H
  obtain ⟨t220, A20, H⟩ := H
  replace H : (trustquorumref17_Text.l0 k (⟨#[]⟩ : ByteArray) t220 (t220.length : Int) 0) = some r := H
  have A2 := Aside0.mk A20
  clear A20
  have H' := Aside0.mk H
  clear H
  go_enter Tryz.func25, Tryz.ntmps25
  go_wp2_with (first | ((with_reducible refine gate_callee (f := 7) rfl ?_); refine goesL_ (some 7) rfl rfl Tryz.func7 (by kernel_rfl) rfl #[.slice A0 l0.length c0] rfl (by (try simp only [List.map_toArray, List.map_cons, List.map_nil]); first | done | rfl | (simp only [List.length_drop, List.length_take]; rfl)) ?_; (with_reducible refine (trustquorumref17_Sorted.calls k _ _ l0 t220 _ ?side1 ?side2 A2.out).mono ?_); (case side1 => repeat (first | exact HR0.out | (with_reducible refine Kd.C_alloc ?_ _) | (with_reducible refine Kd.C_drewN ?_ _) | (with_reducible refine Kd.C_drew ?_))); (case side2 => exact HC0.out); rintro e w3 ⟨v221, rfl, ho0, hb⟩; refine ⟨_, rfl, ?_⟩; have n0_ := Aside0.mk (Kd.R_lower ho0 (below_size (by repeat (first | (with_reducible first | exact HB.out | apply below_alloc | apply pw_below_drewN | apply below_drew1) | exact HB.out)))); have n1_ := Aside0.mk (below_step (by repeat (first | (with_reducible first | exact HB.out | apply below_alloc | apply pw_below_drewN | apply below_drew1) | exact HB.out)) hb); clear HB; have HO222 := n0_; have HB := n1_; clear n0_ n1_; (try clear hb); (try clear hb2); (try clear hk); (try clear hi); (try clear ho0); obtain ⟨Ao4, co4, eo4⟩ := Kd.R_slice HO222.out; subst eo4))
  go_loopg [3, 9] k (fun kq v3 v9 w' => ∃ (x3_1 : ByteArray) (x9_1 : Int), v3 = .string x3_1 ∧ v9 = .int .i64 x9_1 ∧ Aside0 (trustquorumref17_Text.l0 kq x3_1 t220 (t220.length : Int) x9_1 = some r) ∧ Aside0 (kq ≤ k) ∧ Aside0 (Kd.R k24 24 w' w.heap.size (fun _ => True) (.slice Ao4 t220.length co4) t220) ∧ Aside0 (Below w.heap.size w w'))
  case atStart => exact ⟨((⟨#[]⟩ : ByteArray)), (0), (by first | rfl | (simp; done) | (simp [*]; done)), (by first | rfl | (simp; done) | (simp [*]; done)), H', ⟨Nat.le_refl _⟩, ⟨by (with_reducible repeat (first | apply Kd.R_alloc | apply Kd.R_drewN | apply Kd.R_drew)); exact HO222.out⟩, ⟨by repeat (first | (with_reducible first | exact HB.out | apply below_alloc | apply pw_below_drewN | apply below_drew1) | exact HB.out)⟩⟩
  case round =>
    clear H'
    try clear c2
    try clear p2
    obtain ⟨x3_1, x9_1, rfl, rfl, HA, HK1, HO_7, HB⟩ := hrel
    cases gk with
    | zero => exact absurd HA.out (by simp [trustquorumref17_Text.l0])
    | succ k1 =>
      have H := HA.out
      clear HA
      simp only [trustquorumref17_Text.l0] at H
      by_cases c5 : x9_1 < (t220.length : Int)
      · rw [if_pos c5] at H
        have c5b0 : decide (x9_1 < (t220.length : Int)) = true := decide_eq_true c5
        clear c5
        by_cases c6 : 0 ≤ x9_1
        · rw [if_pos c6] at H
          have c6b0 : decide (0 ≤ x9_1) = true := decide_eq_true c6
          clear c6
          by_cases c7 : x9_1 < (t220.length : Int)
          · rw [if_pos c7] at H
            have c7b0 : decide (x9_1 < (t220.length : Int)) = true := decide_eq_true c7
            clear c7
            by_cases c8 : x9_1 > 0
            · rw [if_pos c8] at H
              have c8b0 : decide (0 < x9_1) = true := decide_eq_true c8
              clear c8
              by_cases c9 : x3_1.size + 1 ≤ 9223372036854775807
              · rw [if_pos c9] at H
                have c9b0 := eq_true c9
                have c9b1 : decide (x3_1.size + 1 ≤ 9223372036854775807) = true := decide_eq_true c9
                try have c9b2 : (9223372036854775807 < x3_1.size + 1) = False := eq_false (Nat.not_lt.2 c9)
                replace H := Option.bind_eq_some_iff.mp H
                obtain ⟨t225, A100, H⟩ := H
                replace H : (if t225.size + 1 ≤ 9223372036854775807 then ((strconv_Itoa.f ((rd_T24 t220 x9_1).f1)).bind fun t226 => (if (t225 ++ (⟨#[61]⟩ : ByteArray)).size + t226.size ≤ 9223372036854775807 then (if (x3_1 ++ (⟨#[32]⟩ : ByteArray)).size + ((t225 ++ (⟨#[61]⟩ : ByteArray)) ++ t226).size ≤ 9223372036854775807 then (trustquorumref17_Text.l0 k1 ((x3_1 ++ (⟨#[32]⟩ : ByteArray)) ++ ((t225 ++ (⟨#[61]⟩ : ByteArray)) ++ t226)) t220 (t220.length : Int) (wrap64 (x9_1 + 1))) else (none)) else (none))) else (none)) = some r := H
                have A10 := Aside0.mk A100
                clear A100
                by_cases c11 : t225.size + 1 ≤ 9223372036854775807
                · rw [if_pos c11] at H
                  have c11b0 := eq_true c11
                  have c11b1 : decide (t225.size + 1 ≤ 9223372036854775807) = true := decide_eq_true c11
                  try have c11b2 : (9223372036854775807 < t225.size + 1) = False := eq_false (Nat.not_lt.2 c11)
                  replace H := Option.bind_eq_some_iff.mp H
                  obtain ⟨t226, A120, H⟩ := H
                  replace H : (if (t225 ++ (⟨#[61]⟩ : ByteArray)).size + t226.size ≤ 9223372036854775807 then (if (x3_1 ++ (⟨#[32]⟩ : ByteArray)).size + ((t225 ++ (⟨#[61]⟩ : ByteArray)) ++ t226).size ≤ 9223372036854775807 then (trustquorumref17_Text.l0 k1 ((x3_1 ++ (⟨#[32]⟩ : ByteArray)) ++ ((t225 ++ (⟨#[61]⟩ : ByteArray)) ++ t226)) t220 (t220.length : Int) (wrap64 (x9_1 + 1))) else (none)) else (none)) = some r := H
                  have A12 := Aside0.mk A120
                  clear A120
                  by_cases c13 : (t225 ++ (⟨#[61]⟩ : ByteArray)).size + t226.size ≤ 9223372036854775807
                  · rw [if_pos c13] at H
                    have c13b0 := eq_true c13
                    have c13b1 : decide ((t225 ++ (⟨#[61]⟩ : ByteArray)).size + t226.size ≤ 9223372036854775807) = true := decide_eq_true c13
                    try have c13b2 : (9223372036854775807 < (t225 ++ (⟨#[61]⟩ : ByteArray)).size + t226.size) = False := eq_false (Nat.not_lt.2 c13)
                    have c13b3 : (9223372036854775807 < t225.size + 1 + t226.size) = False := by have h_ := c13b2; simp only [ByteArray.size_append] at h_; exact h_
                    by_cases c14 : (x3_1 ++ (⟨#[32]⟩ : ByteArray)).size + ((t225 ++ (⟨#[61]⟩ : ByteArray)) ++ t226).size ≤ 9223372036854775807
                    · rw [if_pos c14] at H
                      have c14b0 := eq_true c14
                      have c14b1 : decide ((x3_1 ++ (⟨#[32]⟩ : ByteArray)).size + ((t225 ++ (⟨#[61]⟩ : ByteArray)) ++ t226).size ≤ 9223372036854775807) = true := decide_eq_true c14
                      try have c14b2 : (9223372036854775807 < (x3_1 ++ (⟨#[32]⟩ : ByteArray)).size + ((t225 ++ (⟨#[61]⟩ : ByteArray)) ++ t226).size) = False := eq_false (Nat.not_lt.2 c14)
                      have c14b3 : (9223372036854775807 < x3_1.size + 1 + (t225.size + 1 + t226.size)) = False := by have h_ := c14b2; simp only [ByteArray.size_append] at h_; exact h_
                      have H' := Aside0.mk H
                      clear H
                      have p223 : 0 ≤ (x9_1 : Int) := of_decide_eq_true (by first | (with_reducible assumption) | assumption)
                      have q223 : x9_1 < (t220.length : Int) := of_decide_eq_true (by first | (with_reducible assumption) | assumption)
                      obtain ⟨ad223, e223, hx223_0, hx223_1⟩ := at_T24 (Kd.R_reads' HO_7.out).2.2 x9_1 p223 q223
                      cases e223
                      replace p223 := eq_true p223
                      replace q223 := eq_true q223
                      try go_wp2_with (first | ((with_reducible refine gate_dst (N := 5) rfl ?_); refine box_event ?hg (N := 5) ?hd (cs := #[.int .i64 0, .int .i64 0]) (t := 24) ?hr ?_; (case hd => rfl); (case hg => rfl); (case hr => first | (go_simp; done) | (go_simp; rfl)); intro gb224 hg w15 hbox hb; have n0_ := Aside0.mk (Kd.R_below (Kd.R_elderB (by (with_reducible repeat (first | apply Kd.R_alloc | apply Kd.R_drewN | apply Kd.R_drew)); exact HO_7.out) gb224 (Nat.le_of_eq hg.symm)) hb); have n1_ := Aside0.mk (below_step (by repeat (first | (with_reducible first | exact HB.out | apply below_alloc | apply pw_below_drewN | apply below_drew1) | exact HB.out)) hb); have n2_ := Aside0.mk (hbox); have n3_ := Aside0.mk ((by rw [hg]; exact (below_size (by repeat (first | (with_reducible first | exact HB.out | apply below_alloc | apply pw_below_drewN | apply below_drew1) | exact HB.out))) : w.heap.size ≤ gb224)); have n4_ := Aside0.mk ((by rw [hg]; exact (below_size (by repeat (first | (with_reducible first | exact HB.out | apply below_alloc | apply pw_below_drewN | apply below_drew1) | exact HB.out))) : w.heap.size ≤ gb224)); clear HO_7; clear HB; have HO_7 := n0_; have HB := n1_; have BK224 := n2_; have GW224 := n3_; have GE224 := n4_; clear n0_ n1_ n2_ n3_ n4_; clear hb hbox hg; have hcz16_0 : w15.cell? ⟨gb224, 0, none⟩ = some (.int .i64 0) := (blk_cell BK224.out 0).trans rfl; have hcz16_1 : w15.cell? ⟨gb224, 1, none⟩ = some (.int .i64 0) := (blk_cell BK224.out 1).trans rfl; have hfz16_0 := blk_frozen BK224.out 0; have hfz16_1 := blk_frozen BK224.out 1))
                      have n0_ : Aside0 (Kd.R k24 24 ((w15.setCell ⟨gb224, 0, none⟩ (.int .i64 ((rd_T24 t220 x9_1).f0))).setCell ⟨gb224, 1, none⟩ (.int .i64 ((rd_T24 t220 x9_1).f1))) w.heap.size (fun k_ => k_ ≠ gb224) (.slice (some ad223) t220.length co4) t220) := ⟨by (with_reducible repeat (first | apply Kd.R_alloc | apply Kd.R_drewN | apply Kd.R_drew)); exact Kd.R_mono (Kd.R_far (p := ⟨gb224, 1, none⟩) (Kd.R_far (p := ⟨gb224, 0, none⟩) (Kd.R_mono HO_7.out (fun k_ hk => (⟨hk, hk.2⟩ : _ ∧ k_ ≠ gb224))) (fun _ hk => hk.2) (.int .i64 ((rd_T24 t220 x9_1).f0))) (fun _ hk => hk.2) (.int .i64 ((rd_T24 t220 x9_1).f1))) (fun _ hk => hk.1.2)⟩
                      have n1_ : Aside0 (((w15.setCell ⟨gb224, 0, none⟩ (.int .i64 ((rd_T24 t220 x9_1).f0))).setCell ⟨gb224, 1, none⟩ (.int .i64 ((rd_T24 t220 x9_1).f1))).heap[gb224]? = some (.cells #[.int .i64 ((rd_T24 t220 x9_1).f0), .int .i64 ((rd_T24 t220 x9_1).f1)] 24 (0, 0))) := ⟨by (with_reducible repeat (first | refine blk_drewN ?_ _ | refine blk_drew ?_ | refine blk_alloc ?_ _)); refine blk_put (cs := #[.int .i64 ((rd_T24 t220 x9_1).f0), .int .i64 0]) ?_ 1 _ rfl; (with_reducible repeat (first | refine blk_drewN ?_ _ | refine blk_drew ?_ | refine blk_alloc ?_ _)); refine blk_put (cs := #[.int .i64 0, .int .i64 0]) ?_ 0 _ rfl; (with_reducible repeat (first | refine blk_drewN ?_ _ | refine blk_drew ?_ | refine blk_alloc ?_ _)); exact BK224.out⟩
                      have n2_ : Aside0 (Below w.heap.size w ((w15.setCell ⟨gb224, 0, none⟩ (.int .i64 ((rd_T24 t220 x9_1).f0))).setCell ⟨gb224, 1, none⟩ (.int .i64 ((rd_T24 t220 x9_1).f1)))) := ⟨by repeat (first | (with_reducible first | exact HB.out | apply below_alloc | apply pw_below_drewN | apply below_drew1 | refine below_set ?_ GE224.out) | exact HB.out)⟩
                      (try clear HO_7)
                      (try clear BK224)
                      (try clear HB)
                      generalize ((w15.setCell ⟨gb224, 0, none⟩ (.int .i64 ((rd_T24 t220 x9_1).f0))).setCell ⟨gb224, 1, none⟩ (.int .i64 ((rd_T24 t220 x9_1).f1))) = w17 at n0_ n1_ n2_ ⊢
                      have HO_7 := n0_
                      have BK224 := n1_
                      have HB := n2_
                      clear n0_ n1_ n2_
                      have n0_ := Aside0.mk (Kd.R_drew HO_7.out)
                      have n1_ := Aside0.mk (blk_drew BK224.out)
                      have n2_ := Aside0.mk (below_drew1 HB.out)
                      clear HO_7
                      clear BK224
                      clear HB
                      have HO_7 := n0_
                      have BK224 := n1_
                      have HB := n2_
                      clear n0_ n1_ n2_
                      refine start_ (n := 11) (S := fun w' => w'.cell? ⟨gb224, 0, none⟩ = some (.int .i64 ((rd_T24 t220 x9_1).f0)) ∧ w'.cell? ⟨gb224, 1, none⟩ = some (.int .i64 ((rd_T24 t220 x9_1).f1))) (ds := []) #[false, false, false, false, false, false, false, false, false, false, false] (by kernel_rfl) rfl rfl ⟨(blk_cell BK224.out 0).trans rfl, (blk_cell BK224.out 1).trans rfl⟩ (fun hHeld => ?_); refine with_tabW trustquorumref17_Text.tab7 trustquorumref17_Text.bits7 (fun HT_ HW_ => ?_)
                      generalize w17.drew = w18 at HO_7 BK224 HB hHeld ⊢
                      refine pure_ (i := 0) (N := some 18) (v := ?_) (a' := ?_) #[true, false, false, false, false, false, false, false, false, false, false] rfl rfl (any_of HT_.out (by kernel_rfl)) (fun _ _ _ h => h) (Or.inl ⟨by rfl, ?_⟩) ?_ ?_
                      rotate_left
                      · intro w'
                        go_simp
                        with_reducible rfl
                      rotate_left
                      · simp only [Act.put, List.setIfInBounds_toArray, List.set_cons_zero, List.set_cons_succ, i64_w, i32_w]
                        rfl
                      refine pure_ (i := 1) (N := some 19) (v := ?_) (a' := ?_) #[true, true, false, false, false, false, false, false, false, false, false] rfl rfl (any_of HT_.out (by kernel_rfl)) (fun _ _ _ h => h) (Or.inl ⟨by rfl, ?_⟩) ?_ ?_
                      rotate_left
                      · intro w'
                        go_simp
                        with_reducible rfl
                      rotate_left
                      · simp only [Act.put, List.setIfInBounds_toArray, List.set_cons_zero, List.set_cons_succ, i64_w, i32_w]
                        rfl
                      refine pure_ (i := 5) (N := some 23) (v := ?_) (a' := ?_) #[true, true, false, false, false, true, false, false, false, false, false] rfl rfl (any_of HT_.out (by kernel_rfl)) (fun _ _ _ h => h) (Or.inl ⟨by rfl, ?_⟩) ?_ ?_
                      rotate_left
                      · intro w'
                        go_simp
                        with_reducible rfl
                      rotate_left
                      · simp only [Act.put, List.setIfInBounds_toArray, List.set_cons_zero, List.set_cons_succ, i64_w, i32_w]
                        rfl
                      refine take_ (i := 2) (N := some 20) (v := ?_) (a' := ?_) #[true, true, true, false, false, true, false, false, false, false, false] rfl rfl (take_ofW HT_.out HW_.out (by kernel_rfl)) (fun _ _ _ h => h) (Or.inl ⟨by rfl, ?_⟩) hHeld ?_ ?_
                      rotate_left
                      · rintro w' ⟨s0, s1⟩
                        go_simp
                        with_reducible rfl
                      rotate_left
                      · simp only [Act.put, List.setIfInBounds_toArray, List.set_cons_zero, List.set_cons_succ, i64_w, i32_w]
                        rfl
                      refine take_ (i := 6) (N := some 24) (v := ?_) (a' := ?_) #[true, true, true, false, false, true, true, false, false, false, false] rfl rfl (take_ofW HT_.out HW_.out (by kernel_rfl)) (fun _ _ _ h => h) (Or.inl ⟨by rfl, ?_⟩) hHeld ?_ ?_
                      rotate_left
                      · rintro w' ⟨s0, s1⟩
                        go_simp
                        with_reducible rfl
                      rotate_left
                      · simp only [Act.put, List.setIfInBounds_toArray, List.set_cons_zero, List.set_cons_succ, i64_w, i32_w]
                        rfl
                      refine one_ (i := 3) (N := some 21) #[true, true, true, true, false, true, true, false, false, false, false] rfl rfl (one_of HT_.out (by kernel_rfl)) (by decide) (fun K hK => ?_)
                      refine goes_ Tryz.func40 (by kernel_rfl) rfl #[.int .i64 ((rd_T24 t220 x9_1).f0)] (by rfl) rfl rfl (by (try simp only [List.map_toArray, List.map_cons, List.map_nil]); first | done | rfl | (simp only [List.length_drop, List.length_take]; rfl)) ?_
                      with_reducible refine (strconv_Itoa.calls ((rd_T24 t220 x9_1).f0) t225 _ A10.out).mono ?_
                      rintro e w19 ⟨rfl, hb⟩
                      refine ⟨_, rfl, ?_⟩
                      have n0_ := Aside0.mk (Kd.R_below (by (with_reducible repeat (first | apply Kd.R_alloc | apply Kd.R_drewN | apply Kd.R_drew)); exact HO_7.out) hb)
                      have n1_ := Aside0.mk (blk_below (g := gb224) (o := .cells #[.int .i64 ((rd_T24 t220 x9_1).f0), .int .i64 ((rd_T24 t220 x9_1).f1)] 24 (0, 0)) (by (with_reducible repeat (first | refine blk_drewN ?_ _ | refine blk_drew ?_ | refine blk_alloc ?_ _)); exact BK224.out) hb)
                      have n2_ := Aside0.mk (below_step (by repeat (first | (with_reducible first | exact HB.out | apply below_alloc | apply pw_below_drewN | apply below_drew1 | refine below_set ?_ GE224.out) | exact HB.out)) hb)
                      clear HO_7
                      clear BK224
                      clear HB
                      have HO_7 := n0_
                      have BK224 := n1_
                      have HB := n2_
                      clear n0_ n1_ n2_
                      (try clear hb)
                      (try clear hb2)
                      (try clear hk)
                      (try clear hi)
                      refine hK.out _ _ ⟨(blk_cell BK224.out 0).trans rfl, (blk_cell BK224.out 1).trans rfl⟩ (fun hHeld => ?_)
                      clear hK K
                      refine norm_ (a' := ?_) ?_ ?_
                      rotate_left
                      · show Act.put _ (some 21) _ = _
                        simp only [Act.put, List.setIfInBounds_toArray, List.set_cons_zero, List.set_cons_succ, i64_w, i32_w]
                        rfl
                      refine pure_ (i := 4) (N := some 22) (v := ?_) (a' := ?_) #[true, true, true, true, true, true, true, false, false, false, false] rfl rfl (any_of HT_.out (by kernel_rfl)) (fun _ _ _ h => h) (Or.inl ⟨by rfl, ?_⟩) ?_ ?_
                      rotate_left
                      · intro w'
                        go_simp
                        with_reducible rfl
                      rotate_left
                      · simp only [Act.put, List.setIfInBounds_toArray, List.set_cons_zero, List.set_cons_succ, i64_w, i32_w]
                        rfl
                      refine one_ (i := 7) (N := some 25) #[true, true, true, true, true, true, true, true, false, false, false] rfl rfl (one_of HT_.out (by kernel_rfl)) (by decide) (fun K hK => ?_)
                      refine goes_ Tryz.func40 (by kernel_rfl) rfl #[.int .i64 ((rd_T24 t220 x9_1).f1)] (by rfl) rfl rfl (by (try simp only [List.map_toArray, List.map_cons, List.map_nil]); first | done | rfl | (simp only [List.length_drop, List.length_take]; rfl)) ?_
                      with_reducible refine (strconv_Itoa.calls ((rd_T24 t220 x9_1).f1) t226 _ A12.out).mono ?_
                      rintro e w20 ⟨rfl, hb⟩
                      refine ⟨_, rfl, ?_⟩
                      have n0_ := Aside0.mk (Kd.R_below (by (with_reducible repeat (first | apply Kd.R_alloc | apply Kd.R_drewN | apply Kd.R_drew)); exact HO_7.out) hb)
                      have n1_ := Aside0.mk (blk_below (g := gb224) (o := .cells #[.int .i64 ((rd_T24 t220 x9_1).f0), .int .i64 ((rd_T24 t220 x9_1).f1)] 24 (0, 0)) (by (with_reducible repeat (first | refine blk_drewN ?_ _ | refine blk_drew ?_ | refine blk_alloc ?_ _)); exact BK224.out) hb)
                      have n2_ := Aside0.mk (below_step (by repeat (first | (with_reducible first | exact HB.out | apply below_alloc | apply pw_below_drewN | apply below_drew1 | refine below_set ?_ GE224.out) | exact HB.out)) hb)
                      clear HO_7
                      clear BK224
                      clear HB
                      have HO_7 := n0_
                      have BK224 := n1_
                      have HB := n2_
                      clear n0_ n1_ n2_
                      (try clear hb)
                      (try clear hb2)
                      (try clear hk)
                      (try clear hi)
                      refine hK.out _ _ ⟨(blk_cell BK224.out 0).trans rfl, (blk_cell BK224.out 1).trans rfl⟩ (fun hHeld => ?_)
                      clear hK K
                      refine norm_ (a' := ?_) ?_ ?_
                      rotate_left
                      · show Act.put _ (some 25) _ = _
                        simp only [Act.put, List.setIfInBounds_toArray, List.set_cons_zero, List.set_cons_succ, i64_w, i32_w]
                        rfl
                      refine pure_ (i := 8) (N := some 26) (v := ?_) (a' := ?_) #[true, true, true, true, true, true, true, true, true, false, false] rfl rfl (any_of HT_.out (by kernel_rfl)) (fun _ _ _ h => h) (Or.inl ⟨by rfl, ?_⟩) ?_ ?_
                      rotate_left
                      · intro w'
                        go_simp
                        with_reducible rfl
                      rotate_left
                      · simp only [Act.put, List.setIfInBounds_toArray, List.set_cons_zero, List.set_cons_succ, i64_w, i32_w]
                        rfl
                      refine pure_ (i := 9) (N := some 27) (v := ?_) (a' := ?_) #[true, true, true, true, true, true, true, true, true, true, false] rfl rfl (any_of HT_.out (by kernel_rfl)) (fun _ _ _ h => h) (Or.inl ⟨by rfl, ?_⟩) ?_ ?_
                      rotate_left
                      · intro w'
                        go_simp
                        with_reducible rfl
                      rotate_left
                      · simp only [Act.put, List.setIfInBounds_toArray, List.set_cons_zero, List.set_cons_succ, i64_w, i32_w]
                        rfl
                      refine pure_ (i := 10) (N := some 3) (v := ?_) (a' := ?_) #[true, true, true, true, true, true, true, true, true, true, true] rfl rfl (any_of HT_.out (by kernel_rfl)) (fun _ _ _ h => h) (Or.inl ⟨by rfl, ?_⟩) ?_ ?_
                      rotate_left
                      · intro w'
                        go_simp
                        with_reducible rfl
                      rotate_left
                      · simp only [Act.put, List.setIfInBounds_toArray, List.set_cons_zero, List.set_cons_succ, i64_w, i32_w]
                        rfl
                      refine done_ (done_of HT_.out (by kernel_rfl)) ?_
                      try go_wp2
                      go_roundg k1
                      case measure => have := HK1.out; omega
                      case rel => exact ⟨((x3_1 ++ (⟨#[32]⟩ : ByteArray)) ++ ((t225 ++ (⟨#[61]⟩ : ByteArray)) ++ t226)), (wrap64 (x9_1 + 1)), (by first | rfl | (simp; done) | (simp [*]; done)), (by first | rfl | (simp; done) | (simp [*]; done)), H', ⟨by have := HK1.out; omega⟩, ⟨by (with_reducible repeat (first | apply Kd.R_alloc | apply Kd.R_drewN | apply Kd.R_drew)); exact Kd.R_mono HO_7.out (fun _ hk => trivial)⟩, ⟨by repeat (first | (with_reducible first | exact HB.out | apply below_alloc | apply pw_below_drewN | apply below_drew1 | refine below_set ?_ GE224.out) | exact HB.out)⟩⟩
                    · rw [if_neg c14] at H
                      exact absurd H (by simp)
                  · rw [if_neg c13] at H
                    exact absurd H (by simp)
                · rw [if_neg c11] at H
                  exact absurd H (by simp)
              · rw [if_neg c9] at H
                exact absurd H (by simp)
            · rw [if_neg c8] at H
              have c8b0 : decide (0 < x9_1) = false := decide_eq_false c8
              clear c8
              replace H := Option.bind_eq_some_iff.mp H
              obtain ⟨t227, A210, H⟩ := H
              replace H : (if t227.size + 1 ≤ 9223372036854775807 then ((strconv_Itoa.f ((rd_T24 t220 x9_1).f1)).bind fun t228 => (if (t227 ++ (⟨#[61]⟩ : ByteArray)).size + t228.size ≤ 9223372036854775807 then (if x3_1.size + ((t227 ++ (⟨#[61]⟩ : ByteArray)) ++ t228).size ≤ 9223372036854775807 then (trustquorumref17_Text.l0 k1 (x3_1 ++ ((t227 ++ (⟨#[61]⟩ : ByteArray)) ++ t228)) t220 (t220.length : Int) (wrap64 (x9_1 + 1))) else (none)) else (none))) else (none)) = some r := H
              have A21 := Aside0.mk A210
              clear A210
              by_cases c22 : t227.size + 1 ≤ 9223372036854775807
              · rw [if_pos c22] at H
                have c22b0 := eq_true c22
                have c22b1 : decide (t227.size + 1 ≤ 9223372036854775807) = true := decide_eq_true c22
                try have c22b2 : (9223372036854775807 < t227.size + 1) = False := eq_false (Nat.not_lt.2 c22)
                replace H := Option.bind_eq_some_iff.mp H
                obtain ⟨t228, A230, H⟩ := H
                replace H : (if (t227 ++ (⟨#[61]⟩ : ByteArray)).size + t228.size ≤ 9223372036854775807 then (if x3_1.size + ((t227 ++ (⟨#[61]⟩ : ByteArray)) ++ t228).size ≤ 9223372036854775807 then (trustquorumref17_Text.l0 k1 (x3_1 ++ ((t227 ++ (⟨#[61]⟩ : ByteArray)) ++ t228)) t220 (t220.length : Int) (wrap64 (x9_1 + 1))) else (none)) else (none)) = some r := H
                have A23 := Aside0.mk A230
                clear A230
                by_cases c24 : (t227 ++ (⟨#[61]⟩ : ByteArray)).size + t228.size ≤ 9223372036854775807
                · rw [if_pos c24] at H
                  have c24b0 := eq_true c24
                  have c24b1 : decide ((t227 ++ (⟨#[61]⟩ : ByteArray)).size + t228.size ≤ 9223372036854775807) = true := decide_eq_true c24
                  try have c24b2 : (9223372036854775807 < (t227 ++ (⟨#[61]⟩ : ByteArray)).size + t228.size) = False := eq_false (Nat.not_lt.2 c24)
                  have c24b3 : (9223372036854775807 < t227.size + 1 + t228.size) = False := by have h_ := c24b2; simp only [ByteArray.size_append] at h_; exact h_
                  by_cases c25 : x3_1.size + ((t227 ++ (⟨#[61]⟩ : ByteArray)) ++ t228).size ≤ 9223372036854775807
                  · rw [if_pos c25] at H
                    have c25b0 := eq_true c25
                    have c25b1 : decide (x3_1.size + ((t227 ++ (⟨#[61]⟩ : ByteArray)) ++ t228).size ≤ 9223372036854775807) = true := decide_eq_true c25
                    try have c25b2 : (9223372036854775807 < x3_1.size + ((t227 ++ (⟨#[61]⟩ : ByteArray)) ++ t228).size) = False := eq_false (Nat.not_lt.2 c25)
                    have c25b3 : (9223372036854775807 < x3_1.size + (t227.size + 1 + t228.size)) = False := by have h_ := c25b2; simp only [ByteArray.size_append] at h_; exact h_
                    have H' := Aside0.mk H
                    clear H
                    have p223 : 0 ≤ (x9_1 : Int) := of_decide_eq_true (by first | (with_reducible assumption) | assumption)
                    have q223 : x9_1 < (t220.length : Int) := of_decide_eq_true (by first | (with_reducible assumption) | assumption)
                    obtain ⟨ad223, e223, hx223_0, hx223_1⟩ := at_T24 (Kd.R_reads' HO_7.out).2.2 x9_1 p223 q223
                    cases e223
                    replace p223 := eq_true p223
                    replace q223 := eq_true q223
                    try go_wp2_with (first | ((with_reducible refine gate_dst (N := 5) rfl ?_); refine box_event ?hg (N := 5) ?hd (cs := #[.int .i64 0, .int .i64 0]) (t := 24) ?hr ?_; (case hd => rfl); (case hg => rfl); (case hr => first | (go_simp; done) | (go_simp; rfl)); intro gb224 hg w26 hbox hb; have n0_ := Aside0.mk (Kd.R_below (Kd.R_elderB (by (with_reducible repeat (first | apply Kd.R_alloc | apply Kd.R_drewN | apply Kd.R_drew)); exact HO_7.out) gb224 (Nat.le_of_eq hg.symm)) hb); have n1_ := Aside0.mk (below_step (by repeat (first | (with_reducible first | exact HB.out | apply below_alloc | apply pw_below_drewN | apply below_drew1) | exact HB.out)) hb); have n2_ := Aside0.mk (hbox); have n3_ := Aside0.mk ((by rw [hg]; exact (below_size (by repeat (first | (with_reducible first | exact HB.out | apply below_alloc | apply pw_below_drewN | apply below_drew1) | exact HB.out))) : w.heap.size ≤ gb224)); have n4_ := Aside0.mk ((by rw [hg]; exact (below_size (by repeat (first | (with_reducible first | exact HB.out | apply below_alloc | apply pw_below_drewN | apply below_drew1) | exact HB.out))) : w.heap.size ≤ gb224)); clear HO_7; clear HB; have HO_7 := n0_; have HB := n1_; have BK224 := n2_; have GW224 := n3_; have GE224 := n4_; clear n0_ n1_ n2_ n3_ n4_; clear hb hbox hg; have hcz27_0 : w26.cell? ⟨gb224, 0, none⟩ = some (.int .i64 0) := (blk_cell BK224.out 0).trans rfl; have hcz27_1 : w26.cell? ⟨gb224, 1, none⟩ = some (.int .i64 0) := (blk_cell BK224.out 1).trans rfl; have hfz27_0 := blk_frozen BK224.out 0; have hfz27_1 := blk_frozen BK224.out 1))
                    have n0_ : Aside0 (Kd.R k24 24 ((w26.setCell ⟨gb224, 0, none⟩ (.int .i64 ((rd_T24 t220 x9_1).f0))).setCell ⟨gb224, 1, none⟩ (.int .i64 ((rd_T24 t220 x9_1).f1))) w.heap.size (fun k_ => k_ ≠ gb224) (.slice (some ad223) t220.length co4) t220) := ⟨by (with_reducible repeat (first | apply Kd.R_alloc | apply Kd.R_drewN | apply Kd.R_drew)); exact Kd.R_mono (Kd.R_far (p := ⟨gb224, 1, none⟩) (Kd.R_far (p := ⟨gb224, 0, none⟩) (Kd.R_mono HO_7.out (fun k_ hk => (⟨hk, hk.2⟩ : _ ∧ k_ ≠ gb224))) (fun _ hk => hk.2) (.int .i64 ((rd_T24 t220 x9_1).f0))) (fun _ hk => hk.2) (.int .i64 ((rd_T24 t220 x9_1).f1))) (fun _ hk => hk.1.2)⟩
                    have n1_ : Aside0 (((w26.setCell ⟨gb224, 0, none⟩ (.int .i64 ((rd_T24 t220 x9_1).f0))).setCell ⟨gb224, 1, none⟩ (.int .i64 ((rd_T24 t220 x9_1).f1))).heap[gb224]? = some (.cells #[.int .i64 ((rd_T24 t220 x9_1).f0), .int .i64 ((rd_T24 t220 x9_1).f1)] 24 (0, 0))) := ⟨by (with_reducible repeat (first | refine blk_drewN ?_ _ | refine blk_drew ?_ | refine blk_alloc ?_ _)); refine blk_put (cs := #[.int .i64 ((rd_T24 t220 x9_1).f0), .int .i64 0]) ?_ 1 _ rfl; (with_reducible repeat (first | refine blk_drewN ?_ _ | refine blk_drew ?_ | refine blk_alloc ?_ _)); refine blk_put (cs := #[.int .i64 0, .int .i64 0]) ?_ 0 _ rfl; (with_reducible repeat (first | refine blk_drewN ?_ _ | refine blk_drew ?_ | refine blk_alloc ?_ _)); exact BK224.out⟩
                    have n2_ : Aside0 (Below w.heap.size w ((w26.setCell ⟨gb224, 0, none⟩ (.int .i64 ((rd_T24 t220 x9_1).f0))).setCell ⟨gb224, 1, none⟩ (.int .i64 ((rd_T24 t220 x9_1).f1)))) := ⟨by repeat (first | (with_reducible first | exact HB.out | apply below_alloc | apply pw_below_drewN | apply below_drew1 | refine below_set ?_ GE224.out) | exact HB.out)⟩
                    (try clear HO_7)
                    (try clear BK224)
                    (try clear HB)
                    generalize ((w26.setCell ⟨gb224, 0, none⟩ (.int .i64 ((rd_T24 t220 x9_1).f0))).setCell ⟨gb224, 1, none⟩ (.int .i64 ((rd_T24 t220 x9_1).f1))) = w28 at n0_ n1_ n2_ ⊢
                    have HO_7 := n0_
                    have BK224 := n1_
                    have HB := n2_
                    clear n0_ n1_ n2_
                    have n0_ := Aside0.mk (Kd.R_drew HO_7.out)
                    have n1_ := Aside0.mk (blk_drew BK224.out)
                    have n2_ := Aside0.mk (below_drew1 HB.out)
                    clear HO_7
                    clear BK224
                    clear HB
                    have HO_7 := n0_
                    have BK224 := n1_
                    have HB := n2_
                    clear n0_ n1_ n2_
                    refine start_ (n := 11) (S := fun w' => w'.cell? ⟨gb224, 0, none⟩ = some (.int .i64 ((rd_T24 t220 x9_1).f0)) ∧ w'.cell? ⟨gb224, 1, none⟩ = some (.int .i64 ((rd_T24 t220 x9_1).f1))) (ds := []) #[false, false, false, false, false, false, false, false, false, false, false] (by kernel_rfl) rfl rfl ⟨(blk_cell BK224.out 0).trans rfl, (blk_cell BK224.out 1).trans rfl⟩ (fun hHeld => ?_); refine with_tabW trustquorumref17_Text.tab7 trustquorumref17_Text.bits7 (fun HT_ HW_ => ?_)
                    generalize w28.drew = w29 at HO_7 BK224 HB hHeld ⊢
                    refine pure_ (i := 0) (N := some 18) (v := ?_) (a' := ?_) #[true, false, false, false, false, false, false, false, false, false, false] rfl rfl (any_of HT_.out (by kernel_rfl)) (fun _ _ _ h => h) (Or.inl ⟨by rfl, ?_⟩) ?_ ?_
                    rotate_left
                    · intro w'
                      go_simp
                      with_reducible rfl
                    rotate_left
                    · simp only [Act.put, List.setIfInBounds_toArray, List.set_cons_zero, List.set_cons_succ, i64_w, i32_w]
                      rfl
                    refine pure_ (i := 1) (N := some 19) (v := ?_) (a' := ?_) #[true, true, false, false, false, false, false, false, false, false, false] rfl rfl (any_of HT_.out (by kernel_rfl)) (fun _ _ _ h => h) (Or.inl ⟨by rfl, ?_⟩) ?_ ?_
                    rotate_left
                    · intro w'
                      go_simp
                      with_reducible rfl
                    rotate_left
                    · simp only [Act.put, List.setIfInBounds_toArray, List.set_cons_zero, List.set_cons_succ, i64_w, i32_w]
                      rfl
                    refine pure_ (i := 5) (N := some 23) (v := ?_) (a' := ?_) #[true, true, false, false, false, true, false, false, false, false, false] rfl rfl (any_of HT_.out (by kernel_rfl)) (fun _ _ _ h => h) (Or.inl ⟨by rfl, ?_⟩) ?_ ?_
                    rotate_left
                    · intro w'
                      go_simp
                      with_reducible rfl
                    rotate_left
                    · simp only [Act.put, List.setIfInBounds_toArray, List.set_cons_zero, List.set_cons_succ, i64_w, i32_w]
                      rfl
                    refine take_ (i := 2) (N := some 20) (v := ?_) (a' := ?_) #[true, true, true, false, false, true, false, false, false, false, false] rfl rfl (take_ofW HT_.out HW_.out (by kernel_rfl)) (fun _ _ _ h => h) (Or.inl ⟨by rfl, ?_⟩) hHeld ?_ ?_
                    rotate_left
                    · rintro w' ⟨s0, s1⟩
                      go_simp
                      with_reducible rfl
                    rotate_left
                    · simp only [Act.put, List.setIfInBounds_toArray, List.set_cons_zero, List.set_cons_succ, i64_w, i32_w]
                      rfl
                    refine take_ (i := 6) (N := some 24) (v := ?_) (a' := ?_) #[true, true, true, false, false, true, true, false, false, false, false] rfl rfl (take_ofW HT_.out HW_.out (by kernel_rfl)) (fun _ _ _ h => h) (Or.inl ⟨by rfl, ?_⟩) hHeld ?_ ?_
                    rotate_left
                    · rintro w' ⟨s0, s1⟩
                      go_simp
                      with_reducible rfl
                    rotate_left
                    · simp only [Act.put, List.setIfInBounds_toArray, List.set_cons_zero, List.set_cons_succ, i64_w, i32_w]
                      rfl
                    refine one_ (i := 3) (N := some 21) #[true, true, true, true, false, true, true, false, false, false, false] rfl rfl (one_of HT_.out (by kernel_rfl)) (by decide) (fun K hK => ?_)
                    refine goes_ Tryz.func40 (by kernel_rfl) rfl #[.int .i64 ((rd_T24 t220 x9_1).f0)] (by rfl) rfl rfl (by (try simp only [List.map_toArray, List.map_cons, List.map_nil]); first | done | rfl | (simp only [List.length_drop, List.length_take]; rfl)) ?_
                    with_reducible refine (strconv_Itoa.calls ((rd_T24 t220 x9_1).f0) t227 _ A21.out).mono ?_
                    rintro e w30 ⟨rfl, hb⟩
                    refine ⟨_, rfl, ?_⟩
                    have n0_ := Aside0.mk (Kd.R_below (by (with_reducible repeat (first | apply Kd.R_alloc | apply Kd.R_drewN | apply Kd.R_drew)); exact HO_7.out) hb)
                    have n1_ := Aside0.mk (blk_below (g := gb224) (o := .cells #[.int .i64 ((rd_T24 t220 x9_1).f0), .int .i64 ((rd_T24 t220 x9_1).f1)] 24 (0, 0)) (by (with_reducible repeat (first | refine blk_drewN ?_ _ | refine blk_drew ?_ | refine blk_alloc ?_ _)); exact BK224.out) hb)
                    have n2_ := Aside0.mk (below_step (by repeat (first | (with_reducible first | exact HB.out | apply below_alloc | apply pw_below_drewN | apply below_drew1 | refine below_set ?_ GE224.out) | exact HB.out)) hb)
                    clear HO_7
                    clear BK224
                    clear HB
                    have HO_7 := n0_
                    have BK224 := n1_
                    have HB := n2_
                    clear n0_ n1_ n2_
                    (try clear hb)
                    (try clear hb2)
                    (try clear hk)
                    (try clear hi)
                    refine hK.out _ _ ⟨(blk_cell BK224.out 0).trans rfl, (blk_cell BK224.out 1).trans rfl⟩ (fun hHeld => ?_)
                    clear hK K
                    refine norm_ (a' := ?_) ?_ ?_
                    rotate_left
                    · show Act.put _ (some 21) _ = _
                      simp only [Act.put, List.setIfInBounds_toArray, List.set_cons_zero, List.set_cons_succ, i64_w, i32_w]
                      rfl
                    refine pure_ (i := 4) (N := some 22) (v := ?_) (a' := ?_) #[true, true, true, true, true, true, true, false, false, false, false] rfl rfl (any_of HT_.out (by kernel_rfl)) (fun _ _ _ h => h) (Or.inl ⟨by rfl, ?_⟩) ?_ ?_
                    rotate_left
                    · intro w'
                      go_simp
                      with_reducible rfl
                    rotate_left
                    · simp only [Act.put, List.setIfInBounds_toArray, List.set_cons_zero, List.set_cons_succ, i64_w, i32_w]
                      rfl
                    refine one_ (i := 7) (N := some 25) #[true, true, true, true, true, true, true, true, false, false, false] rfl rfl (one_of HT_.out (by kernel_rfl)) (by decide) (fun K hK => ?_)
                    refine goes_ Tryz.func40 (by kernel_rfl) rfl #[.int .i64 ((rd_T24 t220 x9_1).f1)] (by rfl) rfl rfl (by (try simp only [List.map_toArray, List.map_cons, List.map_nil]); first | done | rfl | (simp only [List.length_drop, List.length_take]; rfl)) ?_
                    with_reducible refine (strconv_Itoa.calls ((rd_T24 t220 x9_1).f1) t228 _ A23.out).mono ?_
                    rintro e w31 ⟨rfl, hb⟩
                    refine ⟨_, rfl, ?_⟩
                    have n0_ := Aside0.mk (Kd.R_below (by (with_reducible repeat (first | apply Kd.R_alloc | apply Kd.R_drewN | apply Kd.R_drew)); exact HO_7.out) hb)
                    have n1_ := Aside0.mk (blk_below (g := gb224) (o := .cells #[.int .i64 ((rd_T24 t220 x9_1).f0), .int .i64 ((rd_T24 t220 x9_1).f1)] 24 (0, 0)) (by (with_reducible repeat (first | refine blk_drewN ?_ _ | refine blk_drew ?_ | refine blk_alloc ?_ _)); exact BK224.out) hb)
                    have n2_ := Aside0.mk (below_step (by repeat (first | (with_reducible first | exact HB.out | apply below_alloc | apply pw_below_drewN | apply below_drew1 | refine below_set ?_ GE224.out) | exact HB.out)) hb)
                    clear HO_7
                    clear BK224
                    clear HB
                    have HO_7 := n0_
                    have BK224 := n1_
                    have HB := n2_
                    clear n0_ n1_ n2_
                    (try clear hb)
                    (try clear hb2)
                    (try clear hk)
                    (try clear hi)
                    refine hK.out _ _ ⟨(blk_cell BK224.out 0).trans rfl, (blk_cell BK224.out 1).trans rfl⟩ (fun hHeld => ?_)
                    clear hK K
                    refine norm_ (a' := ?_) ?_ ?_
                    rotate_left
                    · show Act.put _ (some 25) _ = _
                      simp only [Act.put, List.setIfInBounds_toArray, List.set_cons_zero, List.set_cons_succ, i64_w, i32_w]
                      rfl
                    refine pure_ (i := 8) (N := some 26) (v := ?_) (a' := ?_) #[true, true, true, true, true, true, true, true, true, false, false] rfl rfl (any_of HT_.out (by kernel_rfl)) (fun _ _ _ h => h) (Or.inl ⟨by rfl, ?_⟩) ?_ ?_
                    rotate_left
                    · intro w'
                      go_simp
                      with_reducible rfl
                    rotate_left
                    · simp only [Act.put, List.setIfInBounds_toArray, List.set_cons_zero, List.set_cons_succ, i64_w, i32_w]
                      rfl
                    refine pure_ (i := 9) (N := some 27) (v := ?_) (a' := ?_) #[true, true, true, true, true, true, true, true, true, true, false] rfl rfl (any_of HT_.out (by kernel_rfl)) (fun _ _ _ h => h) (Or.inl ⟨by rfl, ?_⟩) ?_ ?_
                    rotate_left
                    · intro w'
                      go_simp
                      with_reducible rfl
                    rotate_left
                    · simp only [Act.put, List.setIfInBounds_toArray, List.set_cons_zero, List.set_cons_succ, i64_w, i32_w]
                      rfl
                    refine pure_ (i := 10) (N := some 3) (v := ?_) (a' := ?_) #[true, true, true, true, true, true, true, true, true, true, true] rfl rfl (any_of HT_.out (by kernel_rfl)) (fun _ _ _ h => h) (Or.inl ⟨by rfl, ?_⟩) ?_ ?_
                    rotate_left
                    · intro w'
                      go_simp
                      with_reducible rfl
                    rotate_left
                    · simp only [Act.put, List.setIfInBounds_toArray, List.set_cons_zero, List.set_cons_succ, i64_w, i32_w]
                      rfl
                    refine done_ (done_of HT_.out (by kernel_rfl)) ?_
                    try go_wp2
                    go_roundg k1
                    case measure => have := HK1.out; omega
                    case rel => exact ⟨(x3_1 ++ ((t227 ++ (⟨#[61]⟩ : ByteArray)) ++ t228)), (wrap64 (x9_1 + 1)), (by first | rfl | (simp; done) | (simp [*]; done)), (by first | rfl | (simp; done) | (simp [*]; done)), H', ⟨by have := HK1.out; omega⟩, ⟨by (with_reducible repeat (first | apply Kd.R_alloc | apply Kd.R_drewN | apply Kd.R_drew)); exact Kd.R_mono HO_7.out (fun _ hk => trivial)⟩, ⟨by repeat (first | (with_reducible first | exact HB.out | apply below_alloc | apply pw_below_drewN | apply below_drew1 | refine below_set ?_ GE224.out) | exact HB.out)⟩⟩
                  · rw [if_neg c25] at H
                    exact absurd H (by simp)
                · rw [if_neg c24] at H
                  exact absurd H (by simp)
              · rw [if_neg c22] at H
                exact absurd H (by simp)
          · rw [if_neg c7] at H
            exact absurd H (by simp)
        · rw [if_neg c6] at H
          exact absurd H (by simp)
      · rw [if_neg c5] at H
        have c5b0 : decide (x9_1 < (t220.length : Int)) = false := decide_eq_false c5
        clear c5
        obtain rfl := Option.some.inj H
        go_wp2
        go_ret
        exact ⟨by first | rfl | (simp [errW_none, errW_some] <;> rfl) | (simp [*, errW_none, errW_some] <;> rfl), by repeat (first | (with_reducible first | exact HB.out | apply below_alloc | apply pw_below_drewN | apply below_drew1) | exact HB.out)⟩

/-! ### trustquorumref17_Union: function 28 -/
def trustquorumref17_Union.f (k : Nat) (l0 : List (S24)) (l1 : List (S24)) : Option ((List (S24))) := (some (([] : List (S24)) : List (S24))).bind fun y229 => (if y229.length + l0.length < 8796093022208 then ((some (y229 ++ l0 : List (S24))).bind fun y232 => (if y232.length + l1.length < 8796093022208 then ((trustquorumref17_Sorted.f k (y232 ++ l1)).bind fun t238 => (some t238)) else (none))) else (none))
theorem trustquorumref17_Union.mono : ∀ a0 a1 k, LeO (trustquorumref17_Union.f k a0 a1) (trustquorumref17_Union.f (k + 1) a0 a1) := by
  intro a0 a1 k
  unfold trustquorumref17_Union.f
  repeat' first
      | (with_reducible exact trustquorumref17_Sorted.mono _ _)
      | (with_reducible exact LeO.refl _)
      | (with_reducible exact LeO.none _)
      | (with_reducible refine LeO.ite ?_ ?_)
      | (with_reducible refine LeO.bind ?_ (fun _ => ?_))
      | exact trustquorumref17_Sorted.mono _ _
      | exact LeO.none _
      | refine LeO.ite ?_ ?_
      | refine LeO.bind ?_ (fun _ => ?_)
set_option maxHeartbeats 8000000 in
set_option maxRecDepth 100000 in
theorem trustquorumref17_Union.calls (k : Nat) (A0 : Option Addr) (c0 : Nat) (l0 : List (S24)) (A1 : Option Addr) (c1 : Nat) (l1 : List (S24)) (r : List (S24)) (w : World) (hr0 : Kd.C k24 w A0 l0.length l0) (hc0 : l0.length ≤ c0) (hr1 : Kd.C k24 w A1 l1.length l1) (hc1 : l1.length ≤ c1) (h : trustquorumref17_Union.f k l0 l1 = some r) :
    Calls Tryz.prog 28 #[.slice A0 l0.length c0, .slice A1 l1.length c1] w fun e w' => ∃ v0_ : Value, e = .returned (v0_) ∧ Kd.R k24 24 w' w.heap.size (fun _ => True) v0_ r ∧ Below w.heap.size w w' := by
  have HR0 := Aside0.mk hr0
  have HC0 := Aside0.mk hc0
  clear hr0 hc0
  have HR1 := Aside0.mk hr1
  have HC1 := Aside0.mk hc1
  clear hr1 hc1
  have HB := Aside0.mk (Below.refl w.heap.size w)
  have H : ((some (([] : List (S24)) : List (S24))).bind fun y229 => (if y229.length + l0.length < 8796093022208 then ((some (y229 ++ l0 : List (S24))).bind fun y232 => (if y232.length + l1.length < 8796093022208 then ((trustquorumref17_Sorted.f k (y232 ++ l1)).bind fun t238 => (some t238)) else (none))) else (none))) = some r := h
  clear h
  obtain ⟨y229, hy229⟩ : ∃ y_ : List (S24), y_ = (([] : List (S24))) := ⟨_, rfl⟩
  replace H : (if y229.length + l0.length < 8796093022208 then ((some (y229 ++ l0 : List (S24))).bind fun y232 => (if y232.length + l1.length < 8796093022208 then ((trustquorumref17_Sorted.f k (y232 ++ l1)).bind fun t238 => (some t238)) else (none))) else (none)) = some r := by first | (rw [hy229]; with_reducible exact H) | (have H2_ := (Option.bind_some _ _).symm.trans H; rw [hy229]; with_reducible exact H2_) | (have H2_ := (Option.bind_some _ _).symm.trans H; with_reducible exact H2_) | with_reducible exact H | (rw [hy229]; exact H) | exact H
  have Ny229 := Aside0.mk hy229
  clear hy229
  by_cases c3 : y229.length + l0.length < 8796093022208
  · rw [if_pos c3] at H
    have LMc3 := Aside0.mk c3
    clear c3
    obtain ⟨y232, hy232⟩ : ∃ y_ : List (S24), y_ = (y229 ++ l0) := ⟨_, rfl⟩
    replace H : (if y232.length + l1.length < 8796093022208 then ((trustquorumref17_Sorted.f k (y232 ++ l1)).bind fun t238 => (some t238)) else (none)) = some r := by first | (rw [hy232]; with_reducible exact H) | (have H2_ := (Option.bind_some _ _).symm.trans H; rw [hy232]; with_reducible exact H2_) | (have H2_ := (Option.bind_some _ _).symm.trans H; with_reducible exact H2_) | with_reducible exact H | (rw [hy232]; exact H) | exact H
    have Ny232 := Aside0.mk hy232
    clear hy232
    by_cases c4 : y232.length + l1.length < 8796093022208
    · rw [if_pos c4] at H
      have LMc4 := Aside0.mk c4
      clear c4
      obtain ⟨y235, hy235⟩ : ∃ y_ : List (S24), y_ = (y232 ++ l1) := ⟨_, rfl⟩
      replace H : ((trustquorumref17_Sorted.f k y235).bind fun t238 => (some t238)) = some r := by first | (rw [hy235]; with_reducible exact H) | (have H2_ := (Option.bind_some _ _).symm.trans H; rw [hy235]; with_reducible exact H2_) | (have H2_ := (Option.bind_some _ _).symm.trans H; with_reducible exact H2_) | with_reducible exact H | (rw [hy235]; exact H) | exact H
      have Ny235 := Aside0.mk hy235
      clear hy235
      replace H := Option.bind_eq_some_iff.mp H
      obtain ⟨t238, A50, H⟩ := H
      replace H : (some t238) = some r := H
      have A5 := Aside0.mk A50
      clear A50
      obtain rfl := Option.some.inj H
      go_enter Tryz.func28, Tryz.ntmps28
      go_wp2_with (first | ((with_reducible refine gate_dst (N := 5) rfl ?_); refine Kd.R_lit k24 _ 24 ?hg (N := 5) ?hd (xs := ([] : List (S24))) (inner := []) (ok := fun _ => True) (okp := fun _ => True) ?hr ?hp (fun _ hk => hk) trivial (Below.refl _ _) (Nat.le_refl _) (by simp) ?_; (case hd => rfl); (case hg => rfl); (case hr => first | (go_simp; done) | (go_simp; rfl)); (case hp => exact (Reps.none _ _)); intro v230 w6 ho7 hb hg_ hnew_; clear hg_ hnew_; (first | rw [← Ny229.out] at ho7 | (simp only [Int.reduceToNat] at ho7; rw [← Ny229.out] at ho7)); have n0_ := Aside0.mk (Kd.R_lower ho7 (below_size (by repeat (first | (with_reducible first | exact HB.out | apply below_alloc | apply pw_below_drewN | apply below_drew1) | exact HB.out)))); have n1_ := Aside0.mk (below_step (by repeat (first | (with_reducible first | exact HB.out | apply below_alloc | apply pw_below_drewN | apply below_drew1) | exact HB.out)) hb); clear HB; have HO231 := n0_; have HB := n1_; clear n0_ n1_; clear hb ho7) | ((with_reducible refine gate_builtin (b := .append) (xs := #[.tmp 5, .tmp 6]) rfl ?_); at_builtin; refine Kd.R_append_rows k24 (w0 := w) w.heap.size rfl (.tmp 5) (.tmp 6) 25 24 (.agg #[(.int .i64 0), (.int .i64 0)]) 16 rfl Tryz.underlying25 info24 rfl (by decide) (by omega) v230 y229 l0 _ _ _ (fun _ => True) (fun _ => False) rfl rfl ?aO ?aR (fun _ _ h => h) (fun _ h => h.elim) ?aF ?aB ?aS ?aL ?_; (case aR => repeat (first | exact (Kd.C_below HR0.out HB.out) | (with_reducible refine Kd.C_alloc ?_ _) | (with_reducible refine Kd.C_drewN ?_ _) | (with_reducible refine Kd.C_drew ?_))); (case aB => exact (by repeat (first | (with_reducible first | exact HB.out | apply below_alloc | apply pw_below_drewN | apply below_drew1) | exact HB.out))); (case aF => exact (fun _ _ => trivial)); (case aO => exact (by (with_reducible repeat (first | apply Kd.R_alloc | apply Kd.R_drewN | apply Kd.R_drew)); exact HO231.out)); (case aS => exact (below_size (by repeat (first | (with_reducible first | exact HB.out | apply below_alloc | apply pw_below_drewN | apply below_drew1) | exact HB.out)))); (case aL => have := LMc3.out; omega); intro v233 w8 ho hb hg hat; rw [← Ny232.out] at ho; have n0_ := Aside0.mk (hb); have n1_ := Aside0.mk (ho); clear HB; clear HO231; have HB := n0_; have HO234 := n1_; clear n0_ n1_; clear ho hb hg hat) | ((with_reducible refine gate_builtin (b := .append) (xs := #[.tmp 7, .tmp 8]) rfl ?_); at_builtin; refine Kd.R_append_rows k24 (w0 := w) w.heap.size rfl (.tmp 7) (.tmp 8) 25 24 (.agg #[(.int .i64 0), (.int .i64 0)]) 16 rfl Tryz.underlying25 info24 rfl (by decide) (by omega) v233 y232 l1 _ _ _ (fun _ => True) (fun _ => False) rfl rfl ?aO ?aR (fun _ _ h => h) (fun _ h => h.elim) ?aF ?aB ?aS ?aL ?_; (case aR => repeat (first | exact (Kd.C_below HR1.out HB.out) | (with_reducible refine Kd.C_alloc ?_ _) | (with_reducible refine Kd.C_drewN ?_ _) | (with_reducible refine Kd.C_drew ?_))); (case aB => exact (by repeat (first | (with_reducible first | exact HB.out | apply below_alloc | apply pw_below_drewN | apply below_drew1) | exact HB.out))); (case aF => exact (fun _ _ => trivial)); (case aO => exact (by (with_reducible repeat (first | apply Kd.R_alloc | apply Kd.R_drewN | apply Kd.R_drew)); exact HO234.out)); (case aS => exact (below_size (by repeat (first | (with_reducible first | exact HB.out | apply below_alloc | apply pw_below_drewN | apply below_drew1) | exact HB.out)))); (case aL => have := LMc4.out; omega); intro v236 w9 ho hb hg hat; rw [← Ny235.out] at ho; have n0_ := Aside0.mk (hb); have n1_ := Aside0.mk (ho); clear HB; clear HO234; have HB := n0_; have HO237 := n1_; clear n0_ n1_; clear ho hb hg hat; obtain ⟨Ao10, co10, eo10⟩ := Kd.R_slice HO237.out; subst eo10) | ((with_reducible refine gate_callee (f := 7) rfl ?_); refine goesL_ (some 10) rfl rfl Tryz.func7 (by kernel_rfl) rfl #[.slice Ao10 y235.length co10] rfl (by (try simp only [List.map_toArray, List.map_cons, List.map_nil]); first | done | rfl | (simp only [List.length_drop, List.length_take]; rfl)) ?_; (with_reducible refine (trustquorumref17_Sorted.calls k _ _ y235 t238 _ ?side1 ?side2 A5.out).mono ?_); (case side1 => repeat (first | exact (Kd.R_reads' HO237.out).2.2 | (with_reducible refine Kd.C_alloc ?_ _) | (with_reducible refine Kd.C_drewN ?_ _) | (with_reducible refine Kd.C_drew ?_))); (case side2 => exact (Kd.R_reads' HO237.out).2.1); rintro e w11 ⟨v239, rfl, ho0, hb⟩; refine ⟨_, rfl, ?_⟩; have n0_ := Aside0.mk (Kd.R_elder' (by (with_reducible repeat (first | apply Kd.R_alloc | apply Kd.R_drewN | apply Kd.R_drew)); exact HO237.out) (Kd.R_base ho0) hb); have n1_ := Aside0.mk (Kd.R_lower (Kd.R_new' ho0 (Kd.R_lt (by (with_reducible repeat (first | apply Kd.R_alloc | apply Kd.R_drewN | apply Kd.R_drew)); exact HO237.out))) (below_size (by repeat (first | (with_reducible first | exact HB.out | apply below_alloc | apply pw_below_drewN | apply below_drew1) | exact HB.out)))); have n2_ := Aside0.mk (below_step (by repeat (first | (with_reducible first | exact HB.out | apply below_alloc | apply pw_below_drewN | apply below_drew1) | exact HB.out)) hb); clear HO237; clear HB; have HO237 := n0_; have HO240 := n1_; have HB := n2_; clear n0_ n1_ n2_; (try clear hb); (try clear hb2); (try clear hk); (try clear hi); (try clear ho0)))
      go_ret
      exact ⟨_, by first | rfl | (simp [errW_none, errW_some] <;> rfl) | (simp [*, errW_none, errW_some] <;> rfl), by (with_reducible repeat (first | apply Kd.R_alloc | apply Kd.R_drewN | apply Kd.R_drew)); exact Kd.R_mono HO240.out (fun _ hk => trivial), by repeat (first | (with_reducible first | exact HB.out | apply below_alloc | apply pw_below_drewN | apply below_drew1) | exact HB.out)⟩
    · rw [if_neg c4] at H
      exact absurd H (by simp)
  · rw [if_neg c3] at H
    exact absurd H (by simp)

end Go.Proofs.YtocadlecfddbcaaGreatDoor.QClaims
