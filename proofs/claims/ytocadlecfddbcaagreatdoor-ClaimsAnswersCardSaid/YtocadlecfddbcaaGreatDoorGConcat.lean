/- slices.Concat at claims. -/
import Derived.Test.YtocadlecfddbcaaGreatDoorGSorted
import Derived.Test.YtocadlecfddbcaaGreatDoorShelf
import Derived.Deep.Onto
import Derived.Lib.AppendZeros
namespace Go.Proofs.YtocadlecfddbcaaGreatDoor.QClaims
open Go.RowKit Go.Proofs.YtocadlecfddbcaaGreatDoorW.PrintWords Go.Proofs.YtocadlecfddbcaaGreatDoorW.PrintLast Go.Proofs.YtocadlecfddbcaaGreatDoorW.PrintMore
set_option linter.unusedVariables false
set_option linter.unusedSimpArgs false

theorem rd_L2_take (ls : List (List S24)) (k : Nat) (hk : k < ls.length) : (ls.take (k + 1)).flatten = (ls.take k).flatten ++ rd_L2 ls (k : Int) := by
  rw [List.take_add_one, List.getElem?_eq_getElem hk, List.flatten_append]
  unfold rd_L2
  rw [Int.toNat_natCast, List.getD_eq_getElem?_getD, List.getElem?_eq_getElem hk]
  simp
theorem take_flat_le (ls : List (List S24)) (k : Nat) : (ls.take k).flatten.length ≤ ls.flatten.length := by
  conv => rhs; rw [← List.take_append_drop k ls, List.flatten_append, List.length_append]
  omega
theorem rd_L2_le (ls : List (List S24)) (k : Nat) (hk : k < ls.length) : (ls.take k).flatten.length + (rd_L2 ls (k : Int)).length ≤ ls.flatten.length := by
  have h := take_flat_le ls (k + 1)
  rw [rd_L2_take ls k hk, List.length_append] at h
  exact h

theorem run_append_none52 (w : World) (i : TypeInfo) (hi : Tryz.prog.info? 24 = some i) (v : Value) (n : Nat) (xs : List Value) (base : Nat) (hown : w.ownsRow base 24 2 v n xs) (ty : TypeId) (c : Nat) :
    (Builtin.append_ #[25, 25] ty #[v, .slice none 0 c]).run Tryz.prog w = .ok v w := by
  rcases hown.2 with ⟨rfl, rfl⟩ | ⟨g, cap, cur, rfl, _, _, hnc, _⟩
  · simp [Builtin.append_, run_underlying Tryz.underlying25, sizeOf, typeInfo, hi, Builtin.lenOf, Builtin.firstCells]
  · simp [Builtin.append_, run_underlying Tryz.underlying25, sizeOf, typeInfo, hi, Builtin.lenOf, Builtin.firstCells, hnc, storeCells]
set_option maxRecDepth 100000 in
set_option maxHeartbeats 2000000 in
theorem concat50_calls (h69 : ∀ (n : Nat) (w : World), n ≤ 1000000 → Calls Tryz.prog 60 #[.slice none 0 0, .int .i64 n] w fun e w' => ∃ v, e = .returned v ∧ w'.ownsRow w.heap.size 24 2 v 0 [] ∧ Below w.heap.size w w') (A : Option Addr) (c : Nat) (ls : List (List S24)) (w : World) (hr0 : Kd.C (Kd.slice 24 k24) w A ls.length ls) (hn : ls.length ≤ 1000000) (hl : ls.flatten.length ≤ 1000000) :
    Calls Tryz.prog 47 #[.slice A ls.length c] w fun e w' => ∃ v, e = .returned v ∧ w'.ownsRow w.heap.size 24 2 v ls.flatten.length (encs ls.flatten) ∧ Below w.heap.size w w' := by
  have hu52 := Tryz.underlying24
  have HR0 := Aside0.mk hr0; clear hr0
  have H69 := Aside0.mk h69; clear h69
  go_enter Tryz.func47, Tryz.ntmps47
  go_wp2
  go_loopg [3, 5, 11] ls.length (fun gg s3 _ s11 wr => ∃ k : Nat, k ≤ ls.length ∧ ls.length - k ≤ gg ∧ s3 = .int .i64 ((ls.take k).flatten.length : Nat) ∧ s11 = .int .i64 k ∧ Aside0 (Below w.heap.size w wr))
  case atStart => exact ⟨0, Nat.zero_le _, Nat.sub_le _ _, rfl, rfl, ⟨Below.refl _ w⟩⟩
  case round =>
    obtain ⟨k, hk, hg, rfl, rfl, BW⟩ := hrel
    by_cases hlt : k < ls.length
    · have hltz : (k : Int) < (ls.length : Int) := by omega
      obtain ⟨ad, A0, c1, rfl, hc, hc1, hC⟩ := at_L2 (Kd.C_below HR0.out BW.out) (k : Int) (by omega) (by omega)
      rw [Int.toNat_natCast] at hc
      have hle := rd_L2_le ls k hlt
      have htk := rd_L2_take ls k hlt
      obtain ⟨s, hs⟩ : ∃ s, rd_L2 ls (k : Int) = s := ⟨_, rfl⟩
      rw [hs] at hc hle htk hc1
      have HT := Aside0.mk htk; clear htk hC hs
      obtain ⟨a, ha⟩ : ∃ a, (ls.take k).flatten.length = a := ⟨_, rfl⟩
      rw [ha] at hle
      have hnz : decide ((a : Int) + (s.length : Int) < 0) = false := decide_eq_false (by omega)
      have hwz : wrap64 ((a : Int) + (s.length : Int)) = (a : Int) + (s.length : Int) := by unfold wrap64; omega
      rw [ha]
      go_wp2
      clear hwz hnz
      go_roundg (ls.length - (k + 1))
      case measure => omega
      case rel => exact ⟨k + 1, by omega, Nat.le_refl _, by rw [HT.out, List.length_append, ha]; simp, by go_num, BW⟩
    · obtain rfl : k = ls.length := by omega
      have hltz : ¬ (ls.length : Int) < (ls.length : Int) := by omega
      rw [List.take_length]
      obtain ⟨N, hN⟩ : ∃ N, ls.flatten.length = N := ⟨_, rfl⟩
      have h0 := H69.out N
      rw [hN] at hl ⊢
      have HN := Aside0.mk hN; clear hN
      have HL := Aside0.mk hl; clear hl
      clear hg hk
      go_wp2_with (go_at_call 60; refine (h0 _ HL.out).mono ?_; rintro e w1 ⟨v, rfl, OW_, hb⟩; have OW := Aside0.mk OW_; clear OW_; have B1 := Aside0.mk (BW.out.trans (hb.mono BW.out.size)); have G1 := Aside0.mk (Nat.le_trans BW.out.size hb.size); have O1 := Aside0.mk (OW.out.mono BW.out.size); clear hb OW h0)
      clear hltz hlt
      obtain ⟨i0, hi, hzz⟩ := Option.map_eq_some_iff.1 info24
      simp only [Prod.mk.injEq] at hzz
      obtain ⟨hz0, hz1, hz2⟩ := hzz
      have hz0' := Aside0.mk hz0; have hz1' := Aside0.mk hz1; have hz2' := Aside0.mk hz2; have hi' := Aside0.mk hi
      clear hz0 hz1 hz2 hi
      go_loopg [6, 8, 27] ls.length (fun gg v _ s27 wr => ∃ k : Nat, k ≤ ls.length ∧ ls.length - k ≤ gg ∧ s27 = .int .i64 k ∧ Aside0 (wr.ownsRow w.heap.size 24 2 v (ls.take k).flatten.length (encs (ls.take k).flatten)) ∧ Aside0 (Below w.heap.size w wr))
      case atStart => exact ⟨0, Nat.zero_le _, Nat.sub_le _ _, rfl, ⟨O1.out⟩, B1⟩
      case round =>
        clear O1 B1 G1
        obtain ⟨k, hk, hg, rfl, OW, BW⟩ := hrel
        by_cases hlt : k < ls.length
        · have hltz : (k : Int) < (ls.length : Int) := by omega
          obtain ⟨ad, A0, c1, rfl, hc, hc1, hC⟩ := at_L2 (Kd.C_below HR0.out BW.out) (k : Int) (by omega) (by omega)
          rw [Int.toNat_natCast] at hc
          have hle := rd_L2_le ls k hlt
          have htk := rd_L2_take ls k hlt
          obtain ⟨s, hs⟩ : ∃ s, rd_L2 ls (k : Int) = s := ⟨_, rfl⟩
          rw [hs] at hc hle htk hc1 hC
          have HT := Aside0.mk htk; clear htk hs
          have HLE := Aside0.mk hle; clear hle hc1
          cases A0 with
          | none =>
            have hs0 : s = [] := by
              cases s with
              | nil => rfl
              | cons x l =>
                obtain ⟨ad, e, _⟩ := hC.2.2 (by simp)
                cases e
            subst hs0
            clear hC
            go_wp2_with (at_builtin; refine Lib.wpList_append_run _ rfl _ _ _ _ rfl _ _ rfl rfl _ _ (run_append_none52 _ i0 hi'.out _ _ _ _ OW.out _ c1) ?_)
            go_roundg (ls.length - (k + 1))
            case measure => omega
            case rel => exact ⟨k + 1, by omega, Nat.le_refl _, by go_num, ⟨by rw [HT.out, List.append_nil]; exact OW.out⟩, BW⟩
          | some ad1 =>
            have CC := Aside0.mk (C_cells hC); clear hC
            go_wp2_with (at_builtin; refine wpList_append_own _ rfl _ _ 25 rfl w.heap.size 24 i0 _ 2 16 Tryz.underlying25 hi'.out hz0'.out hz1'.out hz2'.out rfl (by decide) _ _ _ rfl OW.out ad1 s.length c1 (encs s) rfl (encs_length s) ?qc2 (encs_one s) ?qc4 ?qc5 BW.out.size ?_)
            case qc2 =>
              intro j u hj
              exact CC.out j u hj
            case qc4 => have := HLE.out; have := HN.out; have := HL.out; unfold maxLen; omega
            case qc5 => have := HLE.out; have := HN.out; have := HL.out; omega
            intro v' w2 hown hgrow hnil
            have O2 := Aside0.mk hown; clear hown hnil
            have B2 := Aside0.mk (BW.out.grown hgrow BW.out.size (fun q hq => (OW.out.lt q hq).1)); clear hgrow
            go_wp2
            go_roundg (ls.length - (k + 1))
            case measure => omega
            case rel => exact ⟨k + 1, by omega, Nat.le_refl _, by go_num, ⟨by have q := O2.out; rw [← List.map_take, ← List.length_flatten] at q; rw [HT.out, List.length_append, encs_append]; exact q⟩, B2⟩
        · obtain rfl : k = ls.length := by omega
          have hltz : ¬ (ls.length : Int) < (ls.length : Int) := by omega
          go_wp2
          go_ret
          have h1 := OW.out
          rw [List.take_length, HN.out] at h1
          refine ⟨_, rfl, ?_, BW.out⟩
          have e : (List.map List.length ls).sum = N := by rw [← List.length_flatten]; exact HN.out
          first | (rw [e]; exact h1) | (rw [HN.out]; exact h1)

theorem grow69_calls (n : Nat) (w : World) (hn : n ≤ 1000000) : Calls Tryz.prog 60 #[.slice none 0 0, .int .i64 n] w fun e w' => ∃ v, e = .returned v ∧ w'.ownsRow w.heap.size 24 2 v 0 [] ∧ Below w.heap.size w w' := by
  rcases Nat.eq_zero_or_pos n with rfl | h0
  · refine (Go.Proofs.Any8.slices_Grow_room Go.Proofs.Tryz.growC none 0 0 0 w (Nat.le_refl _) (by omega) (by omega) (Nat.le_refl _)).mono ?_
    rintro e w' ⟨rfl, rfl⟩
    exact ⟨_, rfl, World.ownsRow_nil _ _ _ _, Below.refl _ _⟩
  · obtain ⟨i0, hi, hzz⟩ := Option.map_eq_some_iff.1 info24
    simp only [Prod.mk.injEq] at hzz
    obtain ⟨hz0, hz1, hz2⟩ := hzz
    refine (Go.Proofs.Any8.slices_Grow_grow Go.Proofs.Tryz.growC i0 _ hi hz0 (by omega) none 0 0 n [] w (Nat.le_refl _) (by omega) (by rw [hz2]; omega) (by omega) (by simp) (fun _ => rfl) (fun a h => by cases h)).mono ?_
    rintro e w' ⟨rfl, rfl⟩
    have hcap := grownCap_le_maxLen w (0 + n) 0 24 (by unfold maxLen; omega)
    have hge := grownCap_ge w (0 + n) 0 24
    refine ⟨_, rfl, ⟨rfl, .inr ⟨_, _, _, rfl, Nat.le_refl _, heap_alloc_new w.drew _, Nat.zero_le _, hcap, ?_, by simp⟩⟩, ((Below.refl _ w).drew).alloc (Nat.le_refl _) _⟩
    have e25 : Go.Proofs.Tryz.growC_ren.t 25 = 24 := rfl
    have ec : (Value.agg #[Value.int IntKind.i64 0, Value.int IntKind.i64 0]).cells.size = 2 := rfl
    rw [Nat.zero_add] at hge
    simp only [Builtin.zeroCells, e25, ec, Array.size_append, Array.size_map, Array.size_range, List.size_toArray, List.length_nil, Nat.zero_add, Nat.sub_zero]
    omega
end Go.Proofs.YtocadlecfddbcaaGreatDoor.QClaims
