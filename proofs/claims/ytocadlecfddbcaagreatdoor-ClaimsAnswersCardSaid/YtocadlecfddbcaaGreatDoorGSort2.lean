/- slices.Compact at claims. -/
import Derived.Test.YtocadlecfddbcaaGreatDoorGSort1
import Derived.Test.YtocadlecfddbcaaGreatDoorQClaimsx1
namespace Go.Proofs.YtocadlecfddbcaaGreatDoor.QClaims
open Go.RowKit Go.Proofs.YtocadlecfddbcaaGreatDoorW.PrintWords Go.Proofs.YtocadlecfddbcaaGreatDoorW.PrintLast Go.Proofs.YtocadlecfddbcaaGreatDoorW.PrintMore
set_option linter.unusedVariables false
set_option linter.unusedSimpArgs false
attribute [local go_sem high] eqA24

/-- Whether an element differs from the one ahead. -/
def newAt (l : List S24) (q : Nat) : Bool := decide (q = 0) || !((rd_T24 l (q : Int)).f0 == (rd_T24 l ((q - 1 : Nat) : Int)).f0 && (rd_T24 l (q : Int)).f1 == (rd_T24 l ((q - 1 : Nat) : Int)).f1)
def dedTo (l : List S24) (j : Nat) : List S24 := ((List.range j).filter (newAt l)).map fun q : Nat => rd_T24 l (q : Int)
theorem dedTo_succ (l : List S24) (j : Nat) : dedTo l (j + 1) = dedTo l j ++ if newAt l j then [rd_T24 l (j : Int)] else [] := by
  unfold dedTo
  rw [List.range_succ, List.filter_append, List.map_append]
  congr 1
  cases h : newAt l j <;> simp [h]
theorem dedTo_len (l : List S24) (j : Nat) : (dedTo l j).length ≤ j := by
  unfold dedTo
  rw [List.length_map]
  exact Nat.le_trans (List.length_filter_le _ _) (by simp)
theorem dedTo_all {l : List S24} {j : Nat} (hj : j ≤ l.length) (h : ∀ q : Nat, q < j → newAt l q = true) : dedTo l j = l.take j := by
  induction j with
  | zero => rfl
  | succ j ih => rw [dedTo_succ, ih (by omega) (fun q hq => h q (by omega)), h j (by omega), take_rd l j hj]; rfl
structure CInv (l dk : List S24) (i j : Nat) : Prop where
  len : dk.length = l.length
  pos : 0 < i
  lt : i < j
  le : j ≤ l.length
  done : dk.take i = dedTo l j
  left : ∀ q : Nat, j ≤ q + 1 → rd_T24 dk (q : Int) = rd_T24 l (q : Int)
theorem CInv.start {l : List S24} {k : Nat} (h0 : 0 < k) (hk : k < l.length) (ha : ∀ q : Nat, q < k → newAt l q = true) (hf : newAt l k = false) : CInv l l k (k + 1) :=
  ⟨rfl, h0, by omega, hk, by rw [dedTo_succ, hf, dedTo_all (by omega) ha]; simp, fun _ _ => rfl⟩
theorem CInv.skip {l dk : List S24} {i j : Nat} (h : CInv l dk i j) (hj : j < l.length) (hf : newAt l j = false) : CInv l dk i (j + 1) :=
  ⟨h.len, h.pos, by have := h.lt; omega, hj, by rw [dedTo_succ, hf, h.done]; simp, fun q hq => h.left q (by omega)⟩
theorem CInv.keep {l dk : List S24} {i j : Nat} (h : CInv l dk i j) (hj : j < l.length) (hf : newAt l j = true) : CInv l (dk.set i (rd_T24 l (j : Int))) (i + 1) (j + 1) := by
  have h1 := h.lt
  have h2 := h.len
  refine ⟨by simpa using h.len, by omega, by omega, hj, ?_, fun q hq => ?_⟩
  · rw [dedTo_succ, hf, ← h.done, take_rd _ i (by simp; omega), rd_set _ _ _ _ (by omega), List.take_set_of_le (Nat.le_refl _)]
    simp
  · rw [rd_set _ _ _ _ (by omega)]
    split
    · subst_vars; congr 2; omega
    · exact h.left q (by omega)

set_option maxRecDepth 100000 in
set_option maxHeartbeats 4000000 in
theorem com42_calls (base : Nat) (w0 w : World) (g cap : Nat) (l : List S24) (rest : List Value) (hR : RowB base w0 w g cap (encs l ++ rest)) (hB : base ≤ w.heap.size) (hl : l.length ≤ 1000000) (hcap : l.length ≤ cap) :
    Calls Tryz.prog 46 #[.slice (some ⟨g, 0, none⟩) l.length cap] w fun e w' => e = .returned (.slice (some ⟨g, 0, none⟩) (dedTo l l.length).length cap) ∧ base ≤ w'.heap.size ∧ ∃ rest', RowB base w0 w' g cap (encs (dedTo l l.length) ++ rest') := by
  have hu52 := Tryz.underlying24
  have RR := Aside0.mk hR; clear hR
  have HBS := Aside0.mk hB; clear hB
  by_cases h2 : l.length < 2
  · have h2z : decide ((l.length : Int) < 2) = true := by simp; omega
    have e : dedTo l l.length = l := by
      match l, h2 with
      | [], _ => rfl
      | [x], _ => rfl
    go_enter Tryz.func46, Tryz.ntmps46
    go_wp2
    go_ret
    rw [e]
    exact ⟨rfl, HBS.out, rest, RR.out⟩
  · have h2z : decide ((l.length : Int) < 2) = false := by simp; omega
    go_enter Tryz.func46, Tryz.ntmps46
    go_wp2
    go_loopg [3] l.length (fun gg s3 wr => ∃ k : Nat, s3 = .int .i64 k ∧ 0 < k ∧ k ≤ l.length ∧ l.length - k ≤ gg ∧ Aside0 (RowB base w0 wr g cap (encs l ++ rest)) ∧ Aside0 (base ≤ wr.heap.size) ∧ Aside0 (∀ q : Nat, q < k → newAt l q = true))
    case atStart => exact ⟨1, rfl, by omega, by omega, Nat.sub_le _ _, RR, HBS, ⟨fun q hq => by have e : q = 0 := Nat.lt_one_iff.1 hq; rw [e]; rfl⟩⟩
    case round =>
      obtain ⟨k, rfl, hk0, hkl, hgg, RW, BW, AN⟩ := hrel
      by_cases hlt : k < l.length
      · have hltz : (k : Int) < (l.length : Int) := by omega
        obtain ⟨hx0, hx1⟩ := encs_get l rest k (by omega)
        obtain ⟨hy0, hy1⟩ := encs_get l rest (k - 1) (by omega)
        obtain ⟨x, hx⟩ : ∃ x, rd_T24 l (k : Int) = x := ⟨_, rfl⟩
        obtain ⟨y, hy⟩ : ∃ y, rd_T24 l ((k - 1 : Nat) : Int) = y := ⟨_, rfl⟩
        obtain ⟨m, hm⟩ : ∃ m, k - 1 = m := ⟨_, rfl⟩
        have HK : newAt l k = !(x.f0 == y.f0 && x.f1 == y.f1) := by unfold newAt; rw [hx, hy, decide_eq_false (by omega : ¬ k = 0), Bool.false_or]
        rw [hm] at hy0 hy1
        rw [hx] at hx0 hx1
        rw [hm] at hy
        rw [hy] at hy0 hy1
        obtain rfl : k = m + 1 := by omega
        have hmz : wrap64 (m : Int) = (m : Int) := by unfold wrap64; omega
        have hltd : decide ((m : Int) + 1 < (l.length : Int)) = true := decide_eq_true (by omega)
        have HX := Aside0.mk hx; clear hx
        have HY := Aside0.mk hy; clear hy hm
        rw [← RW.out.cellAt] at hx0 hx1 hy0 hy1
        have NK := Aside0.mk HK; clear HK
        cases hq : (x.f0 == y.f0 && x.f1 == y.f1) with
        | false =>
          go_wp2
          go_region
          go_wp2
          go_roundg (l.length - (m + 1 + 1))
          case measure => omega
          case rel => exact ⟨m + 1 + 1, by go_num, by omega, by omega, Nat.le_refl _, ⟨RW.out.step (Below.refl _ _).drew BW.out⟩, BW, ⟨fun q hq' => by
            rcases Nat.lt_or_ge q (m + 1) with h | h
            · exact AN.out q h
            · obtain rfl : q = m + 1 := by omega
              rw [NK.out, hq]; rfl⟩⟩
        | true =>
          have I0 := Aside0.mk (CInv.start (l := l) (k := m + 1) (by omega) hlt AN.out (by rw [NK.out, hq]; rfl))
          go_wp2
          go_region
          go_wp2
          have R0 := Aside0.mk (RW.out.step (Below.refl _ _).drew BW.out)
          clear hx0 hx1 hy0 hy1 hq RW AN NK hmz hltd hltz h2z
          go_loopg [3, 5] l.length (fun gg s3 s5 wr => ∃ (i q : Nat) (dk : List S24), s3 = .int .i64 i ∧ s5 = .int .i64 q ∧ 0 < q ∧ m + 1 + q ≤ l.length ∧ l.length - (m + 1 + q) ≤ gg ∧ Aside0 (RowB base w0 wr g cap (encs dk ++ rest)) ∧ Aside0 (base ≤ wr.heap.size) ∧ Aside0 (CInv l dk i (m + 1 + q)))
          case atStart => exact ⟨m + 1, 1, l, rfl, rfl, by omega, by omega, Nat.sub_le _ _, R0, BW, I0⟩
          case round =>
            clear HX HY R0 I0
            obtain ⟨i, q, dk, rfl, rfl, hq0, hql, hgg, RW, BW, I2⟩ := hrel
            have hij := I2.out.lt
            have hdl := I2.out.len
            by_cases hlt : m + 1 + q < l.length
            · obtain ⟨r, rfl⟩ : ∃ r, q = r + 1 := ⟨q - 1, by omega⟩
              obtain ⟨hx0, hx1⟩ := encs_get dk rest (m + 1 + (r + 1)) (by rw [hdl]; exact hlt)
              obtain ⟨hy0, hy1⟩ := encs_get dk rest (m + 1 + r) (by rw [hdl]; exact Nat.lt_of_succ_lt hlt)
              rw [I2.out.left (m + 1 + (r + 1)) (by omega)] at hx0 hx1
              rw [I2.out.left (m + 1 + r) (by omega)] at hy0 hy1
              obtain ⟨x, hx⟩ : ∃ x, rd_T24 l ((m + 1 + (r + 1) : Nat) : Int) = x := ⟨_, rfl⟩
              obtain ⟨y, hy⟩ : ∃ y, rd_T24 l ((m + 1 + r : Nat) : Int) = y := ⟨_, rfl⟩
              have HK : newAt l (m + 1 + (r + 1)) = !(x.f0 == y.f0 && x.f1 == y.f1) := by
                unfold newAt; rw [show m + 1 + (r + 1) - 1 = m + 1 + r by omega, hx, hy, decide_eq_false (by omega : ¬ m + 1 + (r + 1) = 0), Bool.false_or]
              rw [hx] at hx0 hx1
              rw [hy] at hy0 hy1
              have HX := Aside0.mk hx; clear hx
              clear hy
              rw [← RW.out.cellAt] at hx0 hx1 hy0 hy1
              rw [show (m + 1 + (r + 1)) * 2 = (m + 1) * 2 + (r + 1) * 2 by omega] at hx0 hx1
              rw [show (m + 1 + r) * 2 = (m + 1) * 2 + r * 2 by omega] at hy0 hy1
              have NK := Aside0.mk HK; clear HK
              have HGG := Aside0.mk hgg
              have hltz : decide ((r : Int) + 1 < ((l.length - (m + 1) : Nat) : Int)) = true := decide_eq_true (by omega)
              have hltn : r + 1 < l.length - (m + 1) := by omega
              have hltm : r < l.length - (m + 1) := by omega
              have hmz2 : wrap64 (r : Int) = (r : Int) := by unfold wrap64; omega
              cases hq : (x.f0 == y.f0 && x.f1 == y.f1) with
              | true =>
                clear hgg hql
                go_wp2
                go_region
                go_wp2
                go_roundg (l.length - (m + 1 + (r + 1 + 1)))
                case measure => have := HGG.out; omega
                case rel => exact ⟨i, r + 1 + 1, dk, rfl, by go_num, by omega, by omega, Nat.le_refl _, ⟨RW.out.step (Below.refl _ _).drew BW.out⟩, BW, ⟨I2.out.skip hlt (by rw [NK.out, hq]; rfl)⟩⟩
              | false =>
                have R2 := Aside0.mk (RW.out.step (Below.refl _ _).drew BW.out)
                have hr0 := RW.out.cellAt (i * 2)
                have hr1 := RW.out.cellAt (i * 2 + 1)
                have hf0 := RW.out.frozenAt (i * 2)
                have hf1 := RW.out.frozenAt (i * 2 + 1)
                have hil : i < l.length := Nat.lt_of_lt_of_le hij hql
                rw [(encs_get dk rest i (by rw [hdl]; exact hil)).1] at hr0
                rw [(encs_get dk rest i (by rw [hdl]; exact hil)).2] at hr1
                clear hgg hql hij
                go_wp2
                go_region
                go_wp2
                go_roundg (l.length - (m + 1 + (r + 1 + 1)))
                case measure => have := HGG.out; omega
                case rel =>
                  refine ⟨i + 1, r + 1 + 1, dk.set i x, by go_num, by go_num, by omega, by omega, Nat.le_refl _, ⟨?_⟩, ⟨?_⟩, ⟨?_⟩⟩
                  · rw [← encs_set dk rest i x (by rw [hdl]; exact hil)]
                    exact (R2.out.set _ _).set _ _
                  · simpa using BW.out
                  · have := I2.out.keep hlt (by rw [NK.out, hq]; rfl)
                    rwa [HX.out] at this
            · have hltz : decide ((q : Int) < ((l.length - (m + 1) : Nat) : Int)) = false := decide_eq_false (by omega)
              obtain ⟨W', hrun, cur', hR', ht'⟩ := RW.out.clear i (l.length - i) (cap - i) (by omega) (by omega) 0
              have RC := Aside0.mk hR'; clear hR'
              have TC := Aside0.mk ht'; clear ht'
              have hile : i ≤ l.length := by omega
              have hci : ¬ cap = i := by omega
              have hltq : ¬ q < l.length - (m + 1) := by omega
              have HQL := Aside0.mk hql
              have HIJ := Aside0.mk hij
              have HNL := Aside0.mk hlt
              clear hgg hql hij hlt
              go_wp2
              go_ret
              have hql := HQL.out
              have hij := HIJ.out
              have hlt := HNL.out
              have hd := I2.out.done
              have ej : m + 1 + q = l.length := by omega
              rw [ej] at hd
              have hil : (dedTo l l.length).length = i := by rw [← hd, List.length_take]; omega
              have ht := TC.out
              rw [encs_take dk rest i (by omega), hd] at ht
              refine ⟨by rw [hil]; rfl, Nat.le_trans RC.out.lo (Nat.le_of_lt RC.out.lt), cur'.drop (i * 2), ?_⟩
              rw [← ht, List.take_append_drop]
              exact RC.out
      · obtain rfl : k = l.length := by omega
        have hltz : ¬ (l.length : Int) < (l.length : Int) := by omega
        go_wp2
        go_ret
        rw [dedTo_all (Nat.le_refl _) AN.out, List.take_length]
        exact ⟨rfl, BW.out, rest, RW.out⟩
end Go.Proofs.YtocadlecfddbcaaGreatDoor.QClaims
