/- The plain laws of claims: Plain, Text, the reference's Has, Sorted, Same. -/
import Derived.Test.YtocadlecfddbcaaGreatDoorQClaimsx4
import Derived.Test.YtocadlecfddbcaaGreatDoorQClaimsx5
import Derived.Test.YtocadlecfddbcaaGreatDoorQClaimsx6
import Derived.Test.YtocadlecfddbcaaGreatDoorGParse
namespace Go.Proofs.YtocadlecfddbcaaGreatDoor.QClaims
open Go.RowKit Go.Proofs.YtocadlecfddbcaaGreatDoorW.PrintWords Go.Proofs.YtocadlecfddbcaaGreatDoorW.PrintLast Go.Proofs.YtocadlecfddbcaaGreatDoorW.PrintMore
set_option linter.unusedVariables false

theorem wrap64_small {x : Int} (h0 : -9223372036854775808 ≤ x) (h1 : x < 9223372036854775808) : wrap64 x = x := by unfold wrap64; omega
theorem rd_drop (l : List S24) (i : Nat) (h : i < l.length) : l.drop i = rd_T24 l (i : Int) :: l.drop (i + 1) := by
  rw [List.drop_eq_getElem_cons h]
  unfold rd_T24
  rw [Int.toNat_natCast, List.getD_eq_getElem?_getD, List.getElem?_eq_getElem h]
  rfl
theorem has_l0 (l : List S24) (a b : Int) (hl : l.length ≤ 1000000) : ∀ (r i k : Nat), i + r = l.length → r < k → trustquorumref17_Has.l0 k l (l.length : Int) (i : Int) a b = some (decide ((⟨a, b⟩ : S24) ∈ l.drop i))
  | 0, i, k + 1, hi, hk => by
    unfold trustquorumref17_Has.l0
    rw [if_neg (by omega), List.drop_of_length_le (by omega)]
    simp
  | r + 1, i, k + 1, hi, hk => by
    unfold trustquorumref17_Has.l0
    rw [if_pos (by omega), if_pos (by omega), if_pos (by omega), rd_drop l i (by omega)]
    by_cases h : (a == (rd_T24 l (i : Int)).f0 && (b == (rd_T24 l (i : Int)).f1)) = true
    · rw [if_pos h]
      simp at h
      have e : (⟨a, b⟩ : S24) = rd_T24 l (i : Int) := S24_ext h.1 h.2
      simp [e]
    · rw [if_neg h, wrap64_small (by omega) (by omega), show (i : Int) + 1 = ((i + 1 : Nat) : Int) by omega, has_l0 l a b hl r (i + 1) k (by omega) (by omega)]
      have e : (⟨a, b⟩ : S24) ≠ rd_T24 l (i : Int) := by intro e; apply h; rw [← e]; simp
      simp [e]
theorem has_f (l : List S24) (a b : Int) (k : Nat) (hl : l.length ≤ 1000000) (hk : l.length < k) : trustquorumref17_Has.f k l a b = some (decide ((⟨a, b⟩ : S24) ∈ l)) := by
  unfold trustquorumref17_Has.f
  have := has_l0 l a b hl l.length 0 k (by omega) hk
  simpa using this
theorem same_l0 (a b : List S24) (hl : a.length ≤ 1000000) (he : a.length = b.length) : ∀ (r i k : Nat), i + r = a.length → r < k → trustquorumref17_Same.l0 k a b (a.length : Int) (i : Int) = some (decide (a.drop i = b.drop i))
  | 0, i, k + 1, hi, hk => by
    unfold trustquorumref17_Same.l0
    rw [if_neg (by omega), List.drop_of_length_le (by omega), List.drop_of_length_le (by omega)]
    simp
  | r + 1, i, k + 1, hi, hk => by
    unfold trustquorumref17_Same.l0
    rw [if_pos (by omega), if_pos (by omega), if_pos (by omega), if_pos (by omega), rd_drop a i (by omega), rd_drop b i (by omega)]
    split
    · rename_i h
      have e : rd_T24 a (i : Int) ≠ rd_T24 b (i : Int) := by intro e; rw [e] at h; simp at h
      simp [e]
    · rename_i h
      have e : rd_T24 a (i : Int) = rd_T24 b (i : Int) := by simp at h; exact S24_ext h.1 h.2
      rw [wrap64_small (by omega) (by omega), show (i : Int) + 1 = ((i + 1 : Nat) : Int) by omega, same_l0 a b hl he r (i + 1) k (by omega) (by omega)]
      simp [e]
theorem same_f (a b : List S24) (k : Nat) (hl : a.length ≤ 1000000) (hk : a.length < k) : trustquorumref17_Same.f k a b = some (decide (a = b)) := by
  unfold trustquorumref17_Same.f
  by_cases he : a.length = b.length
  · rw [if_pos (by omega)]
    have := same_l0 a b hl he a.length 0 k (by omega) hk
    simpa using this
  · rw [if_neg (by omega)]
    have : a ≠ b := fun e => he (by rw [e])
    simp [this]
/-! ### the reference's Sorted is canon -/
def pre (l : List S24) (n : Nat) : List S24 := (allC.take n).filter fun x => decide (x ∈ l)
theorem allC_len : allC.length = 128 := by decide +kernel
theorem allC_at : ∀ i : Fin 8, ∀ j : Fin 16, allC[16 * i.val + j.val]? = some ⟨(i.val : Int), (j.val : Int)⟩ := by decide +kernel
theorem pre_succ (l : List S24) (i j : Nat) (hi : i < 8) (hj : j < 16) : pre l (16 * i + (j + 1)) = if (⟨(i : Int), (j : Int)⟩ : S24) ∈ l then pre l (16 * i + j) ++ [⟨(i : Int), (j : Int)⟩] else pre l (16 * i + j) := by
  have h := allC_at ⟨i, hi⟩ ⟨j, hj⟩
  simp only at h
  unfold pre
  rw [← Nat.add_assoc, List.take_add_one, h, List.filter_append]
  by_cases hm : (⟨(i : Int), (j : Int)⟩ : S24) ∈ l <;> simp [hm]
theorem pre_len (l : List S24) (n : Nat) : (pre l n).length ≤ 128 := by
  unfold pre
  refine Nat.le_trans (List.length_filter_le _ _) ?_
  rw [List.length_take, allC_len]; omega
theorem rsorted_go (l : List S24) (hl : l.length ≤ 1000000) : ∀ n : Nat, (∀ i k : Nat, i ≤ 8 → (8 - i) * 18 ≤ n → n + l.length + 1 ≤ k → trustquorumref17_Sorted.l0 k l (pre l (16 * i)) (i : Int) = some (canon l)) ∧
    (∀ i j k : Nat, i < 8 → j ≤ 16 → (8 - i) * 18 - j - 1 ≤ n → n + l.length + 1 ≤ k → trustquorumref17_Sorted.l1 k l (pre l (16 * i + j)) (i : Int) (j : Int) = some (canon l))
  | 0 => by
    constructor
    · intro i k hi hm hk
      obtain rfl : i = 8 := by omega
      obtain ⟨k, rfl⟩ : ∃ q, k = q + 1 := ⟨k - 1, by omega⟩
      unfold trustquorumref17_Sorted.l0
      rw [if_neg (by omega)]
      unfold pre canon
      rw [List.take_of_length_le (by rw [allC_len]; omega)]
    · intro i j k hi hj hm hk
      omega
  | n + 1 => by
    obtain ⟨ih0, ih1⟩ := rsorted_go l hl n
    constructor
    · intro i k hi hm hk
      obtain ⟨k, rfl⟩ : ∃ q, k = q + 1 := ⟨k - 1, by omega⟩
      by_cases h8 : i < 8
      · unfold trustquorumref17_Sorted.l0
        rw [if_pos (by omega)]
        have := ih1 i 0 k h8 (by omega) (by omega) (by omega)
        simpa using this
      · obtain rfl : i = 8 := by omega
        unfold trustquorumref17_Sorted.l0
        rw [if_neg (by omega)]
        unfold pre canon
        rw [List.take_of_length_le (by rw [allC_len]; omega)]
    · intro i j k hi hj hm hk
      obtain ⟨k, rfl⟩ : ∃ q, k = q + 1 := ⟨k - 1, by omega⟩
      unfold trustquorumref17_Sorted.l1
      by_cases h16 : j < 16
      · rw [if_pos (by omega), has_f l _ _ k hl (by omega), Option.bind_some]
        have hp := pre_succ l i j hi h16
        have hn := ih1 i (j + 1) k hi (by omega) (by omega) (by omega)
        rw [hp] at hn
        have hlen := pre_len l (16 * i + j)
        rw [wrap64_small (by omega) (by omega), show (j : Int) + 1 = ((j + 1 : Nat) : Int) by omega]
        by_cases hm2 : (⟨(i : Int), (j : Int)⟩ : S24) ∈ l
        · rw [if_pos (by simpa using hm2), if_pos (by omega)]
          rw [if_pos hm2] at hn
          exact hn
        · rw [if_neg (by simpa using hm2)]
          rw [if_neg hm2] at hn
          exact hn
      · obtain rfl : j = 16 := by omega
        rw [if_neg (by omega), wrap64_small (by omega) (by omega), show (i : Int) + 1 = ((i + 1 : Nat) : Int) by omega]
        exact ih0 (i + 1) k (by omega) (by omega) (by omega)
theorem rsorted_f (l : List S24) (k : Nat) (hl : l.length ≤ 1000000) (hk : 200 + l.length ≤ k) : trustquorumref17_Sorted.f k l = some (canon l) := by
  have := (rsorted_go l hl 144).1 0 k (by omega) (by omega) (by omega)
  unfold trustquorumref17_Sorted.f
  simpa [pre] using this
/-! ### Plain: the list is canon of itself -/
def PlainFrom (l : List S24) (i : Nat) : Prop := ∀ q : Nat, i ≤ q → q < l.length → okC (rd_T24 l (q : Int)) = true ∧ (0 < q → ltC (rd_T24 l ((q - 1 : Nat) : Int)) (rd_T24 l (q : Int)))
theorem compare_ge (x y : S24) : ¬ cfC x y ≥ 0 ↔ ltC x y := by
  unfold cfC ltC
  repeat' split
  all_goals omega
theorem compare_k (x y : S24) (k : Nat) (hk : 4 ≤ k) : claims_Compare.f k x.f0 x.f1 y.f0 y.f1 = some (cfC x y) := by
  obtain ⟨q, rfl⟩ : ∃ q, k = 4 + q := ⟨k - 4, by omega⟩
  clear hk
  induction q with
  | zero => exact compare_f x y
  | succ q ih => exact claims_Compare.mono _ _ _ _ _ _ ih
theorem plain_l0 (l : List S24) (hl : l.length ≤ 1000000) : ∀ (r i k : Nat), i + r = l.length → r + 5 ≤ k → ∃ b, claims_Plain.l0 k l l (l.length : Int) (i : Int) = some b ∧ (b = true ↔ PlainFrom l i)
  | 0, i, k, hi, hk => by
    obtain ⟨k, rfl⟩ : ∃ q, k = q + 1 := ⟨k - 1, by omega⟩
    unfold claims_Plain.l0
    rw [if_neg (by omega)]
    exact ⟨true, rfl, fun _ q h1 h2 => by omega, fun _ => rfl⟩
  | r + 1, i, k, hi, hk => by
    obtain ⟨k, rfl⟩ : ∃ q, k = q + 1 := ⟨k - 1, by omega⟩
    obtain ⟨b, hb, hbi⟩ := plain_l0 l hl r (i + 1) k (by omega) (by omega)
    unfold claims_Plain.l0
    rw [if_pos (by omega), if_pos (by omega), if_pos (by omega), valid_f, Option.bind_some]
    have split1 : PlainFrom l i ↔ (okC (rd_T24 l (i : Int)) = true ∧ (0 < i → ltC (rd_T24 l ((i - 1 : Nat) : Int)) (rd_T24 l (i : Int)))) ∧ PlainFrom l (i + 1) := by
      constructor
      · intro h
        exact ⟨h i (Nat.le_refl _) (by omega), fun q h1 h2 => h q (by omega) h2⟩
      · rintro ⟨h1, h2⟩ q hq hq2
        rcases Nat.lt_or_ge i q with h | h
        · exact h2 q h hq2
        · obtain rfl : q = i := by omega
          exact h1
    cases hv : okC (rd_T24 l (i : Int)) with
    | false =>
      have hv' : okC ⟨(rd_T24 l (i : Int)).f0, (rd_T24 l (i : Int)).f1⟩ = false := hv
      rw [if_neg (by simp)]
      refine ⟨false, rfl, fun h => (by cases h), fun h => ?_⟩
      have := (split1.1 h).1.1
      rw [hv] at this; cases this
    | true =>
      have hv' : okC ⟨(rd_T24 l (i : Int)).f0, (rd_T24 l (i : Int)).f1⟩ = true := hv
      rw [if_pos rfl, wrap64_small (x := (i : Int) + 1) (by omega) (by omega)]
      rcases Nat.eq_zero_or_pos i with h0 | h0
      · rw [if_neg (by omega), show (i : Int) + 1 = ((i + 1 : Nat) : Int) by omega]
        refine ⟨b, hb, hbi.trans ?_⟩
        rw [split1]
        exact ⟨fun h => ⟨⟨hv, fun h => by omega⟩, h⟩, fun h => h.2⟩
      · have ew : wrap64 ((i : Int) - 1) = ((i - 1 : Nat) : Int) := by rw [wrap64_small (by omega) (by omega)]; omega
        rw [if_pos (by omega), ew, if_pos (by omega), if_pos (by omega), compare_k _ _ k (by omega), Option.bind_some]
        by_cases hc : cfC (rd_T24 l ((i - 1 : Nat) : Int)) (rd_T24 l (i : Int)) ≥ 0
        · rw [if_pos hc]
          refine ⟨false, rfl, fun h => (by cases h), fun h => ?_⟩
          exact absurd hc ((compare_ge _ _).2 ((split1.1 h).1.2 h0))
        · rw [if_neg hc, show (i : Int) + 1 = ((i + 1 : Nat) : Int) by omega]
          refine ⟨b, hb, hbi.trans ?_⟩
          rw [split1]
          exact ⟨fun h => ⟨⟨hv, fun _ => (compare_ge _ _).1 hc⟩, h⟩, fun h => h.2⟩
theorem ltC_trans {x y z : S24} (h1 : ltC x y) (h2 : ltC y z) : ltC x z := by unfold ltC at *; omega
theorem plain_iff (l : List S24) : PlainFrom l 0 ↔ l = canon l := by
  have rdl : ∀ (q : Nat) (h : q < l.length), rd_T24 l (q : Int) = l[q] := fun q h => by unfold rd_T24; rw [Int.toNat_natCast, List.getD_eq_getElem?_getD, List.getElem?_eq_getElem h]; rfl
  constructor
  · intro h
    have hlt : ∀ p q : Nat, q < p → p < l.length → ltC (rd_T24 l (q : Int)) (rd_T24 l (p : Int)) := by
      intro p
      induction p with
      | zero => intro q hq; omega
      | succ p ih =>
        intro q hq hp
        have h1 := (h (p + 1) (Nat.zero_le _) hp).2 (by omega)
        rw [Nat.add_sub_cancel] at h1
        rcases Nat.lt_or_ge q p with h2 | h2
        · exact ltC_trans (ih q h2 (by omega)) h1
        · obtain rfl : q = p := by omega
          exact h1
    refine uniqC _ _ ?_ (canon_pair l) fun x => ?_
    · rw [List.pairwise_iff_getElem]
      intro i j hi hj hij
      rw [← rdl i hi, ← rdl j hj]
      exact hlt j i hij hj
    · rw [mem_canon]
      constructor
      · intro hx
        obtain ⟨q, hq, rfl⟩ := mem_rd hx
        exact ⟨(h q (Nat.zero_le _) hq).1, hx⟩
      · exact fun hx => hx.2
  · intro e q _ hq
    have hp : l.Pairwise ltC := by rw [e]; exact canon_pair l
    refine ⟨?_, fun h0 => ?_⟩
    · have : rd_T24 l (q : Int) ∈ canon l := by rw [← e]; exact rd_mem0 l q hq
      exact ((mem_canon l _).1 this).1
    · rw [List.pairwise_iff_getElem] at hp
      have := hp (q - 1) q (by omega) hq (by omega)
      rwa [← rdl (q - 1) (by omega), ← rdl q hq] at this
theorem plain_f (l : List S24) (k : Nat) (hl : l.length ≤ 1000000) (hk : l.length + 5 ≤ k) : claims_Plain.f k l = some (decide (l = canon l)) := by
  unfold claims_Plain.f
  obtain ⟨b, hb, hbi⟩ := plain_l0 l hl l.length 0 k (by omega) hk
  rw [show ((0 : Nat) : Int) = 0 from rfl] at hb
  rw [hb]
  congr 1
  rw [plain_iff] at hbi
  cases b with
  | true => exact (decide_eq_true (hbi.1 rfl)).symm
  | false => exact (decide_eq_false (fun e => by have := hbi.2 e; cases this)).symm
end Go.Proofs.YtocadlecfddbcaaGreatDoor.QClaims
