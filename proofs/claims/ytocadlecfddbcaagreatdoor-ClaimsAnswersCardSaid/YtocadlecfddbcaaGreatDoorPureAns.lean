/- The plain laws of claims: each function of the program and its twin of the reference compute one thing. -/
import Derived.Test.YtocadlecfddbcaaGreatDoorPureText
import Derived.Test.YtocadlecfddbcaaGreatDoorQClaimsx2
import Derived.Test.YtocadlecfddbcaaGreatDoorGConsistent
import Derived.Test.YtocadlecfddbcaaGreatDoorQClaimsx7
import Derived.Test.YtocadlecfddbcaaGreatDoorQClaimsx8
import Derived.Test.YtocadlecfddbcaaGreatDoorQClaimsx9
import Derived.Test.YtocadlecfddbcaaGreatDoorQClaimsx10
namespace Go.Proofs.YtocadlecfddbcaaGreatDoor.QClaims
open Go.RowKit Go.Proofs.YtocadlecfddbcaaGreatDoorW.PrintWords Go.Proofs.YtocadlecfddbcaaGreatDoorW.PrintLast Go.Proofs.YtocadlecfddbcaaGreatDoorW.PrintMore
set_option linter.unusedVariables false
theorem rvalid_f (a b : Int) : trustquorumref17_Valid.f a b = some (okC ⟨a, b⟩) := by
  rw [show trustquorumref17_Valid.f a b = claims_Valid.f a b from rfl]
  exact valid_f a b
theorem contradict_f (a b c d : Int) : claims_Contradict.f a b c d = some (a == c && b != d) := by
  unfold claims_Contradict.f
  by_cases h : a = c
  · rw [if_pos h]; simp [h]
  · rw [if_neg h]; simp [h]
theorem rcontradict_f (a b c d : Int) : trustquorumref17_Contradict.f a b c d = some (a == c && b != d) := contradict_f a b c d
theorem rcompare_f (a b c d : Int) : trustquorumref17_Compare.f a b c d = some (cfC ⟨a, b⟩ ⟨c, d⟩) := by
  unfold trustquorumref17_Compare.f cfC
  simp only [Bool.and_eq_true, beq_iff_eq]
  repeat' split
  all_goals first | rfl | (exfalso; omega) | (congr 1; omega)
theorem union_f (a b : List S24) (h : a.length + b.length ≤ 1000000) : claims_Union.f a b = some (canon (a ++ b)) := by unfold claims_Union.f; rw [if_pos h]
theorem sorted_f (a : List S24) (h : a.length ≤ 1000000) : claims_Sorted.f a = some (canon a) := by unfold claims_Sorted.f; rw [if_pos h]
theorem put_f (l : List S24) (a b : Int) (h : l.length ≤ 1000) : claims_Put.f l a b = some (canon (l ++ [⟨a, b⟩])) := by
  unfold claims_Put.f
  rw [union_f _ _ (by simp; omega)]
  rfl
theorem rput_f (l : List S24) (a b : Int) (k : Nat) (h : l.length ≤ 1000) (hk : 2000 ≤ k) : trustquorumref17_Put.f k l a b = some (canon (l ++ [⟨a, b⟩])) := by
  unfold trustquorumref17_Put.f
  rw [Option.bind_some, if_pos (by simp; omega), Option.bind_some, Option.bind_some, if_pos (by simp; omega)]
  simp only [List.nil_append]
  rw [rsorted_f _ k (by simp; omega) (by simp; omega)]
  rfl
theorem runion_f (l m : List S24) (k : Nat) (h : l.length ≤ 1000) (h2 : m.length ≤ 1000) (hk : 3000 ≤ k) : trustquorumref17_Union.f k l m = some (canon (l ++ m)) := by
  unfold trustquorumref17_Union.f
  rw [Option.bind_some, if_pos (by simp; omega), Option.bind_some, if_pos (by simp; omega)]
  simp only [List.nil_append]
  rw [rsorted_f _ k (by simp; omega) (by simp; omega)]
  rfl
/-! ### Plain -/
theorem rplain_l0 (l : List S24) (hl : l.length ≤ 1000000) : ∀ (r i k : Nat), i + r = l.length → r + 5 ≤ k → trustquorumref17_Plain.l0 k l l (l.length : Int) (i : Int) = claims_Plain.l0 k l l (l.length : Int) (i : Int)
  | 0, i, k, hi, hk => by
    obtain ⟨k, rfl⟩ : ∃ q, k = q + 1 := ⟨k - 1, by omega⟩
    unfold trustquorumref17_Plain.l0 claims_Plain.l0
    rw [if_neg (by omega), if_neg (by omega)]
  | r + 1, i, k, hi, hk => by
    obtain ⟨k, rfl⟩ : ∃ q, k = q + 1 := ⟨k - 1, by omega⟩
    have ih := rplain_l0 l hl r (i + 1) k (by omega) (by omega)
    unfold trustquorumref17_Plain.l0 claims_Plain.l0
    have h1 : (i : Int) < (l.length : Int) := by omega
    have h2 : 0 ≤ (i : Int) := by omega
    simp only [if_pos h1, if_pos h2]
    rw [rvalid_f, valid_f, Option.bind_some, Option.bind_some, wrap64_small (x := (i : Int) + 1) (by omega) (by omega), show (i : Int) + 1 = ((i + 1 : Nat) : Int) by omega, ih]
    cases okC ⟨(rd_T24 l (i : Int)).f0, (rd_T24 l (i : Int)).f1⟩ with
    | false => rfl
    | true =>
      simp only [if_true]
      rcases Nat.eq_zero_or_pos i with h0 | h0
      · rw [if_neg (by omega), if_neg (by omega)]
      · have ew : wrap64 ((i : Int) - 1) = ((i - 1 : Nat) : Int) := by rw [wrap64_small (by omega) (by omega)]; omega
        have h3 : (i : Int) > 0 := by omega
        have h4 : 0 ≤ ((i - 1 : Nat) : Int) := by omega
        have h5 : ((i - 1 : Nat) : Int) < (l.length : Int) := by omega
        simp only [if_pos h3, ew, if_pos h4, if_pos h5]
        rw [rcompare_f, compare_k _ _ k (by omega)]
theorem rplain_f (l : List S24) (k : Nat) (hl : l.length ≤ 1000000) (hk : l.length + 5 ≤ k) : trustquorumref17_Plain.f k l = some (decide (l = canon l)) := by
  rw [← plain_f l k hl hk]
  unfold trustquorumref17_Plain.f claims_Plain.f
  exact rplain_l0 l hl l.length 0 k (by omega) hk
/-! ### Of -/
def ofT (m : List S24) (t : Int) : List Int := (m.filter fun x => x.f0 == t).map (·.f1)
theorem of_l0 (m : List S24) (t : Int) (hm : m.length ≤ 1000000) : ∀ (r i k : Nat) (acc : List Int), i + r = m.length → r < k → acc.length + r ≤ 1000000 → claims_Of.l0 k t acc m (m.length : Int) (i : Int) = some (acc ++ ofT (m.drop i) t)
  | 0, i, k + 1, acc, hi, hk, ha => by
    simp only [claims_Of.l0]
    rw [if_neg (by omega), List.drop_of_length_le (by omega)]
    simp [ofT]
  | r + 1, i, k + 1, acc, hi, hk, ha => by
    simp only [claims_Of.l0]
    rw [if_pos (by omega), if_pos (by omega), if_pos (by omega), rd_drop m i (by omega), wrap64_small (by omega) (by omega), show (i : Int) + 1 = ((i + 1 : Nat) : Int) by omega]
    by_cases h : (rd_T24 m (i : Int)).f0 = t
    · rw [if_pos h, if_pos (by omega), of_l0 m t hm r (i + 1) k _ (by omega) (by omega) (by rw [List.length_append, List.length_singleton]; omega)]
      simp [ofT, h]
    · rw [if_neg h, of_l0 m t hm r (i + 1) k _ (by omega) (by omega) (by omega)]
      simp [ofT, h]
theorem rof_l0 : ∀ (k : Nat) (t : Int) (acc : List Int) (m : List S24) (n i : Int), trustquorumref17_Of.l0 k t acc m n i = claims_Of.l0 k t acc m n i
  | 0, t, acc, m, n, i => rfl
  | k + 1, t, acc, m, n, i => by
    rw [trustquorumref17_Of.l0, claims_Of.l0, rof_l0 k, rof_l0 k]
theorem of_f (l : List S24) (t : Int) (k : Nat) (hl : l.length ≤ 1000000) (hk : 128 < k) : claims_Of.f k l t = some (ofT (canon l) t) := by
  unfold claims_Of.f
  have h := canon_len0 l
  rw [sorted_f l hl, Option.bind_some]
  have := of_l0 (canon l) t (by omega) (canon l).length 0 k [] (by omega) (by omega) (by simp; omega)
  simpa using this
theorem rof_f (l : List S24) (t : Int) (k : Nat) (hl : l.length ≤ 1000) (hk : 2000 < k) : trustquorumref17_Of.f k l t = some (ofT (canon l) t) := by
  unfold trustquorumref17_Of.f
  have h := canon_len0 l
  rw [rsorted_f l k (by omega) (by omega), Option.bind_some, rof_l0]
  have := of_l0 (canon l) t (by omega) (canon l).length 0 k [] (by omega) (by omega) (by simp; omega)
  simpa using this
theorem ofT_len (l : List S24) (t : Int) : (ofT (canon l) t).length ≤ 128 := by
  unfold ofT
  rw [List.length_map]
  exact Nat.le_trans (List.length_filter_le _ _) (canon_len0 l)
theorem ints_l0 (a : List Int) (ha : a.length ≤ 1000000) : ∀ (r i k : Nat), i + r = a.length → r < k → trustquorummake_Ints.l0 k a a (a.length : Int) (i : Int) = some true
  | 0, i, k + 1, hi, hk => by
    simp only [trustquorummake_Ints.l0]
    rw [if_neg (by omega)]
  | r + 1, i, k + 1, hi, hk => by
    rw [trustquorummake_Ints.l0]
    rw [if_pos (by omega), if_pos (by omega), if_pos (by omega), if_pos (by omega), if_pos rfl, wrap64_small (by omega) (by omega), show (i : Int) + 1 = ((i + 1 : Nat) : Int) by omega]
    exact ints_l0 a ha r (i + 1) k (by omega) (by omega)
theorem ints_f (a : List Int) (k : Nat) (ha : a.length ≤ 1000000) (hk : a.length < k) : trustquorummake_Ints.f k a a = some true := by
  unfold trustquorummake_Ints.f
  rw [if_pos rfl]
  exact ints_l0 a ha a.length 0 k (by omega) hk
/-! ### Consistent -/
def clashes (x : S24) (l : List S24) : Bool := l.any fun y => x.f0 == y.f0 && x.f1 != y.f1
theorem rcons_go (l : List S24) (hl : l.length ≤ 1000) : ∀ n : Nat, (∀ i k : Nat, i ≤ l.length → (l.length - i) * (l.length + 2) ≤ n → n + 2 ≤ k → trustquorumref17_Consistent.l0 k l l (l.length : Int) (i : Int) = some ((List.range' i (l.length - i)).all fun q => !clashes (rd_T24 l (q : Int)) (l.take q))) ∧
    (∀ i j k : Nat, i < l.length → j ≤ i → (l.length - i) * (l.length + 2) - j - 1 ≤ n → n + 2 ≤ k → trustquorumref17_Consistent.l1 k l l (l.length : Int) (i : Int) (l.take i) ((l.take i).length : Int) (j : Int) (rd_T24 l (i : Int)).f0 (rd_T24 l (i : Int)).f1 =
      some (!clashes (rd_T24 l (i : Int)) ((l.take i).drop j) && (List.range' (i + 1) (l.length - (i + 1))).all fun q => !clashes (rd_T24 l (q : Int)) (l.take q)))
  | 0 => by
    constructor
    · intro i k hi hm hk
      have e : i = l.length := by
        rcases Nat.lt_or_ge i l.length with h | h
        · exfalso
          have h1 : 1 * (l.length + 2) ≤ (l.length - i) * (l.length + 2) := Nat.mul_le_mul_right _ (by omega)
          omega
        · omega
      obtain ⟨k, rfl⟩ : ∃ q, k = q + 1 := ⟨k - 1, by omega⟩
      rw [trustquorumref17_Consistent.l0, if_neg (by omega)]
      simp [e]
    · intro i j k hi hj hm hk
      exfalso
      have h1 : 1 * (l.length + 2) ≤ (l.length - i) * (l.length + 2) := Nat.mul_le_mul_right _ (by omega)
      omega
  | n + 1 => by
    obtain ⟨ih0, ih1⟩ := rcons_go l hl n
    constructor
    · intro i k hi hm hk
      obtain ⟨k, rfl⟩ : ∃ q, k = q + 1 := ⟨k - 1, by omega⟩
      rw [trustquorumref17_Consistent.l0]
      rcases Nat.lt_or_ge i l.length with h | h
      · rw [if_pos (by omega), if_pos (by omega), if_pos (by omega), if_pos (by omega), Option.bind_some, Int.toNat_natCast]
        have := ih1 i 0 k h (by omega) (by omega) (by omega)
        rw [show ((0 : Nat) : Int) = 0 from rfl] at this
        rw [this, List.drop_zero]
        obtain ⟨m, hm2⟩ : ∃ m, l.length - i = m + 1 := ⟨l.length - i - 1, by omega⟩
        rw [hm2, List.range'_succ, List.all_cons, show l.length - (i + 1) = m by omega]
      · rw [if_neg (by omega)]
        have e : l.length - i = 0 := by omega
        rw [e]
        simp
    · intro i j k hi hj hm hk
      obtain ⟨k, rfl⟩ : ∃ q, k = q + 1 := ⟨k - 1, by omega⟩
      have hlen : (l.take i).length = i := by rw [List.length_take]; omega
      rw [trustquorumref17_Consistent.l1]
      rcases Nat.lt_or_ge j i with h | h
      · have hd := rd_drop (l.take i) j (by omega)
        rw [if_pos (by omega), if_pos (by omega), if_pos (by omega), rcontradict_f, Option.bind_some, wrap64_small (by omega) (by omega), show (j : Int) + 1 = ((j + 1 : Nat) : Int) by omega, ih1 i (j + 1) k hi (by omega) (by omega) (by omega), hd]
        unfold clashes
        rw [List.any_cons]
        cases ((rd_T24 l (i : Int)).f0 == (rd_T24 (l.take i) (j : Int)).f0 && (rd_T24 l (i : Int)).f1 != (rd_T24 (l.take i) (j : Int)).f1) <;> simp
      · obtain rfl : j = i := by omega
        have hstep : (l.length - (j + 1)) * (l.length + 2) ≤ n := by
          have e : (l.length - j) * (l.length + 2) = (l.length - (j + 1)) * (l.length + 2) + (l.length + 2) := by
            rw [show l.length - j = (l.length - (j + 1)) + 1 by omega, Nat.add_mul, Nat.one_mul]
          omega
        rw [if_neg (by omega), wrap64_small (by omega) (by omega), show (j : Int) + 1 = ((j + 1 : Nat) : Int) by omega, ih0 (j + 1) k (by omega) hstep (by omega), List.drop_of_length_le (by omega)]
        simp [clashes]
theorem rconsistent_f (l : List S24) (k : Nat) (hl : l.length ≤ 1000) (hk : 1100000 ≤ k) : trustquorumref17_Consistent.f k l = some (consF l) := by
  unfold trustquorumref17_Consistent.f
  have h0 : l.length * (l.length + 2) ≤ 1000 * 1002 := Nat.mul_le_mul hl (by omega)
  have h := (rcons_go l hl (k - 2)).1 0 k (Nat.zero_le _) (by rw [Nat.sub_zero]; omega) (by omega)
  rw [show ((0 : Nat) : Int) = 0 from rfl] at h
  rw [h]
  congr 1
  rw [Nat.sub_zero, Bool.eq_iff_iff]
  simp only [List.all_eq_true, Bool.not_eq_true', clashes, List.any_eq_false, consF, Bool.or_eq_true, bne_iff_ne, beq_iff_eq, Bool.and_eq_true, not_and, Decidable.not_not]
  have rdl : ∀ (q : Nat) (h : q < l.length), rd_T24 l (q : Int) = l[q] := fun q h => by unfold rd_T24; rw [Int.toNat_natCast, List.getD_eq_getElem?_getD, List.getElem?_eq_getElem h]; rfl
  constructor
  · intro hq x hx y hy
    obtain ⟨i, hi, rfl⟩ := List.mem_iff_getElem.1 hx
    obtain ⟨j, hj, rfl⟩ := List.mem_iff_getElem.1 hy
    by_cases e : l[i].f0 = l[j].f0
    · right
      rcases Nat.lt_trichotomy i j with h | h | h
      · have := hq j (by simp [List.mem_range'_1]; omega) l[i] (by rw [List.mem_take_iff_getElem]; exact ⟨i, by omega, rfl⟩)
        rw [rdl j hj] at this
        exact (this e.symm).symm
      · subst h; rfl
      · have := hq i (by simp [List.mem_range'_1]; omega) l[j] (by rw [List.mem_take_iff_getElem]; exact ⟨j, by omega, rfl⟩)
        rw [rdl i hi] at this
        exact this e
    · exact .inl e
  · intro hq i hi y hy e
    have hi' : i < l.length := by simp [List.mem_range'_1] at hi; omega
    exact ((hq _ (rd_mem0 l i hi') y (List.mem_of_mem_take hy)).resolve_left (fun n => n e))
end Go.Proofs.YtocadlecfddbcaaGreatDoor.QClaims
