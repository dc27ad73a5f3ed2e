/- The plain law of ClaimsUnion: what the printed functions compute is true. -/
import Derived.Test.YtocadlecfddbcaaDoorPureClaims
import Derived.Test.YtocadlecfddbcaaDoorGUnionLaw
namespace Go.Proofs.YtocadlecfddbcaaDoor.QClaims
open Go.RowKit Go.Proofs.YtocadlecfddbcaaDoorW.PrintWords Go.Proofs.YtocadlecfddbcaaDoorW.PrintLast Go.Proofs.YtocadlecfddbcaaDoorW.PrintMore
set_option linter.unusedVariables false

theorem canon_congr {a b : List S52} (h : ∀ x, okC x = true → (x ∈ a ↔ x ∈ b)) : canon a = canon b :=
  uniqC _ _ (canon_pair a) (canon_pair b) fun x => by rw [mem_canon, mem_canon]; exact ⟨fun q => ⟨q.1, (h x q.1).1 q.2⟩, fun q => ⟨q.1, (h x q.1).2 q.2⟩⟩
theorem canon_len (l : List S52) : (canon l).length ≤ 128 := by
  unfold canon
  exact Nat.le_trans (List.length_filter_le _ _) (by rw [allC_len]; omega)
theorem canon_canon (l : List S52) : canon (canon l) = canon l := canon_congr fun x hx => by rw [mem_canon]; exact ⟨fun q => q.2, fun q => ⟨hx, q⟩⟩
theorem idx_l0 (l : List S52) (a b : Int) (hl : l.length ≤ 1000000) : ∀ (r i k : Nat), i + r = l.length → r < k → ∃ v, api_Claim_70.l0 k l (l.length : Int) (i : Int) a b = some v ∧ (v ≥ 0 ↔ (⟨a, b⟩ : S52) ∈ l.drop i)
  | 0, i, k + 1, hi, hk => by
    unfold api_Claim_70.l0
    rw [if_neg (by omega), List.drop_of_length_le (by omega)]
    exact ⟨-1, rfl, by simp⟩
  | r + 1, i, k + 1, hi, hk => by
    unfold api_Claim_70.l0
    rw [if_pos (by omega), if_pos (by omega), if_pos (by omega), rd_drop l i (by omega)]
    by_cases h : (a == (rd_T52 l (i : Int)).f0 && (b == (rd_T52 l (i : Int)).f1)) = true
    · rw [if_pos h]
      simp at h
      have e : (⟨a, b⟩ : S52) = rd_T52 l (i : Int) := S52_ext h.1 h.2
      exact ⟨_, rfl, by simp [e]⟩
    · rw [if_neg h, wrap64_small (by omega) (by omega), show (i : Int) + 1 = ((i + 1 : Nat) : Int) by omega]
      obtain ⟨v, hv, hvi⟩ := idx_l0 l a b hl r (i + 1) k (by omega) (by omega)
      have e : (⟨a, b⟩ : S52) ≠ rd_T52 l (i : Int) := by intro e; apply h; rw [← e]; simp
      exact ⟨v, hv, by rw [hvi]; simp [e]⟩
theorem chas_f (l : List S52) (a b : Int) (k : Nat) (hl : l.length ≤ 1000000) (hk : l.length < k) : claims_Has.f k l a b = some (decide ((⟨a, b⟩ : S52) ∈ l)) := by
  unfold claims_Has.f api_Claim_51.f api_Claim_70.f
  obtain ⟨v, hv, hvi⟩ := idx_l0 l a b hl l.length 0 k (by omega) hk
  rw [show ((0 : Nat) : Int) = 0 from rfl] at hv
  rw [hv, Option.bind_some, Option.bind_some]
  congr 1
  rw [List.drop_zero] at hvi
  by_cases h : (⟨a, b⟩ : S52) ∈ l
  · rw [decide_eq_true h, decide_eq_true (hvi.2 h)]
  · rw [decide_eq_false h, decide_eq_false (fun q => h (hvi.1 q))]
theorem rvalid_f (a b : Int) : trustquorumref17_Valid.f a b = some (okC ⟨a, b⟩) := by
  rw [show trustquorumref17_Valid.f a b = claims_Valid.f a b from rfl]
  exact valid_f a b
theorem union_f (a b : List S52) (h : a.length + b.length ≤ 1000000) : claims_Union.f a b = some (canon (a ++ b)) := by unfold claims_Union.f; rw [if_pos h]
theorem union_j1 (a b : List S52) (x y : Int) (k : Nat) (ha : a.length ≤ 30) (hb : b.length ≤ 30) (hk : 200 ≤ k) : trustquorumlaw17_ClaimsUnion.j1 (k + 1) a b (canon (a ++ b)) false x y = some true := by
  simp only [trustquorumlaw17_ClaimsUnion.j1]
  have hl := canon_len (a ++ b)
  rw [if_neg (by simp), chas_f _ _ _ k (by omega) (by omega), Option.bind_some, rvalid_f, Option.bind_some]
  have aw : (trustquorumlaw17_awake.f.bind fun t => some t) = some true := rfl
  simp only [mem_canon, List.mem_append, has_f a x y k (by omega) (by omega), has_f b x y k (by omega) (by omega), Option.bind_some, aw]
  by_cases hv : okC (⟨x, y⟩ : S52) = true
  · by_cases h1 : (⟨x, y⟩ : S52) ∈ a
    · simp [hv, h1]
    · by_cases h2 : (⟨x, y⟩ : S52) ∈ b
      · simp [hv, h1, h2]
      · simp [hv, h1, h2]
  · simp [hv]
theorem union_j0 (a b c : List S52) (x y : Int) (k : Nat) (ha : a.length ≤ 30) (hb : b.length ≤ 30) (hc : c.length ≤ 30) (hk : 300 ≤ k) : trustquorumlaw17_ClaimsUnion.j0 (k + 2) a b c false x y = some true := by
  simp only [trustquorumlaw17_ClaimsUnion.j0]
  have hl := canon_len (a ++ b)
  have hl2 := canon_len (b ++ c)
  have hl3 := canon_len (b ++ a)
  have hl4 := canon_len (canon (a ++ b) ++ c)
  have hl5 := canon_len (canon (a ++ b) ++ canon (a ++ b))
  have e1 : canon (a ++ b) = canon (b ++ a) := canon_congr fun z _ => by simp [or_comm]
  have e2 : canon (canon (a ++ b) ++ c) = canon (a ++ canon (b ++ c)) := canon_congr fun z hz => by simp [mem_canon, hz, or_assoc]
  have e3 : canon (canon (a ++ b) ++ canon (a ++ b)) = canon (a ++ b) := canon_congr fun z hz => by simp [mem_canon, hz]
  rw [if_neg (by simp), union_f a b (by omega), Option.bind_some, union_f b a (by omega), Option.bind_some, same_f _ _ (k + 1) (by omega) (by omega), Option.bind_some, if_pos (decide_eq_true e1),
    union_f (canon (a ++ b)) c (by omega), Option.bind_some, union_f b c (by omega), Option.bind_some, union_f a (canon (b ++ c)) (by omega), Option.bind_some, same_f _ _ (k + 1) (by omega) (by omega), Option.bind_some, if_pos (decide_eq_true e2),
    union_f (canon (a ++ b)) (canon (a ++ b)) (by omega), Option.bind_some, same_f _ _ (k + 1) (by omega) (by omega), Option.bind_some, if_pos (decide_eq_true e3),
    plain_f _ (k + 1) (by omega) (by omega), Option.bind_some, decide_eq_true (canon_canon (a ++ b)).symm]
  exact union_j1 a b x y k ha hb (by omega)
theorem union_off (a b c : List S52) (x y : Int) : trustquorumlaw17_ClaimsUnion.j0 302 a b c true x y = some true := by
  simp only [trustquorumlaw17_ClaimsUnion.j0]
  rw [if_pos trivial]; rfl
theorem claimsUnion_pure (a b c : List S52) (x y : Int) : trustquorumlaw17_ClaimsUnion.f 302 a b c x y = some true := by
  unfold trustquorumlaw17_ClaimsUnion.f
  by_cases h1 : (a.length : Int) > 30
  · rw [if_pos h1]; exact union_off _ _ _ _ _
  · rw [if_neg h1]
    by_cases h2 : (b.length : Int) > 30
    · rw [if_pos h2]; exact union_off _ _ _ _ _
    · rw [if_neg h2]
      by_cases h3 : (c.length : Int) > 30
      · rw [decide_eq_true h3]; exact union_off _ _ _ _ _
      · rw [decide_eq_false h3]; exact union_j0 a b c x y 300 (by omega) (by omega) (by omega) (by omega)
end Go.Proofs.YtocadlecfddbcaaDoor.QClaims
