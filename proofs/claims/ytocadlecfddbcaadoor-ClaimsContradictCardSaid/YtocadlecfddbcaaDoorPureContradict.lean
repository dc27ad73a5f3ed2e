/- The plain law of ClaimsContradict: what the printed functions compute is true. -/
import Derived.Test.YtocadlecfddbcaaDoorPureTape
import Derived.Test.YtocadlecfddbcaaDoorGContradict
namespace Go.Proofs.YtocadlecfddbcaaDoor.QClaims
open Go.RowKit Go.Proofs.YtocadlecfddbcaaDoorW.PrintWords Go.Proofs.YtocadlecfddbcaaDoorW.PrintLast Go.Proofs.YtocadlecfddbcaaDoorW.PrintMore
set_option linter.unusedVariables false

theorem canon_congr' {a b : List S52} (h : ∀ x, okC x = true → (x ∈ a ↔ x ∈ b)) : canon a = canon b :=
  uniqC _ _ (canon_pair a) (canon_pair b) fun x => by rw [mem_canon, mem_canon]; exact ⟨fun q => ⟨q.1, (h x q.1).1 q.2⟩, fun q => ⟨q.1, (h x q.1).2 q.2⟩⟩
theorem canon_canon' (l : List S52) : canon (canon l) = canon l := canon_congr' fun x hx => by rw [mem_canon]; exact ⟨fun q => q.2, fun q => ⟨hx, q⟩⟩
theorem canon_len' (l : List S52) : (canon l).length ≤ 128 := by
  unfold canon
  exact Nat.le_trans (List.length_filter_le _ _) (by rw [allC_len]; omega)
def ofT (m : List S52) (t : Int) : List Int := (m.filter fun x => x.f0 == t).map (·.f1)
theorem of_l0 (m : List S52) (t : Int) (hm : m.length ≤ 1000000) : ∀ (r i k : Nat) (acc : List Int), i + r = m.length → r < k → acc.length + r ≤ 1000000 → claims_Of.l0 k t acc m (m.length : Int) (i : Int) = some (acc ++ ofT (m.drop i) t)
  | 0, i, k + 1, acc, hi, hk, ha => by
    simp only [claims_Of.l0]
    rw [if_neg (by omega), List.drop_of_length_le (by omega)]
    simp [ofT]
  | r + 1, i, k + 1, acc, hi, hk, ha => by
    simp only [claims_Of.l0]
    rw [if_pos (by omega), if_pos (by omega), if_pos (by omega), rd_drop m i (by omega), wrap64_small (by omega) (by omega), show (i : Int) + 1 = ((i + 1 : Nat) : Int) by omega]
    by_cases h : (rd_T52 m (i : Int)).f0 = t
    · rw [if_pos h, if_pos (by omega), of_l0 m t hm r (i + 1) k _ (by omega) (by omega) (by rw [List.length_append, List.length_singleton]; omega)]
      simp [ofT, h]
    · rw [if_neg h, of_l0 m t hm r (i + 1) k _ (by omega) (by omega) (by omega)]
      simp [ofT, h]
theorem of_f (l : List S52) (t : Int) (k : Nat) (hl : l.length ≤ 1000000) (hk : 128 < k) : claims_Of.f k l t = some (ofT (canon l) t) := by
  unfold claims_Of.f claims_Sorted.f
  have h := canon_len' l
  rw [if_pos hl, Option.bind_some]
  have := of_l0 (canon l) t (by omega) (canon l).length 0 k [] (by omega) (by omega) (by simp; omega)
  simpa using this
/-! ### at most one value for each topic -/
def oneB (l : List S52) (i : Nat) : Bool := decide ((ofT l (i : Int)).length ≤ 1)
theorem consF_iff (l : List S52) : consF l = true ↔ ∀ x ∈ l, ∀ y ∈ l, x.f0 = y.f0 → x.f1 = y.f1 := by
  unfold consF
  simp only [List.all_eq_true, Bool.or_eq_true, bne_iff_ne, beq_iff_eq]
  exact ⟨fun h x hx y hy e => (h x hx y hy).resolve_left (fun n => n e), fun h x hx y hy => by
    by_cases e : x.f0 = y.f0
    · exact .inr (h x hx y hy e)
    · exact .inl e⟩
theorem le_one_of {l : List S52} {t : Int} (hp : l.Pairwise ltC) (hc : ∀ x ∈ l, ∀ y ∈ l, x.f0 = y.f0 → x.f1 = y.f1) : (ofT l t).length ≤ 1 := by
  unfold ofT
  rw [List.length_map]
  have hq : (l.filter fun x => x.f0 == t).Pairwise ltC := hp.filter _
  have hm : ∀ x ∈ l.filter fun x => x.f0 == t, x ∈ l ∧ x.f0 = t := fun x hx => by simpa using List.mem_filter.1 hx
  match hL : l.filter fun x => x.f0 == t with
  | [] => rw [hL]; simp
  | [_] => rw [hL]; simp
  | a :: b :: r =>
    rw [hL] at hq hm
    have h1 := hm a (by simp)
    have h2 := hm b (by simp)
    have h3 : ltC a b := by
      have := List.pairwise_cons.1 hq
      exact this.1 b (by simp)
    have h4 := hc a h1.1 b h2.1 (h1.2.trans h2.2.symm)
    unfold ltC at h3
    have e1 := h1.2
    have e2 := h2.2
    omega
theorem same_of_le_one {l : List S52} {t : Int} (h : (ofT l t).length ≤ 1) {x y : S52} (hx : x ∈ l) (hy : y ∈ l) (ex : x.f0 = t) (ey : y.f0 = t) : x.f1 = y.f1 := by
  have m1 : x.f1 ∈ ofT l t := List.mem_map.2 ⟨x, List.mem_filter.2 ⟨hx, by simpa using ex⟩, rfl⟩
  have m2 : y.f1 ∈ ofT l t := List.mem_map.2 ⟨y, List.mem_filter.2 ⟨hy, by simpa using ey⟩, rfl⟩
  match hL : ofT l t with
  | [] => rw [hL] at m1; simp at m1
  | [a] => rw [hL] at m1 m2; simp at m1 m2; rw [m1, m2]
  | a :: b :: r => rw [hL] at h; simp at h
theorem one_consF (m : List S52) : (List.range' 0 8).all (oneB (canon m)) = consF (canon m) := by
  rw [Bool.eq_iff_iff, consF_iff]
  simp only [List.all_eq_true, oneB, decide_eq_true_eq]
  constructor
  · intro h x hx y hy e
    have hs := ((mem_canon m x).1 hx).1
    unfold okC at hs
    simp at hs
    refine same_of_le_one (h x.f0.toNat (by simp; omega)) hx hy (by omega) (by omega)
  · intro h i _
    exact le_one_of (canon_pair m) h
theorem one_l0 (l : List S52) (x y : Int) (hl : l.length ≤ 1000000) (hcc : canon l = l) : ∀ (r i k : Nat) (one : Bool), i + r = 8 → 200 ≤ k → trustquorumlaw17_ClaimsContradict.l0 (k + r + 1) l one (i : Int) x y = trustquorumlaw17_ClaimsContradict.l1 k l (one && (List.range' i r).all (oneB l)) false l (l.length : Int) 0 x y
  | 0, i, k, one, hi, hk => by
    simp only [trustquorumlaw17_ClaimsContradict.l0, Nat.add_zero]
    rw [if_neg (by omega)]
    simp
  | r + 1, i, k, one, hi, hk => by
    rw [show k + (r + 1) + 1 = (k + r + 1) + 1 by omega]
    rw [trustquorumlaw17_ClaimsContradict.l0]
    rw [if_pos (by omega), of_f l _ _ hl (by omega), Option.bind_some, wrap64_small (by omega) (by omega), show (i : Int) + 1 = ((i + 1 : Nat) : Int) by omega]
    rw [one_l0 l x y hl hcc r (i + 1) k _ (by omega) hk, one_l0 l x y hl hcc r (i + 1) k _ (by omega) hk, hcc]
    cases one with
    | false => simp
    | true =>
      simp only [if_true, List.range'_succ, List.all_cons, Bool.true_and]
      congr 2
      unfold oneB
      congr 1
      rw [eq_iff_iff]
      omega
def agB (l : List S52) (x y : Int) : Bool := l.any fun z => z.f0 == x && z.f1 != y
theorem contradict_f (a b c d : Int) : claims_Contradict.f a b c d = some (a == c && b != d) := by
  unfold claims_Contradict.f
  by_cases h : a = c
  · rw [if_pos h]; simp [h]
  · rw [if_neg h]; simp [h]
theorem ag_l1 (l : List S52) (one : Bool) (x y : Int) (hl : l.length ≤ 1000000) : ∀ (r i k : Nat) (ag : Bool), i + r = l.length → trustquorumlaw17_ClaimsContradict.l1 (k + r + 1) l one ag l (l.length : Int) (i : Int) x y = trustquorumlaw17_ClaimsContradict.l1 (k + 1) l one (ag || agB (l.drop i) x y) l (l.length : Int) (l.length : Int) x y
  | 0, i, k, ag, hi => by
    obtain rfl : i = l.length := by omega
    simp [agB]
  | r + 1, i, k, ag, hi => by
    rw [show k + (r + 1) + 1 = (k + r + 1) + 1 by omega]
    have hd := rd_drop l i (by omega)
    rw [trustquorumlaw17_ClaimsContradict.l1]
    rw [if_pos (by omega), if_pos (by omega), if_pos (by omega), contradict_f, Option.bind_some, wrap64_small (by omega) (by omega), show (i : Int) + 1 = ((i + 1 : Nat) : Int) by omega, ag_l1 l one x y hl r (i + 1) k _ (by omega), ag_l1 l one x y hl r (i + 1) k _ (by omega), hd]
    cases ag with
    | true => simp
    | false => simp [agB]
theorem consF_snoc (l : List S52) (x y : Int) : consF (l ++ [⟨x, y⟩]) = (consF l && !agB l x y) := by
  rw [Bool.eq_iff_iff]
  simp only [consF_iff, Bool.and_eq_true, Bool.not_eq_true', agB, List.any_eq_false, beq_iff_eq, bne_iff_ne, List.mem_append, List.mem_singleton, not_and, Decidable.not_not]
  constructor
  · intro h
    exact ⟨fun a ha b hb e => h a (.inl ha) b (.inl hb) e, fun z hz e => h z (.inl hz) ⟨x, y⟩ (.inr rfl) e⟩
  · rintro ⟨h1, h2⟩ a (ha | rfl) b (hb | rfl) e
    · exact h1 a ha b hb e
    · exact h2 a ha e
    · exact (h2 b hb e.symm).symm
    · rfl
theorem in64_small {z : S52} (h : SmallC z) : in64 z.f0 ∧ in64 z.f1 := by
  unfold SmallC at h
  unfold in64
  omega
theorem consistent_f (l : List S52) (hl : l.length ≤ 1000) (hs : ∀ z ∈ l, SmallC z) : claims_Consistent.f l = some (consF l) := by
  unfold claims_Consistent.f
  rw [if_pos ⟨fun z hz => in64_small (hs z hz), by omega⟩]
theorem contradict_end (m : List S52) (x y : Int) (k : Nat) (hx : SmallC ⟨x, y⟩) :
    trustquorumlaw17_ClaimsContradict.l1 (k + 1) (canon m) (consF (canon m)) (agB (canon m) x y) (canon m) ((canon m).length : Int) ((canon m).length : Int) x y = some true := by
  have hl := canon_len' m
  have hs := canon_small m
  have hs2 : ∀ z ∈ canon m ++ [⟨x, y⟩], SmallC z := by
    intro z hz
    rcases List.mem_append.1 hz with h | h
    · exact hs z h
    · obtain rfl := List.mem_singleton.1 h; exact hx
  rw [trustquorumlaw17_ClaimsContradict.l1]
  rw [if_neg (by omega), consistent_f _ (by omega) hs, Option.bind_some, if_pos (by simp), Option.bind_some, if_pos (by simp; omega), Option.bind_some, Option.bind_some, if_pos (by simp; omega)]
  simp only [List.nil_append]
  rw [consistent_f _ (by simp; omega) hs2, Option.bind_some, consF_snoc]
  cases consF (canon m) <;> cases agB (canon m) x y <;> rfl
theorem claimsContradict_pure : trustquorumlaw17_ClaimsContradict.Pure := by
  intro l0 hm _ _
  refine ⟨2000, ?_⟩
  obtain ⟨L, hN, hL⟩ := new_ok l0 hm
  obtain ⟨c, a1, hC, hcl, hcs, h10, h11⟩ := tapeClaims_ok L 0 6 2000 (by omega) (by omega) (by omega) (by omega) (by omega)
  obtain ⟨x, y, a2, hX, hx0, hx1, h20, h21⟩ := tapeClaim_ok L a1 h10 h11 (by omega)
  obtain ⟨u, v, a3, hU, _, _, _, _⟩ := tapeClaim_ok L a2 h20 h21 (by omega)
  unfold trustquorumlaw17_ClaimsContradict.f
  have hC' : trustquorummake_Claims.f 2000 L 0 6 = some (c, a1) := hC
  have hl := canon_len' c
  rw [hN, Option.bind_some]
  simp only
  rw [hC', Option.bind_some]
  simp only
  rw [rsorted_f c 2000 (by omega) (by omega), Option.bind_some, hX, Option.bind_some]
  simp only
  rw [hU, Option.bind_some]
  simp only
  rw [contradict_f, Option.bind_some, contradict_f, Option.bind_some]
  have e : (x == u && y != v) = (u == x && v != y) := by
    rw [Bool.eq_iff_iff]; simp; omega
  rw [if_neg (by rw [e]; simp), contradict_f, Option.bind_some, show (x == x && y != y) = false by simp]
  rw [show (2000 : Nat) = 1999 + 1 by rfl, trustquorumlaw17_ClaimsContradict.j0]
  rw [if_neg (by simp), show (1999 : Nat) = 1990 + 8 + 1 by rfl]
  have h1 := one_l0 (canon c) x y (by omega) (canon_canon' c) 8 0 1990 true (by omega) (by omega)
  rw [show ((0 : Nat) : Int) = 0 from rfl] at h1
  rw [h1, Bool.true_and, one_consF]
  obtain ⟨q, hq⟩ : ∃ q, 1990 = q + (canon c).length + 1 := ⟨1990 - (canon c).length - 1, by omega⟩
  have h2 := ag_l1 (canon c) (consF (canon c)) x y (by omega) (canon c).length 0 q false (by omega)
  rw [show ((0 : Nat) : Int) = 0 from rfl] at h2
  rw [hq, h2, Bool.false_or, List.drop_zero]
  exact contradict_end c x y q ⟨hx0, hx1⟩
end Go.Proofs.YtocadlecfddbcaaDoor.QClaims
