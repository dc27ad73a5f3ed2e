/- The plain law of claims.Sorted: sorted, each once, only claims: the list of all claims cut down. -/
import Derived.Test.YtocadlecfddbcaaGreatDoorGSort4
namespace Go.Proofs.YtocadlecfddbcaaGreatDoor.QClaims
set_option linter.unusedVariables false
set_option linter.unusedSimpArgs false

instance : DecidableEq S24 := fun a b => decidable_of_iff (a.f0 = b.f0 ∧ a.f1 = b.f1) (by cases a; cases b; simp)
def ltC (x y : S24) : Prop := x.f0 < y.f0 ∨ x.f0 = y.f0 ∧ x.f1 < y.f1
instance (x y : S24) : Decidable (ltC x y) := inferInstanceAs (Decidable (_ ∨ _))
/-- All claims, ascending. -/
def allC : List S24 := (List.range 8).flatMap fun i : Nat => (List.range 16).map fun k : Nat => ⟨(i : Int), (k : Int)⟩
/-- The claims of a list, ascending, each once. -/
def canon (l : List S24) : List S24 := allC.filter fun x => decide (x ∈ l)
theorem S24_ext {x y : S24} (h0 : x.f0 = y.f0) (h1 : x.f1 = y.f1) : x = y := by cases x; cases y; simp_all
theorem mem_allC (x : S24) : x ∈ allC ↔ okC x = true := by
  unfold allC okC
  simp only [List.mem_flatMap, List.mem_range, List.mem_map, decide_eq_true_eq]
  constructor
  · rintro ⟨i, hi, k, hk, rfl⟩; simp; omega
  · intro h
    exact ⟨x.f0.toNat, by omega, x.f1.toNat, by omega, S24_ext (by simp; omega) (by simp; omega)⟩
theorem mem_canon (l : List S24) (x : S24) : x ∈ canon l ↔ okC x = true ∧ x ∈ l := by
  unfold canon; rw [List.mem_filter, mem_allC, decide_eq_true_eq]
theorem allC_pair : allC.Pairwise ltC := by decide +kernel
theorem canon_pair (l : List S24) : (canon l).Pairwise ltC := allC_pair.filter _
theorem uniqC : ∀ (a b : List S24), a.Pairwise ltC → b.Pairwise ltC → (∀ x, x ∈ a ↔ x ∈ b) → a = b
  | [], [], _, _, _ => rfl
  | [], y :: b, _, _, h => by have := (h y).2 (List.mem_cons_self ..); cases this
  | x :: a, [], _, _, h => by have := (h x).1 (List.mem_cons_self ..); cases this
  | x :: a, y :: b, ha, hb, h => by
    rw [List.pairwise_cons] at ha hb
    have hxy : x = y := by
      rcases List.mem_cons.1 ((h x).1 (List.mem_cons_self ..)) with e | e
      · exact e
      · rcases List.mem_cons.1 ((h y).2 (List.mem_cons_self ..)) with e2 | e2
        · exact e2.symm
        · have h1 := hb.1 x e
          have h2 := ha.1 y e2
          unfold ltC at h1 h2
          omega
    subst hxy
    refine congrArg (x :: ·) (uniqC a b ha.2 hb.2 fun z => ?_)
    have hz := h z
    have irr : ¬ ltC x x := by unfold ltC; omega
    constructor
    · intro hm
      rcases List.mem_cons.1 (hz.1 (List.mem_cons_of_mem _ hm)) with e | e
      · exact absurd (e ▸ ha.1 z hm) irr
      · exact e
    · intro hm
      rcases List.mem_cons.1 (hz.2 (List.mem_cons_of_mem _ hm)) with e | e
      · exact absurd (e ▸ hb.1 z hm) irr
      · exact e
theorem newAt_false {l : List S24} {q : Nat} (h : newAt l q = false) : 0 < q ∧ rd_T24 l (q : Int) = rd_T24 l ((q - 1 : Nat) : Int) := by
  unfold newAt at h
  simp at h
  exact ⟨by omega, S24_ext h.2.1 h.2.2⟩
theorem mem_dedTo (l : List S24) (n : Nat) (x : S24) : x ∈ dedTo l n ↔ ∃ q : Nat, q < n ∧ rd_T24 l (q : Int) = x := by
  induction n with
  | zero => constructor
            · intro h; simp [dedTo] at h
            · rintro ⟨q, hq, _⟩; omega
  | succ n ih =>
    rw [dedTo_succ, List.mem_append, ih]
    constructor
    · rintro (⟨q, hq, e⟩ | h)
      · exact ⟨q, by omega, e⟩
      · cases hn : newAt l n with
        | true => rw [hn] at h; simp at h; exact ⟨n, by omega, h.symm⟩
        | false => rw [hn] at h; simp at h
    · rintro ⟨q, hq, rfl⟩
      rcases Nat.lt_or_ge q n with h | h
      · exact .inl ⟨q, h, rfl⟩
      · obtain rfl : q = n := by omega
        cases hn : newAt l q with
        | true => right; simp
        | false =>
          obtain ⟨h0, e⟩ := newAt_false hn
          exact .inl ⟨q - 1, by omega, e.symm⟩
theorem dedTo_pair (l : List S24) (hs : ∀ i j : Nat, i < j → j < l.length → Go.Proofs.ltOf cfC (rd_T24 l (j : Int)) (rd_T24 l (i : Int)) = false) (n : Nat) (hn : n ≤ l.length) : (dedTo l n).Pairwise ltC := by
  induction n with
  | zero => exact List.Pairwise.nil
  | succ n ih =>
    rw [dedTo_succ, List.pairwise_append]
    refine ⟨ih (by omega), ?_, fun x hx y hy => ?_⟩
    · split
      · exact List.pairwise_singleton _ _
      · exact List.Pairwise.nil
    · cases hw : newAt l n with
      | false => rw [hw] at hy; simp at hy
      | true =>
        rw [hw] at hy
        simp at hy
        subst hy
        obtain ⟨q, hq, rfl⟩ := (mem_dedTo l n x).1 hx
        have h1 := hs q n hq (by omega)
        have h2 : rd_T24 l (q : Int) ≠ rd_T24 l (n : Int) := by
          intro e
          have h3 : rd_T24 l (n : Int) ≠ rd_T24 l ((n - 1 : Nat) : Int) := by
            intro e2
            unfold newAt at hw
            rw [e2] at hw
            simp at hw
            omega
          rcases Nat.lt_or_ge q (n - 1) with h4 | h4
          · have h5 := hs q (n - 1) h4 (by omega)
            have h6 := hs (n - 1) n (by omega) (by omega)
            rw [e] at h5
            rw [cfC_lt, decide_eq_false_iff_not] at h5 h6
            exact h3 (S24_ext (by omega) (by omega))
          · obtain rfl : q = n - 1 := by omega
            exact h3 e.symm
        rw [cfC_lt, decide_eq_false_iff_not] at h1
        unfold ltC
        by_cases e0 : (rd_T24 l (q : Int)).f0 = (rd_T24 l (n : Int)).f0
        · by_cases e1 : (rd_T24 l (q : Int)).f1 = (rd_T24 l (n : Int)).f1
          · exact absurd (S24_ext e0 e1) h2
          · omega
        · omega
theorem rd_mem0 (l : List S24) (k : Nat) (h : k < l.length) : rd_T24 l (k : Int) ∈ l := by
  unfold rd_T24
  rw [Int.toNat_natCast, List.getD_eq_getElem?_getD, List.getElem?_eq_getElem h]
  exact List.getElem_mem h
theorem sorted_canon (l l' : List S24) (hp : l'.Perm (l.filter okC)) (hs : ∀ i j : Nat, i < j → j < l'.length → Go.Proofs.ltOf cfC (rd_T24 l' (j : Int)) (rd_T24 l' (i : Int)) = false) : dedTo l' l'.length = canon l := by
  apply uniqC _ _ (dedTo_pair l' hs _ (Nat.le_refl _)) (canon_pair l)
  intro x
  rw [mem_dedTo, mem_canon]
  constructor
  · rintro ⟨q, hq, rfl⟩
    have := hp.mem_iff.1 (rd_mem0 l' q hq)
    rw [List.mem_filter] at this
    exact ⟨this.2, this.1⟩
  · rintro ⟨h1, h2⟩
    exact mem_rd (hp.mem_iff.2 (List.mem_filter.2 ⟨h2, h1⟩))
end Go.Proofs.YtocadlecfddbcaaGreatDoor.QClaims
