/- The plain laws of the numbers that inputs are made of: N, Pick, Claim, Claims. -/
import Derived.Test.YtocadlecfddbcaaGreatDoorPureClaims
namespace Go.Proofs.YtocadlecfddbcaaGreatDoor.QClaims
open Go.RowKit Go.Proofs.YtocadlecfddbcaaGreatDoorW.PrintWords Go.Proofs.YtocadlecfddbcaaGreatDoorW.PrintLast Go.Proofs.YtocadlecfddbcaaGreatDoorW.PrintMore
set_option linter.unusedVariables false
theorem tapeN_ok (L : List Int) (a n : Int) (h0 : 0 ≤ a) (h1 : a ≤ L.length) (hL : L.length ≤ 1000000) (hn : 1 ≤ n) (hn2 : n ≤ 1000000) :
    ∃ v a', trustquorummake_Tape_N.f L a n = some (v, a') ∧ 0 ≤ v ∧ v < n ∧ 0 ≤ a' ∧ a' ≤ L.length := by
  unfold trustquorummake_Tape_N.f
  by_cases c1 : a ≥ (L.length : Int)
  · rw [if_pos c1]; exact ⟨0, a, rfl, by omega, by omega, h0, h1⟩
  · rw [if_neg c1, if_pos h0, if_pos (by omega), if_neg (by omega), wrap64_small (x := a + 1) (by omega) (by omega)]
    have hx := Int.tmod_lt_of_pos (rd L a) (show 0 < n by omega)
    have hx2 : -n < Int.tmod (rd L a) n := by
      have h_ := Int.natAbs_tmod (rd L a) n
      have h2 := Nat.mod_lt (rd L a).natAbs (show 0 < n.natAbs by omega)
      omega
    by_cases c2 : Int.tmod (rd L a) n < 0
    · rw [if_pos c2, wrap64_small (by omega) (by omega)]
      exact ⟨_, _, rfl, by omega, by omega, by omega, by omega⟩
    · rw [if_neg c2]
      exact ⟨_, _, rfl, by omega, by omega, by omega, by omega⟩
theorem tapePick_ok (L : List Int) (a : Int) (l : List Int) (h0 : 0 ≤ a) (h1 : a ≤ L.length) (hL : L.length ≤ 1000000) (hl : 1 ≤ l.length) (hl2 : l.length ≤ 1000) :
    ∃ v a', trustquorummake_Tape_Pick.f L a l = some (v, a') ∧ v ∈ l ∧ 0 ≤ a' ∧ a' ≤ L.length := by
  obtain ⟨v, a', hN, hv0, hv1, ha0, ha1⟩ := tapeN_ok L a (l.length : Int) h0 h1 hL (by omega) (by omega)
  unfold trustquorummake_Tape_Pick.f
  rw [hN, Option.bind_some, if_pos hv0, if_pos hv1]
  refine ⟨_, _, rfl, ?_, ha0, ha1⟩
  unfold rd
  rw [List.getD_eq_getElem?_getD, List.getElem?_eq_getElem (by omega)]
  exact List.getElem_mem _
theorem tapeClaim_ok (L : List Int) (a : Int) (h0 : 0 ≤ a) (h1 : a ≤ L.length) (hL : L.length ≤ 1000000) :
    ∃ x y a', trustquorummake_Claim.f L a = some (x, y, a') ∧ (-1 ≤ x ∧ x ≤ 8) ∧ (-1 ≤ y ∧ y ≤ 16) ∧ 0 ≤ a' ∧ a' ≤ L.length := by
  obtain ⟨v, a1, hN, hv0, hv1, ha0, ha1⟩ := tapeN_ok L a 30 h0 h1 hL (by omega) (by omega)
  unfold trustquorummake_Claim.f
  rw [hN, Option.bind_some]
  simp only
  by_cases c : v = 29
  · rw [if_pos c]
    obtain ⟨x, a2, hx, hxm, h20, h21⟩ := tapePick_ok L a1 [(-1), 0, 7, 8] ha0 ha1 hL (by decide) (by decide)
    rw [hx, Option.bind_some]
    obtain ⟨y, a3, hy, hym, h30, h31⟩ := tapePick_ok L a2 [(-1), 0, 15, 16] h20 h21 hL (by decide) (by decide)
    rw [hy, Option.bind_some]
    simp only [List.mem_cons, List.mem_nil_iff, or_false] at hxm hym
    exact ⟨_, _, _, rfl, by simp only; omega, by simp only; omega, h30, h31⟩
  · rw [if_neg c]
    obtain ⟨x, a2, hx, hx0, hx1, h20, h21⟩ := tapeN_ok L a1 3 ha0 ha1 hL (by omega) (by omega)
    rw [hx, Option.bind_some]
    obtain ⟨y, a3, hy, hy0, hy1, h30, h31⟩ := tapeN_ok L a2 3 h20 h21 hL (by omega) (by omega)
    rw [hy, Option.bind_some]
    exact ⟨_, _, _, rfl, by simp only; omega, by simp only; omega, h30, h31⟩
/-- What comes out of the generator: small numbers. -/
def SmallC (x : S24) : Prop := (-1 ≤ x.f0 ∧ x.f0 ≤ 8) ∧ (-1 ≤ x.f1 ∧ x.f1 ≤ 16)
theorem claims_l0 (L : List Int) (hL : L.length ≤ 1000000) : ∀ (r k : Nat) (acc : List S24) (a : Int), 0 ≤ a → a ≤ L.length → r < k → acc.length + r ≤ 1000000 → (∀ x ∈ acc, SmallC x) →
    ∃ l a', trustquorummake_Claims.l0 k acc (r : Int) L a = some (l, a') ∧ l.length = acc.length + r ∧ (∀ x ∈ l, SmallC x) ∧ 0 ≤ a' ∧ a' ≤ L.length
  | 0, k + 1, acc, a, h0, h1, hk, hacc, hs => by
    simp only [trustquorummake_Claims.l0]
    rw [if_neg (by omega)]
    exact ⟨_, _, rfl, rfl, hs, h0, h1⟩
  | r + 1, k + 1, acc, a, h0, h1, hk, hacc, hs => by
    simp only [trustquorummake_Claims.l0]
    obtain ⟨x, y, a1, hC, hx, hy, ha0, ha1⟩ := tapeClaim_ok L a h0 h1 hL
    rw [if_pos (by omega), hC, Option.bind_some, if_pos (by omega), wrap64_small (by omega) (by omega), show ((r + 1 : Nat) : Int) - 1 = (r : Int) by omega]
    obtain ⟨l, a', hl, hlen, hsm, hb0, hb1⟩ := claims_l0 L hL r k (acc ++ [⟨x, y⟩]) a1 ha0 ha1 (by omega) (by rw [List.length_append, List.length_singleton]; omega) (by
      intro z hz
      rcases List.mem_append.1 hz with h | h
      · exact hs z h
      · obtain rfl := List.mem_singleton.1 h
        exact ⟨hx, hy⟩)
    exact ⟨l, a', hl, by rw [hlen, List.length_append, List.length_singleton]; omega, hsm, hb0, hb1⟩
theorem tapeClaims_ok (L : List Int) (a : Int) (n k : Nat) (h0 : 0 ≤ a) (h1 : a ≤ L.length) (hL : L.length ≤ 1000000) (hn : n ≤ 1000) (hk : n < k) :
    ∃ l a', trustquorummake_Claims.f k L a (n : Int) = some (l, a') ∧ l.length ≤ n ∧ (∀ x ∈ l, SmallC x) ∧ 0 ≤ a' ∧ a' ≤ L.length := by
  unfold trustquorummake_Claims.f
  rw [wrap64_small (by omega) (by omega)]
  obtain ⟨v, a1, hN, hv0, hv1, ha0, ha1⟩ := tapeN_ok L a ((n : Int) + 1) h0 h1 hL (by omega) (by omega)
  rw [hN, Option.bind_some]
  obtain ⟨r, rfl⟩ := Int.eq_ofNat_of_zero_le hv0
  obtain ⟨l, a', hl, hlen, hsm, hb0, hb1⟩ := claims_l0 L hL r k [] a1 ha0 ha1 (by omega) (by simp; omega) (by simp)
  exact ⟨l, a', hl, by simp at hlen; omega, hsm, hb0, hb1⟩
theorem new_ok (l : List Int) (h : l.length ≤ maxLen) : ∃ L, trustquorummake_New.f l = some (L, 0) ∧ L.length ≤ 400 := by
  unfold maxLen at h
  unfold trustquorummake_New.f mn
  by_cases c : 400 < (l.length : Int)
  · rw [if_pos c, if_pos (by omega), if_pos (by omega)]
    exact ⟨_, rfl, by rw [List.length_take]; omega⟩
  · rw [if_neg c, if_pos (by omega), if_pos (by omega)]
    exact ⟨_, rfl, by rw [List.length_take]; omega⟩
theorem canon_small (l : List S24) : ∀ x ∈ canon l, SmallC x := by
  intro x hx
  have h := ((mem_canon l x).1 hx).1
  unfold okC at h
  simp at h
  unfold SmallC
  omega
end Go.Proofs.YtocadlecfddbcaaGreatDoor.QClaims
