/- From a row's readings to the print's: a list of claims, and a claim, that came in. -/
import Derived.Test.YtocadlecfddbcaaDoorQClaimsx0
import Derived.Deep.SlicePairs
import Derived.Lib.SmallJoins
namespace Go.Proofs.YtocadlecfddbcaaDoor
open Go.ChangeShapes Go.WideShapes Go.ChangeAt Go.RowKit Go.Proofs.YtocadlecfddbcaaDoorW.PrintWords Go.Proofs.YtocadlecfddbcaaDoorW.PrintLast Go.Proofs.YtocadlecfddbcaaDoorW.PrintMore QClaims
set_option linter.unusedVariables false
set_option maxRecDepth 100000 in
theorem open_claims {H : Type} {enc : TypeId × Value → H} {W : World} {b0 base : Nat} {v : Value} {d : DataW H} {p : List MemPlace}
    (hval : Value.okWide Tryd.prog W .any b0 38 v) (h : DataW.Trod enc Tryd.prog W base (fun _ => true) true 38 v d p) :
    ∃ A c, ∃ l : List S52, v = .slice A l.length c ∧ l.length ≤ c ∧ Kd.C k52 W A l.length l := by
  obtain ⟨a, n, c, rfl⟩ := okWide_slice Tryd.underlying38 hval
  obtain ⟨fuel, hf⟩ := h
  rcases Go.Deep.open_slice_pairs Tryd.underlying38 Tryd.underlying52 (by kernel_rfl) rfl rfl (by kernel_rfl) (by kernel_rfl) hf with ⟨hcs, _⟩ | ⟨x, len, cap, m, q, V0, V1, D0, D1, P0, P1, hcs, _, hl, hm, hmm, _, hx⟩
  · simp [Value.cells] at hcs
    obtain ⟨rfl, rfl, rfl⟩ := hcs
    exact ⟨none, 0, [], rfl, Nat.le_refl _, rfl, by simp, fun h => absurd h (Nat.lt_irrefl _)⟩
  · simp [Value.cells] at hcs
    obtain ⟨rfl, rfl, rfl⟩ := hcs
    have hlm : n ≤ m := by rw [hmm]; split <;> omega
    have each : ∀ i, i < n → ∃ s : S52, W.cell? (x.add (i * 2)) = some (.int .i64 s.f0) ∧ W.cell? (x.add (i * 2 + 1)) = some (.int .i64 s.f1) := by
      intro i hi
      obtain ⟨h0, h1, t0, t1⟩ := hx i (by omega)
      obtain ⟨z0, e0, _⟩ := DataW.trod_int Tryd.underlying3 t0
      obtain ⟨z1, e1, _⟩ := DataW.trod_int Tryd.underlying3 t1
      simp at e0 e1
      rw [e0] at h0
      rw [e1] at h1
      exact ⟨⟨z0, z1⟩, h0, h1⟩
    haveI : Inhabited S52 := ⟨z52⟩
    obtain ⟨f, hfx⟩ := Go.Deep.choose_lt each
    refine ⟨some x, c, (List.range n).map f, by simp, by simpa using hl, ?_⟩
    refine ⟨rfl, by unfold maxLen at hm; simp; omega, fun _ => ⟨x, rfl, fun j s hj => ?_⟩⟩
    have hjn : j < n := by
      have := (List.getElem?_eq_some_iff.1 hj).1
      simpa using this
    have es : s = f j := by
      rw [List.getElem?_map, List.getElem?_range hjn] at hj
      simpa using hj.symm
    subst es
    obtain ⟨h0, h1⟩ := hfx j hjn
    refine ⟨_, rfl, k52_mk W (f j), fun i u hu => ?_⟩
    match i, hu with
    | 0, hu => obtain rfl := by simpa using hu
               exact h0
    | 1, hu => obtain rfl := by simpa using hu
               exact h1
    | i + 2, hu => simp at hu
set_option maxRecDepth 100000 in
theorem open_claim {H : Type} {enc : TypeId × Value → H} {W : World} {b0 base : Nat} {v : Value} {d : DataW H} {p : List MemPlace}
    (hval : Value.okWide Tryd.prog W .any b0 52 v) (h : DataW.Trod enc Tryd.prog W base (fun _ => true) true 52 v d p) : ∃ a b, v = .agg #[.int .i64 a, .int .i64 b] := by
  obtain ⟨v0, v1, y0, y1, n, rfl, _, _, t0, t1⟩ := Go.Joins.open_agg2 Tryd.underlying52 (by kernel_rfl) (by kernel_rfl) hval h
  obtain ⟨z0, e0, _⟩ := DataW.trod_int Tryd.underlying3 t0
  obtain ⟨z1, e1, _⟩ := DataW.trod_int Tryd.underlying3 t1
  simp at e0 e1
  subst e0 e1
  exact ⟨z0, z1, rfl⟩
end Go.Proofs.YtocadlecfddbcaaDoor
