/- From a row's readings to the print's: a list of claims, and a claim, that came in. -/
import Derived.Test.YtocadlecfddbcaaGreatDoorQClaimsx0
import Derived.Test.YtocadlecfddbcaaGreatDoorGConsistent
import Derived.Deep.SlicePairs
import Derived.Lib.SmallJoins
namespace Go.Proofs.YtocadlecfddbcaaGreatDoor
open Go.ChangeShapes Go.WideShapes Go.ChangeAt Go.RowKit Go.Proofs.YtocadlecfddbcaaGreatDoorW.PrintWords Go.Proofs.YtocadlecfddbcaaGreatDoorW.PrintLast Go.Proofs.YtocadlecfddbcaaGreatDoorW.PrintMore QClaims
set_option linter.unusedVariables false
theorem wf_in64 {z : Int} (h : (Lit.int .i64 z).wf = true) : in64 z := by
  unfold Lit.wf at h
  rw [Bool.and_eq_true, decide_eq_true_eq, decide_eq_true_eq] at h
  exact ⟨Int.le_trans (by decide) h.1, Int.le_trans h.2 (by decide)⟩
set_option maxRecDepth 100000 in
theorem open_claims {H : Type} {enc : TypeId × Value → H} {W : World} {b0 base : Nat} {v : Value} {d : DataW H} {p : List MemPlace}
    (hval : Value.okWide Tryz.prog W .any b0 25 v) (h : DataW.Trod enc Tryz.prog W base (fun _ => true) true 25 v d p) :
    ∃ A c, ∃ l : List S24, v = .slice A l.length c ∧ l.length ≤ c ∧ Kd.C k24 W A l.length l ∧ ∀ x ∈ l, in64 x.f0 ∧ in64 x.f1 := by
  obtain ⟨a, n, c, rfl⟩ := okWide_slice Tryz.underlying25 hval
  obtain ⟨fuel, hf⟩ := h
  rcases Go.Deep.open_slice_pairs Tryz.underlying25 Tryz.underlying24 (by kernel_rfl) rfl rfl (by kernel_rfl) (by kernel_rfl) hf with ⟨hcs, _⟩ | ⟨x, len, cap, m, q, V0, V1, D0, D1, P0, P1, hcs, _, hl, hm, hmm, _, hx⟩
  · simp [Value.cells] at hcs
    obtain ⟨rfl, rfl, rfl⟩ := hcs
    exact ⟨none, 0, [], rfl, Nat.le_refl _, ⟨rfl, by simp, fun h => absurd h (Nat.lt_irrefl _)⟩, by simp⟩
  · simp [Value.cells] at hcs
    obtain ⟨rfl, rfl, rfl⟩ := hcs
    have hlm : n ≤ m := by rw [hmm]; split <;> omega
    have each : ∀ i, i < n → ∃ s : S24, W.cell? (x.add (i * 2)) = some (.int .i64 s.f0) ∧ W.cell? (x.add (i * 2 + 1)) = some (.int .i64 s.f1) ∧ in64 s.f0 ∧ in64 s.f1 := by
      intro i hi
      obtain ⟨h0, h1, t0, t1⟩ := hx i (by omega)
      obtain ⟨z0, e0, _, w0⟩ := DataW.trod_int Tryz.underlying3 t0
      obtain ⟨z1, e1, _, w1⟩ := DataW.trod_int Tryz.underlying3 t1
      simp at e0 e1
      rw [e0] at h0
      rw [e1] at h1
      exact ⟨⟨z0, z1⟩, h0, h1, wf_in64 w0, wf_in64 w1⟩
    haveI : Inhabited S24 := ⟨z24⟩
    obtain ⟨f, hfx⟩ := Go.Deep.choose_lt each
    refine ⟨some x, c, (List.range n).map f, by simp, by simpa using hl, ?_, fun s hs => by
      obtain ⟨j, hj, rfl⟩ := List.mem_map.1 hs
      exact (hfx j (List.mem_range.1 hj)).2.2⟩
    refine ⟨rfl, by unfold maxLen at hm; simp; omega, fun _ => ⟨x, rfl, fun j s hj => ?_⟩⟩
    have hjn : j < n := by
      have := (List.getElem?_eq_some_iff.1 hj).1
      simpa using this
    have es : s = f j := by
      rw [List.getElem?_map, List.getElem?_range hjn] at hj
      simpa using hj.symm
    subst es
    obtain ⟨h0, h1, _⟩ := hfx j hjn
    refine ⟨_, rfl, k24_mk W (f j), fun i u hu => ?_⟩
    match i, hu with
    | 0, hu => obtain rfl := by simpa using hu
               exact h0
    | 1, hu => obtain rfl := by simpa using hu
               exact h1
    | i + 2, hu => simp at hu
set_option maxRecDepth 100000 in
theorem open_claim {H : Type} {enc : TypeId × Value → H} {W : World} {b0 base : Nat} {v : Value} {d : DataW H} {p : List MemPlace}
    (hval : Value.okWide Tryz.prog W .any b0 24 v) (h : DataW.Trod enc Tryz.prog W base (fun _ => true) true 24 v d p) : ∃ a b, v = .agg #[.int .i64 a, .int .i64 b] := by
  obtain ⟨v0, v1, y0, y1, n, rfl, _, _, t0, t1⟩ := Go.Joins.open_agg2 Tryz.underlying24 (by kernel_rfl) (by kernel_rfl) hval h
  obtain ⟨z0, e0, _⟩ := DataW.trod_int Tryz.underlying3 t0
  obtain ⟨z1, e1, _⟩ := DataW.trod_int Tryz.underlying3 t1
  simp at e0 e1
  subst e0 e1
  exact ⟨z0, z1, rfl⟩
end Go.Proofs.YtocadlecfddbcaaGreatDoor
