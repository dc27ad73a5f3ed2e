/- The plain law of CatchupTrusts: what the printed functions compute is true. -/
import Derived.Test.YtocadlecfddbcaaDoorQCatchupTrustsx4
namespace Go.Proofs.YtocadlecfddbcaaDoor.QCatchupTrusts
open Go.RowKit Go.Proofs.YtocadlecfddbcaaDoorW.PrintWords Go.Proofs.YtocadlecfddbcaaDoorW.PrintLast Go.Proofs.YtocadlecfddbcaaDoorW.PrintMore

theorem sane_true : trustquorumlaw42_sane.f 50 = some true := by decide +kernel

theorem wrap64_small {x : Int} (h0 : -9223372036854775808 ≤ x) (h1 : x < 9223372036854775808) : wrap64 x = x := by unfold wrap64; omega

theorem N_ok (L : List Int) (a n : Int) (h0 : 0 ≤ a) (h1 : a ≤ L.length) (hL : L.length ≤ 1000000) (hn : 1 ≤ n) (hn2 : n ≤ 1000000) :
    ∃ v a', trustquorumplay_Src_N.f L a n = some (v, a') ∧ 0 ≤ v ∧ v < n ∧ 0 ≤ a' ∧ a' ≤ L.length := by
  unfold trustquorumplay_Src_N.f
  by_cases c1 : a ≥ (L.length : Int)
  · rw [if_pos c1]; exact ⟨0, a, rfl, by omega, by omega, h0, h1⟩
  · rw [if_neg c1, if_neg (by omega)]
    have e1 : wrap64 (a + 1) = a + 1 := wrap64_small (by omega) (by omega)
    have e2 : wrap64 (wrap64 (a + 1) - 1) = a := by rw [e1]; exact (wrap64_small (by omega) (by omega)).trans (by omega)
    rw [e2, if_pos (by omega), if_pos (by omega), if_neg (by omega), e1]
    have hx := Int.tmod_lt_of_pos (rd L a) (show 0 < n by omega)
    have hx2 : -n < Int.tmod (rd L a) n := by
      have h_ := Int.natAbs_tmod (rd L a) n
      have h2 := Nat.mod_lt (rd L a).natAbs (show 0 < n.natAbs by omega)
      omega
    rw [wrap64_small (by omega) (by omega)]
    exact ⟨_, _, rfl, Int.tmod_nonneg _ (by omega), Int.tmod_lt_of_pos _ (by omega), by omega, by omega⟩
theorem Range_ok (L : List Int) (a lo hi : Int) (h0 : 0 ≤ a) (h1 : a ≤ L.length) (hL : L.length ≤ 1000000) (hn : lo ≤ hi) (hl : 0 ≤ lo) (hn2 : hi < 1000000) :
    ∃ v a', trustquorumplay_Src_Range.f L a lo hi = some (v, a') ∧ lo ≤ v ∧ v ≤ hi ∧ 0 ≤ a' ∧ a' ≤ L.length := by
  unfold trustquorumplay_Src_Range.f
  have e1 : wrap64 (wrap64 (hi - lo) + 1) = hi - lo + 1 := by rw [wrap64_small (x := hi - lo) (by omega) (by omega)]; exact wrap64_small (by omega) (by omega)
  rw [e1]
  obtain ⟨v, a', hN, hv0, hv1, ha0, ha1⟩ := N_ok L a (hi - lo + 1) h0 h1 hL (by omega) (by omega)
  rw [hN]
  simp only [Option.bind_some]
  rw [wrap64_small (by omega) (by omega)]
  exact ⟨_, _, rfl, by omega, by omega, ha0, ha1⟩

/-! ### the program's Satisfied and the reference's are one -/
theorem below_eq (s : Int) : nodeset_Valid.f s = some (decide (0 ≤ s) && decide (s ≤ 1023)) := by
  have e : shl .i64 1 10 = 1024 := by decide +kernel
  unfold nodeset_Valid.f nodeset_below.f
  rw [e]
  by_cases h : s ≥ 0
  · rw [if_pos h, if_pos (by omega), Option.bind_some]
    congr 1
    rw [Bool.eq_iff_iff]; simp; omega
  · rw [if_neg h, Option.bind_some]
    congr 1
    rw [Bool.eq_iff_iff]; simp; omega
theorem rvalid_eq (s : Int) : trustquorumref01_Valid.f s = some (decide (0 ≤ s) && decide (s ≤ 1023)) := by
  unfold trustquorumref01_Valid.f
  by_cases h : s ≥ 0
  · rw [if_pos h]; simp [h]
  · rw [if_neg h]; simp; omega
theorem valid_eq (s : Int) : nodeset_Valid.f s = trustquorumref01_Valid.f s := (below_eq s).trans (rvalid_eq s).symm
theorem has_bits : ∀ s : Fin 1024, ∀ n : Fin 10, ((Go.bits .and .i64 (s.val : Int) (shl .i64 1 (n.val : Int))) != 0) = ((Go.bits .and .i64 (shr .i64 (s.val : Int) (n.val : Int)) 1) == 1) := by decide +kernel
theorem has_eq (s n : Int) : nodeset_Has.f s n = trustquorumref01_Has.f s n := by
  unfold nodeset_Has.f trustquorumref01_Has.f
  rw [valid_eq, rvalid_eq]
  simp only [Option.bind_some]
  by_cases hs : 0 ≤ s ∧ s ≤ 1023
  · have ht : (decide (0 ≤ s) && decide (s ≤ 1023)) = true := by simpa using hs
    simp only [ht, if_true]
    by_cases h0 : 0 ≤ n
    · by_cases h1 : n < 10
      · simp only [ge_iff_le, h0, h1, if_true]
        have h := has_bits ⟨s.toNat, by omega⟩ ⟨n.toNat, by omega⟩
        have e1 : ((s.toNat : Nat) : Int) = s := by omega
        have e2 : ((n.toNat : Nat) : Int) = n := by omega
        simp only [e1, e2] at h
        rw [h]
      · simp only [ge_iff_le, h0, h1, if_true, if_false]
    · simp only [ge_iff_le, h0, if_false]
  · have ht : (decide (0 ≤ s) && decide (s ≤ 1023)) = false := by simpa using hs
    simp only [ht]
    rfl
theorem sat_eq : ∀ k, (∀ a b c d, threshold_Satisfied.f k a b c d = trustquorumref02_Satisfied.f k a b c d) ∧ (∀ a b c d e f g h, threshold_Satisfied.l0 k a b c d e f g h = trustquorumref02_Satisfied.l0 k a b c d e f g h) ∧ (∀ a b c d e f g h, threshold_Satisfied.l1 k a b c d e f g h = trustquorumref02_Satisfied.l1 k a b c d e f g h)
  | 0 => ⟨fun _ _ _ _ => rfl, fun _ _ _ _ _ _ _ _ => rfl, fun _ _ _ _ _ _ _ _ => rfl⟩
  | k + 1 => by
    obtain ⟨i0, i1, i2⟩ := sat_eq k
    refine ⟨fun a b c d => ?_, fun a b c d e f g h => ?_, fun a b c d e f g h => ?_⟩
    · simp only [threshold_Satisfied.f, trustquorumref02_Satisfied.f, valid_eq, i1]
    · simp only [threshold_Satisfied.l0, trustquorumref02_Satisfied.l0, has_eq, i1, i2]
    · simp only [threshold_Satisfied.l1, trustquorumref02_Satisfied.l1, i0, i2]

/-! ### Satisfied ends -/
theorem rvalid_some (s : Int) : ∃ b, trustquorumref01_Valid.f s = some b := ⟨_, rvalid_eq s⟩
theorem rhas_some (s n : Int) : ∃ b, trustquorumref01_Has.f s n = some b := by
  unfold trustquorumref01_Has.f
  rw [rvalid_eq]
  simp only [Option.bind_some]
  split
  · split
    · split
      · exact ⟨_, rfl⟩
      · exact ⟨_, rfl⟩
    · exact ⟨_, rfl⟩
  · exact ⟨_, rfl⟩
/-- The second loop, over inner trusts that end. -/
theorem l1_ends (s : Int) (t0 : Int) (t1 : List Int) (ts : List S27) (hlen : ts.length ≤ 1000) (hin : ∀ x ∈ ts, ∃ r, Ev (fun k => trustquorumref02_Satisfied.f k x.f0 x.f1 x.f2 s) r) (d : Nat) :
    ∀ (i n : Int), 0 ≤ i → (ts.length : Int) - i = d → ∃ r, Ev (fun k => trustquorumref02_Satisfied.l1 k s n ts (ts.length : Int) i t0 t1 ts) r := by
  induction d with
  | zero =>
    intro i n h0 hd
    exact ⟨decide (n ≥ t0), Ev.step (f := fun _ => some (decide (n ≥ t0))) (fun k => by simp only [trustquorumref02_Satisfied.l1]; rw [if_neg (by omega)]) (Ev.now _)⟩
  | succ d ih =>
    intro i n h0 hd
    have hi : i < (ts.length : Int) := by omega
    have hmem : rd_T27 ts i ∈ ts := by
      unfold rd_T27
      have : i.toNat < ts.length := by omega
      rw [List.getD_eq_getElem?_getD, List.getElem?_eq_getElem this]
      exact List.getElem_mem this
    obtain ⟨b, hb⟩ := hin _ hmem
    have hw : wrap64 (i + 1) = i + 1 := wrap64_small (by omega) (by omega)
    obtain ⟨r1, h1⟩ := ih (i + 1) (wrap64 (n + 1)) (by omega) (by omega)
    obtain ⟨r2, h2⟩ := ih (i + 1) n (by omega) (by omega)
    refine ⟨if b then r1 else r2, Ev.step (fun k => by simp only [trustquorumref02_Satisfied.l1]; rw [if_pos hi, if_pos h0, if_pos hi, hw]) ?_⟩
    refine Ev.bind hb ?_
    cases b
    · exact h2
    · exact h1
theorem l0_ends (s : Int) (t0 : Int) (t1 : List Int) (ts : List S27) (hlen1 : t1.length ≤ 1000) (hlen : ts.length ≤ 1000) (hin : ∀ x ∈ ts, ∃ r, Ev (fun k => trustquorumref02_Satisfied.f k x.f0 x.f1 x.f2 s) r) (d : Nat) :
    ∀ (i n : Int), 0 ≤ i → (t1.length : Int) - i = d → ∃ r, Ev (fun k => trustquorumref02_Satisfied.l0 k s n t1 (t1.length : Int) i t0 t1 ts) r := by
  induction d with
  | zero =>
    intro i n h0 hd
    obtain ⟨r, hr⟩ := l1_ends s t0 t1 ts hlen hin ts.length 0 n (by omega) (by omega)
    exact ⟨r, Ev.step (fun k => by simp only [trustquorumref02_Satisfied.l0]; rw [if_neg (by omega)]) hr⟩
  | succ d ih =>
    intro i n h0 hd
    have hi : i < (t1.length : Int) := by omega
    obtain ⟨b, hb⟩ := rhas_some s (rd t1 i)
    have hw : wrap64 (i + 1) = i + 1 := wrap64_small (by omega) (by omega)
    obtain ⟨r1, h1⟩ := ih (i + 1) (wrap64 (n + 1)) (by omega) (by omega)
    obtain ⟨r2, h2⟩ := ih (i + 1) n (by omega) (by omega)
    cases b
    · exact ⟨r2, Ev.step (fun k => by simp only [trustquorumref02_Satisfied.l0]; rw [if_pos hi, if_pos h0, if_pos hi, hw, hb]; simp only [Option.bind_some]; rw [if_neg (by decide)]) h2⟩
    · exact ⟨r1, Ev.step (fun k => by simp only [trustquorumref02_Satisfied.l0]; rw [if_pos hi, if_pos h0, if_pos hi, hw, hb]; simp only [Option.bind_some, if_true]) h1⟩
theorem sat_ends (s : Int) (t0 : Int) (t1 : List Int) (ts : List S27) (hlen1 : t1.length ≤ 1000) (hlen : ts.length ≤ 1000) (hin : ∀ x ∈ ts, ∃ r, Ev (fun k => trustquorumref02_Satisfied.f k x.f0 x.f1 x.f2 s) r) :
    ∃ r, Ev (fun k => trustquorumref02_Satisfied.f k t0 t1 ts s) r := by
  obtain ⟨b, hb⟩ := rvalid_some s
  cases b
  · exact ⟨false, Ev.step (f := fun _ => some false) (fun k => by simp only [trustquorumref02_Satisfied.f]; rw [hb]; rfl) (Ev.now _)⟩
  · obtain ⟨r, hr⟩ := l0_ends s t0 t1 ts hlen1 hlen hin t1.length 0 0 (by omega) (by omega)
    exact ⟨r, Ev.step (fun k => by simp only [trustquorumref02_Satisfied.f]; rw [hb]; rfl) hr⟩
/-- A trust such as the statement makes: few entries, and inner ones without inner ones. -/
def Few (t1 : List Int) (ts : List S27) : Prop := t1.length ≤ 1000 ∧ ts.length ≤ 1000 ∧ ∀ x ∈ ts, x.f1.length ≤ 1000 ∧ x.f2 = []
theorem few_ends (s : Int) (t0 : Int) {t1 : List Int} {ts : List S27} (h : Few t1 ts) : ∃ r, Ev (fun k => trustquorumref02_Satisfied.f k t0 t1 ts s) r :=
  sat_ends s t0 t1 ts h.1 h.2.1 fun x hx => by
    obtain ⟨a, b⟩ := h.2.2 x hx
    rw [b]
    exact sat_ends s x.f0 x.f1 [] a (by simp) (by simp)

/-! ### the trust that is made -/
theorem j2_ok (L : List Int) (a : Int) (t0 : Int) (t1 : List Int) (ts : List S27) (h0 : 0 ≤ a) (h1 : a ≤ L.length) (hL : L.length ≤ 1000) (hF : Few t1 ts) :
    ∃ u a', Ev (fun k => trustquorumplay_Src_Trust.j2 k L a t0 t1 ts) (u, t1, ts, a') ∧ 0 ≤ a' ∧ a' ≤ L.length := by
  obtain ⟨l1, l2, _⟩ := hF
  have e1 : wrap64 ((t1.length : Int) + (ts.length : Int)) = (t1.length : Int) + (ts.length : Int) := wrap64_small (by omega) (by omega)
  obtain ⟨m, hm⟩ : ∃ m : Int, m = (t1.length : Int) + (ts.length : Int) := ⟨_, rfl⟩
  have hm0 : 0 ≤ m ∧ m ≤ 2000 := by omega
  have e2 : wrap64 (m + 1) = m + 1 := wrap64_small (by omega) (by omega)
  have e3 : wrap64 (Int.tdiv (m + 1) 2) = (m + 1) / 2 := by rw [Int.tdiv_eq_ediv_of_nonneg (by omega)]; exact wrap64_small (by omega) (by omega)
  obtain ⟨v, a1, hR, _, _, ha0, ha1⟩ := Range_ok L a ((m + 1) / 2) m h0 h1 (by omega) (by omega) (by omega) (by omega)
  obtain ⟨q, a2, hN, _, _, hb0, hb1⟩ := N_ok L a1 6 ha0 ha1 (by omega) (by omega) (by omega)
  have hall : ∀ k, trustquorumplay_Src_Trust.j2 (k + 1) L a t0 t1 ts = if q = 5 then some (1, t1, ts, a2) else some (v, t1, ts, a2) := fun k => by
    simp only [trustquorumplay_Src_Trust.j2]
    rw [e1, ← hm, e2, e3, hR]
    simp only [Option.bind_some]
    rw [hN]
    simp only [Option.bind_some]
  by_cases h5 : q = 5
  · exact ⟨1, a2, Ev.step (f := fun _ => some (1, t1, ts, a2)) (fun k => by rw [hall, if_pos h5]) (Ev.now _), hb0, hb1⟩
  · exact ⟨v, a2, Ev.step (f := fun _ => some (v, t1, ts, a2)) (fun k => by rw [hall, if_neg h5]) (Ev.now _), hb0, hb1⟩
theorem j1_ok (L : List Int) (a n : Int) (t0 : Int) (t1 : List Int) (h0 : 0 ≤ a) (h1 : a ≤ L.length) (hL : L.length ≤ 1000) (hn : 1 ≤ n) (hn2 : n ≤ 100) (hl : t1.length ≤ 1000) :
    ∃ u ts a', Ev (fun k => trustquorumplay_Src_Trust.j1 k n L a t0 t1) (u, t1, ts, a') ∧ Few t1 ts ∧ 0 ≤ a' ∧ a' ≤ L.length := by
  obtain ⟨q, a1, hN, _, _, ha0, ha1⟩ := N_ok L a 4 h0 h1 (by omega) (by omega) (by omega)
  by_cases h3 : q = 3
  · obtain ⟨z, a2, hN2, _, _, hb0, hb1⟩ := N_ok L a1 n ha0 ha1 (by omega) hn (by omega)
    have hF : Few t1 [(⟨1, [z], []⟩ : S27)] := ⟨hl, by simp, by simp⟩
    obtain ⟨u, a3, hE, hc0, hc1⟩ := j2_ok L a2 t0 t1 [(⟨1, [z], []⟩ : S27)] hb0 hb1 hL hF
    refine ⟨u, _, a3, Ev.step (fun k => ?_) hE, hF, hc0, hc1⟩
    simp only [trustquorumplay_Src_Trust.j1]
    rw [hN]
    simp only [Option.bind_some]
    rw [if_pos h3, hN2]
    simp only [Option.bind_some]
    rw [if_pos (by decide)]
    rfl
  · have hF : Few t1 [] := ⟨hl, by simp, by simp⟩
    obtain ⟨u, a3, hE, hc0, hc1⟩ := j2_ok L a1 t0 t1 [] ha0 ha1 hL hF
    refine ⟨u, _, a3, Ev.step (fun k => ?_) hE, hF, hc0, hc1⟩
    simp only [trustquorumplay_Src_Trust.j1]
    rw [hN]
    simp only [Option.bind_some]
    rw [if_neg h3]
theorem tl0_ok (L : List Int) (n : Int) (t0 : Int) (hL : L.length ≤ 1000) (hn : 1 ≤ n) (hn2 : n ≤ 100) (d : Nat) :
    ∀ (a i : Int) (t1 : List Int), 0 ≤ a → a ≤ L.length → 0 ≤ i → n - i = d → (t1.length : Int) ≤ i →
    ∃ u t1' ts a', Ev (fun k => trustquorumplay_Src_Trust.l0 k n i L a t0 t1) (u, t1', ts, a') ∧ Few t1' ts ∧ 0 ≤ a' ∧ a' ≤ L.length := by
  induction d with
  | zero =>
    intro a i t1 h0 h1 hi hd hl
    by_cases he : (t1.length : Int) = 0
    · obtain ⟨z, a1, hN, _, _, ha0, ha1⟩ := N_ok L a n h0 h1 (by omega) hn (by omega)
      obtain ⟨u, ts, a2, hE, hF, hb0, hb1⟩ := j1_ok L a1 n t0 [z] ha0 ha1 hL hn hn2 (by simp)
      refine ⟨u, _, ts, a2, Ev.step (fun k => ?_) hE, hF, hb0, hb1⟩
      simp only [trustquorumplay_Src_Trust.l0]
      rw [if_neg (by omega), if_pos he, hN]
      rfl
    · obtain ⟨u, ts, a2, hE, hF, hb0, hb1⟩ := j1_ok L a n t0 t1 h0 h1 hL hn hn2 (by omega)
      refine ⟨u, _, ts, a2, Ev.step (fun k => ?_) hE, hF, hb0, hb1⟩
      simp only [trustquorumplay_Src_Trust.l0]
      rw [if_neg (by omega), if_neg he]
  | succ d ih =>
    intro a i t1 h0 h1 hi hd hl
    obtain ⟨q, a1, hN, _, _, ha0, ha1⟩ := N_ok L a 5 h0 h1 (by omega) (by omega) (by omega)
    have hw : wrap64 (i + 1) = i + 1 := wrap64_small (by omega) (by omega)
    by_cases hq : q > 0
    · obtain ⟨u, t1', ts, a2, hE, hF, hb0, hb1⟩ := ih a1 (i + 1) (t1 ++ [i]) ha0 ha1 (by omega) (by omega) (by simp; omega)
      refine ⟨u, t1', ts, a2, Ev.step (fun k => ?_) hE, hF, hb0, hb1⟩
      simp only [trustquorumplay_Src_Trust.l0]
      rw [if_pos (by omega), hN]
      simp only [Option.bind_some]
      rw [if_pos hq, if_pos (by omega), hw]
    · obtain ⟨u, t1', ts, a2, hE, hF, hb0, hb1⟩ := ih a1 (i + 1) t1 ha0 ha1 (by omega) (by omega) (by omega)
      refine ⟨u, t1', ts, a2, Ev.step (fun k => ?_) hE, hF, hb0, hb1⟩
      simp only [trustquorumplay_Src_Trust.l0]
      rw [if_pos (by omega), hN]
      simp only [Option.bind_some]
      rw [if_neg hq, hw]
theorem Trust_ok (L : List Int) (a : Int) (h0 : 0 ≤ a) (h1 : a ≤ L.length) (hL : L.length ≤ 1000) :
    ∃ u t1 ts a', Ev (fun k => trustquorumplay_Src_Trust.f k L a 5) (u, t1, ts, a') ∧ Few t1 ts ∧ 0 ≤ a' ∧ a' ≤ L.length :=
  tl0_ok L 5 0 hL (by omega) (by omega) 5 a 0 [] h0 h1 (by omega) (by omega) (by simp)

/-! ### the law -/
theorem thr_ev {s t0 : Int} {t1 : List Int} {ts : List S27} {r : Bool} (h : Ev (fun k => trustquorumref02_Satisfied.f k t0 t1 ts s) r) : Ev (fun k => threshold_Satisfied.f k t0 t1 ts s) r := Ev.congr (fun k => (sat_eq k).1 t0 t1 ts s) h
/-- From some round on all of finitely many calls have ended. -/
theorem ends_all (t0 : Int) {t1 : List Int} {ts : List S27} (h : Few t1 ts) (xs : List Int) : ∃ K, ∀ k, K ≤ k → ∀ s ∈ xs, (threshold_Satisfied.f k t0 t1 ts s).isSome = true := by
  induction xs with
  | nil => exact ⟨0, fun _ _ _ h => by cases h⟩
  | cons x xs ih =>
    obtain ⟨K, hK⟩ := ih
    obtain ⟨r, hr⟩ := few_ends x t0 h
    obtain ⟨K2, hK2⟩ := thr_ev hr
    refine ⟨max K K2, fun k hk s hs => ?_⟩
    rcases List.mem_cons.1 hs with rfl | hs
    · have h_ : threshold_Satisfied.f k t0 t1 ts s = some r := hK2 k (by omega)
      show (threshold_Satisfied.f k t0 t1 ts s).isSome = true
      rw [h_]; rfl
    · exact hK k (by omega) s hs
/-- What Trusted answers: a link that the nodes that say it satisfy, or none. -/
theorem Trusted_ev (l : List Int) (t0 : Int) {t1 : List Int} {ts : List S27} (h : Few t1 ts) (hr : ∀ x ∈ l.take 10, 0 ≤ x ∧ x < 18446744073709551616) :
    ∃ x ok, Ev (fun k => catchup_Trusted.f k l t0 t1 ts) (x, ok) ∧ (ok = true → x ∈ keysOf l ∧ Ev (fun k => trustquorumref02_Satisfied.f k t0 t1 ts (maskOf l x (nOf l))) true) ∧ (ok = false → ∀ y ∈ keysOf l, Ev (fun k => trustquorumref02_Satisfied.f k t0 t1 ts (maskOf l y (nOf l))) false) := by
  obtain ⟨K, hK⟩ := ends_all t0 h ((keysOf l).map fun x => maskOf l x (nOf l))
  have hsome : (catchup_Trusted.f K l t0 t1 ts).isSome = true := by
    unfold catchup_Trusted.f
    rw [if_pos ⟨hr, fun x hx => hK K (Nat.le_refl _) _ (List.mem_map.2 ⟨x, hx, rfl⟩)⟩]
    split <;> rfl
  obtain ⟨r, hr1⟩ := Option.isSome_iff_exists.1 hsome
  obtain ⟨x, ok⟩ := r
  have hm := f_some hr1
  have ev : ∀ y ∈ keysOf l, Ev (fun k => trustquorumref02_Satisfied.f k t0 t1 ts (maskOf l y (nOf l))) (catchup_Trusted.sat K l t0 t1 ts y) := fun y hy =>
    Ev.congr (fun k => ((sat_eq k).1 t0 t1 ts _).symm) (Ev.of (threshold_Satisfied.mono _ _ _ _) (f_sat hr1 y hy))
  refine ⟨x, ok, Ev.of (catchup_Trusted.mono _ _ _ _) hr1, fun ho => ?_, fun ho y hy => ?_⟩
  · subst ho
    cases e : ((keysOf l).filter (catchup_Trusted.sat K l t0 t1 ts)).min? with
    | none => rw [e] at hm; simp at hm
    | some m =>
      rw [e] at hm
      simp only [Option.some.injEq, Prod.mk.injEq, and_true] at hm
      subst hm
      have h1 := List.mem_filter.1 (List.min?_mem e)
      have h2 := ev m h1.1
      rw [h1.2] at h2
      exact ⟨h1.1, h2⟩
  · subst ho
    cases e : ((keysOf l).filter (catchup_Trusted.sat K l t0 t1 ts)).min? with
    | some m => rw [e] at hm; simp at hm
    | none =>
      have h1 := List.min?_eq_none_iff.1 e
      have h2 := ev y hy
      have h3 : catchup_Trusted.sat K l t0 t1 ts y = false := by
        cases h4 : catchup_Trusted.sat K l t0 t1 ts y with
        | false => rfl
        | true => exact absurd (List.mem_filter.2 ⟨hy, h4⟩) (by rw [h1]; simp)
      rw [h3] at h2
      exact h2
theorem j2_true (t0 : Int) {t1 : List Int} {ts : List S27} (h : Few t1 ts) : Ev (fun k => trustquorumlaw42_CatchupTrusts.j2 k false t0 t1 ts) true := by
  obtain ⟨x, ok, hE, hy, hn⟩ := Trusted_ev [9, 9, 9, 9, 9] t0 h (by decide)
  have hsane : Ev (fun k => trustquorumlaw42_sane.f k) true := Ev.of trustquorumlaw42_sane.mono sane_true
  have hsane' : Ev (fun k => (trustquorumlaw42_sane.f k).bind fun t => some t) true := Ev.bind hsane (Ev.now _)
  have hk9 : ∀ y ∈ keysOf [9, 9, 9, 9, 9], y = 9 := by decide
  refine Ev.step (f := fun k => (catchup_Trusted.f k (([9, 9, 9, 9, 9] : List Int)) t0 t1 ts).bind fun bt191 => ((trustquorumref02_Satisfied.f k t0 t1 ts 31).bind fun t193 => (if (bt191.2 == t193) = true then (if bt191.2 = true then (if bt191.1 = 9 then ((trustquorumlaw42_sane.f k).bind fun t194 => (some t194)) else (some false)) else ((trustquorumlaw42_sane.f k).bind fun t195 => (some t195))) else (some false)))) (fun k => by simp only [trustquorumlaw42_CatchupTrusts.j2]; rw [if_neg (by decide)]) ?_
  refine Ev.bind hE ?_
  cases ok
  · have h2 := hn rfl 9 (by decide)
    refine Ev.bind (show Ev (fun k => trustquorumref02_Satisfied.f k t0 t1 ts 31) false from h2) ?_
    exact hsane'
  · obtain ⟨h1, h2⟩ := hy rfl
    obtain rfl := hk9 x h1
    refine Ev.bind (show Ev (fun k => trustquorumref02_Satisfied.f k t0 t1 ts 31) true from h2) ?_
    exact hsane'
/-- What the law's second loop gathers: who has said x. -/
theorem l1_ok (x : Int) (l : List Int) (hl : l.length = 5) (t0 : Int) {t1 : List Int} {ts : List S27} (h : Few t1 ts) (ok : Bool) (hx0 : ok = true → x ≠ 0) (hE : ok = true → Ev (fun k => trustquorumref02_Satisfied.f k t0 t1 ts (maskOf l x 5)) true) (d : Nat) :
    ∀ (i : Nat), 5 - i = d → i ≤ 5 → Ev (fun k => trustquorumlaw42_CatchupTrusts.l1 k x ok (if ok = true then maskOf l x i else 0) l (l.length : Int) (i : Int) t0 t1 ts) true := by
  induction d with
  | zero =>
    intro i hd hi
    obtain rfl : i = 5 := by omega
    cases ok
    · refine Ev.step (fun k => ?_) (j2_true t0 h)
      simp only [trustquorumlaw42_CatchupTrusts.l1]
      rw [if_neg (by omega), if_neg (by decide)]
    · refine Ev.step (f := fun k => (trustquorumref02_Satisfied.f k t0 t1 ts (maskOf l x 5)).bind fun t187 => (trustquorumlaw42_CatchupTrusts.j2 k (!t187) t0 t1 ts)) (fun k => ?_) ?_
      · simp only [trustquorumlaw42_CatchupTrusts.l1]
        rw [if_neg (by omega)]
        simp only [if_true]
        rw [if_neg (hx0 rfl)]
      · exact Ev.bind (hE rfl) (j2_true t0 h)
  | succ d ih =>
    intro i hd hi
    have hw : wrap64 ((i : Int) + 1) = ((i + 1 : Nat) : Int) := by rw [wrap64_small (by omega) (by omega)]; omega
    have ih' := ih (i + 1) (by omega) (by omega)
    cases ok
    · refine Ev.step (fun k => ?_) ih'
      simp only [trustquorumlaw42_CatchupTrusts.l1]
      rw [if_pos (by omega), if_pos (by omega), if_pos (by omega), hw]
      rfl
    · by_cases hxi : rd l (i : Int) = x
      · refine Ev.step (fun k => ?_) ih'
        have hu : IntKind.u64.wrap (i : Int) = (i : Int) := by simp [IntKind.wrap, IntKind.bits, IntKind.signed]; omega
        have hs : shl .i64 1 (i : Int) = IntKind.i64.wrap (2 ^ i) := by
          unfold shl
          rw [Int.toNat_natCast, Nat.min_eq_left (show i ≤ IntKind.i64.bits by show i ≤ 64; omega), Int.one_mul]
        simp only [trustquorumlaw42_CatchupTrusts.l1, if_true]
        rw [if_pos (by omega), if_pos (by omega), if_pos (by omega), if_pos hxi, hu, if_pos (by omega), hw, hs, mask_or l x i (by omega) (by unfold rd at hxi; rwa [Int.toNat_natCast] at hxi)]
      · refine Ev.step (fun k => ?_) ih'
        have hm : maskOf l x (i + 1) = maskOf l x i := by unfold maskOf; rw [maskN, if_neg (by unfold rd at hxi; rwa [Int.toNat_natCast] at hxi)]
        simp only [trustquorumlaw42_CatchupTrusts.l1, if_true]
        rw [if_pos (by omega), if_pos (by omega), if_pos (by omega), if_neg hxi, hw, hm]
theorem l0_ok (L : List Int) (hL : L.length ≤ 1000) (t0 : Int) {t1 : List Int} {ts : List S27} (h : Few t1 ts) (d : Nat) :
    ∀ (a : Int) (l : List Int), 0 ≤ a → a ≤ L.length → 5 - l.length = d → l.length ≤ 5 → (∀ x ∈ l, 0 ≤ x ∧ x < 4) → Ev (fun k => trustquorumlaw42_CatchupTrusts.l0 k l (l.length : Int) L a t0 t1 ts) true := by
  induction d with
  | zero =>
    intro a l h0 h1 hd hl hx
    have hl5 : l.length = 5 := by omega
    have ht : l.take 10 = l := List.take_of_length_le (by omega)
    have hn5 : nOf l = 5 := by unfold nOf; omega
    obtain ⟨x, ok, hE, hy, _⟩ := Trusted_ev l t0 h (by rw [ht]; exact fun x hx' => ⟨(hx x hx').1, by have := (hx x hx').2; omega⟩)
    rw [hn5] at hy
    refine Ev.step (f := fun k => (catchup_Trusted.f k l t0 t1 ts).bind fun bt184 => (trustquorumlaw42_CatchupTrusts.l1 k bt184.1 bt184.2 0 l (l.length : Int) 0 t0 t1 ts)) (fun k => ?_) ?_
    · simp only [trustquorumlaw42_CatchupTrusts.l0]
      rw [if_neg (by omega)]
    · refine Ev.bind hE ?_
      have hl1 := l1_ok x l hl5 t0 h ok (fun ho => ((mem_keysOf l x).1 (hy ho).1).1) (fun ho => (hy ho).2) 5 0 (by omega) (by omega)
      have e0 : (if ok = true then maskOf l x 0 else 0) = 0 := by split <;> rfl
      rw [e0] at hl1
      exact hl1
  | succ d ih =>
    intro a l h0 h1 hd hl hx
    obtain ⟨v, a1, hN, hv0, hv1, ha0, ha1⟩ := N_ok L a 4 h0 h1 (by omega) (by omega) (by omega)
    have hu : IntKind.u64.wrap v = v := by simp [IntKind.wrap, IntKind.bits, IntKind.signed]; omega
    have hw : wrap64 ((l.length : Int) + 1) = ((l ++ [v]).length : Int) := by rw [wrap64_small (by omega) (by omega)]; simp
    refine Ev.step (fun k => ?_) (ih a1 (l ++ [v]) ha0 ha1 (by simp; omega) (by simp; omega) (fun x hx' => by
      rcases List.mem_append.1 hx' with q | q
      · exact hx x q
      · simp at q; subst q; exact ⟨hv0, hv1⟩))
    simp only [trustquorumlaw42_CatchupTrusts.l0]
    rw [if_pos (by omega), hN]
    simp only [Option.bind_some]
    rw [if_pos (by omega), hu, hw]
end Go.Proofs.YtocadlecfddbcaaDoor.QCatchupTrusts
namespace Go.Proofs.YtocadlecfddbcaaDoor.Pure
open Go.RowKit Go.Proofs.YtocadlecfddbcaaDoor.QCatchupTrusts Go.Proofs.YtocadlecfddbcaaDoorW.PrintWords Go.Proofs.YtocadlecfddbcaaDoorW.PrintLast Go.Proofs.YtocadlecfddbcaaDoorW.PrintMore
theorem CatchupTrusts : trustquorumlaw42_CatchupTrusts.Pure := by
  intro l0 _ _ _
  obtain ⟨n, hn, hn0, hn1⟩ : ∃ n : Int, mn (l0.length : Int) 800 = n ∧ 0 ≤ n ∧ (n ≤ l0.length ∧ n ≤ 800) := ⟨_, rfl, by unfold mn; split <;> omega, by unfold mn; split <;> omega⟩
  have hNew : trustquorumplay_New.f l0 = some (l0.take n.toNat, 0) := by
    unfold trustquorumplay_New.f
    rw [hn, if_pos hn0, if_pos hn1.1]
  have hlen : (l0.take n.toNat).length ≤ 1000 := by rw [List.length_take]; omega
  obtain ⟨u, t1, ts, a', hE, hF, ha0, ha1⟩ := Trust_ok (l0.take n.toNat) 0 (by omega) (by omega) hlen
  have hlaw := l0_ok (l0.take n.toNat) hlen u hF 5 a' [] ha0 ha1 (by simp) (by simp) (by simp)
  refine Ev.rounds (g := fun k => trustquorumlaw42_CatchupTrusts.f k l0) (r := true) ?_
  refine Ev.congr (f := fun k => (trustquorumplay_Src_Trust.f k (l0.take n.toNat) 0 5).bind fun bt170 => (trustquorumlaw42_CatchupTrusts.l0 k ([] : List Int) 0 (l0.take n.toNat) bt170.2.2.2 bt170.1 bt170.2.1 bt170.2.2.1)) (fun k => ?_) (Ev.bind hE hlaw)
  show trustquorumlaw42_CatchupTrusts.f k l0 = _
  unfold trustquorumlaw42_CatchupTrusts.f
  rw [hNew]
  rfl
end Go.Proofs.YtocadlecfddbcaaDoor.Pure
