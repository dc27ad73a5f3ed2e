/- slices.DeleteFunc at claims.Sorted's predicate. -/
import Derived.Test.YtocadlecfddbcaaGreatDoorGSort0
namespace Go.Proofs.YtocadlecfddbcaaGreatDoor.QClaims
open Go.RowKit Go.Proofs.YtocadlecfddbcaaGreatDoorW.PrintWords Go.Proofs.YtocadlecfddbcaaGreatDoorW.PrintLast Go.Proofs.YtocadlecfddbcaaGreatDoorW.PrintMore
set_option linter.unusedVariables false
set_option linter.unusedSimpArgs false

/-- Rows read by Kd.C out of a block of one's own. -/
theorem RowB.reads {base : Nat} {w W : World} {g cap : Nat} {l : List S24} {rest : List Value} (h : RowB base w W g cap (encs l ++ rest)) : Kd.C k24 W (some ⟨g, 0, none⟩) l.length l := by
  refine ⟨rfl, ?_, fun _ => ⟨_, rfl, fun j p hj => ⟨_, rfl, k24_mk W p, fun i u hu => ?_⟩⟩⟩
  · have h1 := h.len
    have h2 := h.cap
    rw [List.length_append, encs_length] at h1
    unfold maxLen at h2
    omega
  · have hj' : j < l.length := (List.getElem?_eq_some_iff.1 hj).1
    have hp : rd_T24 l (j : Int) = p := by unfold rd_T24; rw [Int.toNat_natCast, List.getD_eq_getElem?_getD, hj]; rfl
    obtain ⟨h1, h2⟩ := encs_get l rest j hj'
    rw [hp] at h1 h2
    have e : (⟨g, 0, none⟩ : Addr).add (j * k24.sz + i) = ⟨g, j * 2 + i, none⟩ := by
      rw [show k24.sz = 2 from rfl]; unfold Addr.add; split <;> simp_all
    rw [e, h.cellAt]
    match i, hu with
    | 0, hu => rw [Nat.add_zero, h1]; exact hu
    | 1, hu => rw [h2]; exact hu
structure KInv (l dk : List S24) (i j : Nat) : Prop where
  len : dk.length = l.length
  lt : i < j
  le : j ≤ l.length
  done : dk.take i = (l.take j).filter okC
  left : ∀ q : Nat, j ≤ q → rd_T24 dk (q : Int) = rd_T24 l (q : Int)
theorem take_rd (l : List S24) (j : Nat) (h : j < l.length) : l.take (j + 1) = l.take j ++ [rd_T24 l (j : Int)] := by
  rw [List.take_add_one, List.getElem?_eq_getElem h]
  unfold rd_T24
  rw [Int.toNat_natCast, List.getD_eq_getElem?_getD, List.getElem?_eq_getElem h]
  rfl
theorem rd_set (l : List S24) (i q : Nat) (x : S24) (h : i < l.length) : rd_T24 (l.set i x) (q : Int) = if i = q then x else rd_T24 l (q : Int) := by
  unfold rd_T24
  simp only [Int.toNat_natCast, List.getD_eq_getElem?_getD, List.getElem?_set]
  split
  · subst_vars; simp [h]
  · rfl
theorem KInv.start {l : List S24} {k : Nat} (hk : k < l.length) (ha : ∀ j : Nat, j < k → okC (rd_T24 l (j : Int)) = true) (hf : okC (rd_T24 l (k : Int)) = false) : KInv l l k (k + 1) := by
  refine ⟨rfl, by omega, hk, ?_, fun _ _ => rfl⟩
  rw [take_rd l k hk, List.filter_append, List.filter_eq_self.2 ?_]
  · simp [hf]
  · intro x hx
    obtain ⟨i, hi, rfl⟩ := List.mem_iff_getElem.1 hx
    have hi' : i < k := by simp at hi; omega
    have := ha i hi'
    unfold rd_T24 at this
    rw [Int.toNat_natCast, List.getD_eq_getElem?_getD, List.getElem?_eq_getElem (by omega)] at this
    simpa using this
theorem KInv.skip {l dk : List S24} {i j : Nat} (h : KInv l dk i j) (hj : j < l.length) (hf : okC (rd_T24 l (j : Int)) = false) : KInv l dk i (j + 1) :=
  ⟨h.len, by have := h.lt; omega, hj, by rw [take_rd l j hj, List.filter_append, h.done]; simp [hf], fun q hq => h.left q (by omega)⟩
theorem KInv.keep {l dk : List S24} {i j : Nat} (h : KInv l dk i j) (hj : j < l.length) (hf : okC (rd_T24 l (j : Int)) = true) : KInv l (dk.set i (rd_T24 l (j : Int))) (i + 1) (j + 1) := by
  have h1 := h.lt
  have h2 := h.len
  refine ⟨by simpa using h.len, by omega, hj, ?_, fun q hq => ?_⟩
  · rw [take_rd l j hj, List.filter_append, ← h.done, take_rd _ i (by simp; omega), rd_set _ _ _ _ (by omega), List.take_set_of_le (Nat.le_refl _)]
    simp [hf]
  · rw [rd_set _ _ _ _ (by omega), if_neg (by omega)]
    exact h.left q (by omega)
theorem filter_take_len (l : List S24) (j : Nat) : ((l.take j).filter okC).length ≤ j := Nat.le_trans (List.length_filter_le _ _) (by simp; omega)

set_option maxRecDepth 100000 in
set_option maxHeartbeats 4000000 in
theorem del36_calls (base : Nat) (w0 w : World) (g cap : Nat) (l : List S24) (rest : List Value) (hR : RowB base w0 w g cap (encs l ++ rest)) (hB : base ≤ w.heap.size) (hl : l.length ≤ 1000000) (hcap : l.length ≤ cap) :
    Calls Tryz.prog 42 #[.slice (some ⟨g, 0, none⟩) l.length cap, .func (.func 44) #[] #[]] w fun e w' => e = .returned (.slice (some ⟨g, 0, none⟩) (l.filter okC).length cap) ∧ base ≤ w'.heap.size ∧ ∃ rest', RowB base w0 w' g cap (encs (l.filter okC) ++ rest') := by
  have hu52 := Tryz.underlying24
  have hi := idx_calls (some ⟨g, 0, none⟩) cap l w hR.reads hl
  have RR := Aside0.mk hR; clear hR
  have HBS := Aside0.mk hB; clear hB
  go_enter Tryz.func42, Tryz.ntmps42
  go_wp2_with (go_at_call 57; refine hi.mono ?_; rintro e w1 ⟨⟨i0, rfl, hix⟩, hb⟩)
  · have hc : (i0 == -1) = true := by assumption
    rcases hix with ⟨rfl, hall⟩ | ⟨k0, rfl, hk0, hb0, hf0⟩
    · go_ret
      rw [List.filter_eq_self.2 hall]
      exact ⟨rfl, Nat.le_trans HBS.out hb.size, rest, RR.out.step hb HBS.out⟩
    · exfalso; simp at hc
  · have hc : (i0 == -1) = false := by assumption
    rcases hix with ⟨rfl, hall⟩ | ⟨k0, rfl, hk0, hb0, hf0⟩
    · exfalso; simp at hc
    clear hc
    have R1 := Aside0.mk (RR.out.step hb HBS.out)
    have B1 := Aside0.mk (Nat.le_trans HBS.out hb.size)
    have I0 := Aside0.mk (KInv.start hk0 hb0 hf0)
    clear hb hb0 hf0 hi
    go_loopg [5, 6, 7] l.length (fun gg s5 s6 _ wr => ∃ (i j : Nat) (dk : List S24), s5 = .int .i64 i ∧ s6 = .int .i64 j ∧ j ≤ l.length ∧ l.length - j ≤ gg ∧ Aside0 (RowB base w0 wr g cap (encs dk ++ rest)) ∧ Aside0 (base ≤ wr.heap.size) ∧ Aside0 (KInv l dk i j))
    case atStart => exact ⟨k0, k0 + 1, l, rfl, by congr 1; unfold wrap64; omega, by omega, Nat.le_trans (Nat.sub_le _ _) (by omega), R1, B1, I0⟩
    case round =>
      obtain ⟨i, j, dk, rfl, rfl, hjd, hgg, RW, BW, I2⟩ := hrel
      have hij := I2.out.lt
      have hdl := I2.out.len
      by_cases hlt : j < l.length
      · have hltz : (j : Int) < (l.length : Int) := by omega
        obtain ⟨hx0, hx1⟩ := encs_get dk rest j (by omega)
        rw [I2.out.left j (Nat.le_refl _)] at hx0 hx1
        obtain ⟨x, hx⟩ : ∃ x, rd_T24 l (j : Int) = x := ⟨_, rfl⟩
        rw [hx] at hx0 hx1
        have HX := Aside0.mk hx; clear hx
        rw [← RW.out.cellAt] at hx0 hx1
        have hcall := del_calls x
        cases hq : okC x with
        | true =>
          rw [hq] at hcall
          have hw1 := Aside0.mk (RW.out.step (Below.refl _ _ |>.alloc (Nat.le_refl _) (.cells #[.int .i64 x.f0, .int .i64 x.f1] 24)) BW.out)
          go_wp2_with (go_at_call 44; refine (hcall _).mono ?_; rintro e w' ⟨rfl, hb'⟩; have c0 : w'.cell? ⟨wr.heap.size, 0, none⟩ = some (.int .i64 x.f0) := (hb'.cell (by simp)).trans (by go_simp); have c1 : w'.cell? ⟨wr.heap.size, 1, none⟩ = some (.int .i64 x.f1) := (hb'.cell (by simp)).trans (by go_simp); have B2 := Aside0.mk (Nat.le_trans (Nat.le_trans BW.out (by simp)) hb'.size); have R2 := Aside0.mk (hw1.out.step hb' (Nat.le_trans BW.out (by simp))); clear hb' hcall; have hr0 := R2.out.cellAt (i * 2); have hr1 := R2.out.cellAt (i * 2 + 1); have hf0 := R2.out.frozenAt (i * 2); have hf1 := R2.out.frozenAt (i * 2 + 1); rw [(encs_get dk rest i (by omega)).1] at hr0; rw [(encs_get dk rest i (by omega)).2] at hr1)
          go_roundg (l.length - (j + 1))
          case measure => omega
          case rel =>
            refine ⟨i + 1, j + 1, dk.set i x, by go_num, by go_num, by omega, Nat.le_refl _, ⟨?_⟩, ⟨?_⟩, ⟨?_⟩⟩
            · rw [← encs_set dk rest i x (by omega)]
              exact (R2.out.set _ _).set _ _
            · simpa using B2.out
            · have := I2.out.keep hlt (by rw [HX.out]; exact hq)
              rwa [HX.out] at this
        | false =>
          rw [hq] at hcall
          have hw1 := Aside0.mk (RW.out.step (Below.refl _ _ |>.alloc (Nat.le_refl _) (.cells #[.int .i64 x.f0, .int .i64 x.f1] 24)) BW.out)
          go_wp2_with (go_at_call 44; refine (hcall _).mono ?_; rintro e w' ⟨rfl, hb'⟩; have c0 : w'.cell? ⟨wr.heap.size, 0, none⟩ = some (.int .i64 x.f0) := (hb'.cell (by simp)).trans (by go_simp); have c1 : w'.cell? ⟨wr.heap.size, 1, none⟩ = some (.int .i64 x.f1) := (hb'.cell (by simp)).trans (by go_simp); have B2 := Aside0.mk (Nat.le_trans (Nat.le_trans BW.out (by simp)) hb'.size); have R2 := Aside0.mk (hw1.out.step hb' (Nat.le_trans BW.out (by simp))); clear hb' hcall; have hr0 := R2.out.cellAt (i * 2); have hr1 := R2.out.cellAt (i * 2 + 1); have hf0 := R2.out.frozenAt (i * 2); have hf1 := R2.out.frozenAt (i * 2 + 1); rw [(encs_get dk rest i (by omega)).1] at hr0; rw [(encs_get dk rest i (by omega)).2] at hr1)
          go_roundg (l.length - (j + 1))
          case measure => omega
          case rel => exact ⟨i, j + 1, dk, rfl, by go_num, by omega, Nat.le_refl _, R2, B2, ⟨I2.out.skip hlt (by rw [HX.out]; exact hq)⟩⟩
      · obtain rfl : j = l.length := by omega
        have hltz : ¬ (l.length : Int) < (l.length : Int) := by omega
        obtain ⟨W', hrun, cur', hR', ht'⟩ := RW.out.clear i (l.length - i) (cap - i) (by omega) (by omega) 0
        have RC := Aside0.mk hR'; clear hR'
        have TC := Aside0.mk ht'; clear ht'
        go_wp2
        go_ret
        have hd := I2.out.done
        rw [List.take_length] at hd
        have hil : (l.filter okC).length = i := by rw [← hd, List.length_take]; omega
        have ht := TC.out
        rw [encs_take dk rest i (by omega), hd] at ht
        refine ⟨by rw [hil]; rfl, Nat.le_trans RC.out.lo (Nat.le_of_lt RC.out.lt), cur'.drop (i * 2), ?_⟩
        rw [← ht, List.take_append_drop]
        exact RC.out
end Go.Proofs.YtocadlecfddbcaaGreatDoor.QClaims
