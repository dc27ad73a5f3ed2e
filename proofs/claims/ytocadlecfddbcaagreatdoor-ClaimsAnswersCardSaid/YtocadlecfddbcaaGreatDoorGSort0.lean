/- Rows of claims in a block of their own; slices.IndexFunc and slices.DeleteFunc at claims.Sorted's predicate. -/
import Derived.Test.YtocadlecfddbcaaGreatDoorGCompare
namespace Go.Proofs.YtocadlecfddbcaaGreatDoor.QClaims
open Go.RowKit Go.Proofs.YtocadlecfddbcaaGreatDoorW.PrintWords Go.Proofs.YtocadlecfddbcaaGreatDoorW.PrintLast Go.Proofs.YtocadlecfddbcaaGreatDoorW.PrintMore
set_option linter.unusedVariables false
set_option linter.unusedSimpArgs false

def okC (x : S24) : Bool := decide (0 ≤ x.f0 ∧ x.f0 < 8 ∧ 0 ≤ x.f1 ∧ x.f1 ≤ 15)
theorem valid_f (a b : Int) : claims_Valid.f a b = some (okC ⟨a, b⟩) := by
  unfold claims_Valid.f okC
  repeat' split
  all_goals simp_all
  all_goals omega
theorem del_calls (x : S24) (w : World) : Calls Tryz.prog 44 #[.agg #[.int .i64 x.f0, .int .i64 x.f1]] w fun e w' => e = .returned (.bool (!okC x)) ∧ Below w.heap.size w w' := by
  have hu52 := Tryz.underlying24
  have HV := fun w => claims_Valid.calls x.f0 x.f1 (okC x) w (valid_f _ _)
  go_enter Tryz.func44, Tryz.ntmps44
  go_wp2_with (go_at_call 9; refine (HV _).mono ?_; rintro e w' ⟨rfl, hb⟩)
  go_ret
  exact ⟨rfl, (Below.refl _ _).alloc (Nat.le_refl _) _ |>.trans (hb.mono (by simp))⟩

/-- What slices.IndexFunc answers: the first claim that is none. -/
def IdxIs (l : List S24) (i : Int) : Prop := (i = -1 ∧ ∀ x ∈ l, okC x = true) ∨ ∃ k : Nat, i = k ∧ k < l.length ∧ (∀ j : Nat, j < k → okC (rd_T24 l (j : Int)) = true) ∧ okC (rd_T24 l (k : Int)) = false
theorem mem_rd {l : List S24} {x : S24} (h : x ∈ l) : ∃ j : Nat, j < l.length ∧ rd_T24 l (j : Int) = x := by
  obtain ⟨i, hi, rfl⟩ := List.mem_iff_getElem.1 h
  exact ⟨i, hi, by unfold rd_T24; rw [Int.toNat_natCast, List.getD_eq_getElem?_getD, List.getElem?_eq_getElem hi]; rfl⟩
set_option maxHeartbeats 2000000 in
theorem idx_calls (A : Option Addr) (c : Nat) (l : List S24) (w : World) (hr0 : Kd.C k24 w A l.length l) (hl : l.length ≤ 1000000) :
    Calls Tryz.prog 57 #[.slice A l.length c, .func (.func 44) #[] #[]] w fun e w' => (∃ i : Int, e = .returned (.int .i64 i) ∧ IdxIs l i) ∧ Below w.heap.size w w' := by
  have hu52 := Tryz.underlying24
  have HR0 := Aside0.mk hr0; clear hr0
  go_enter Tryz.func57, Tryz.ntmps57
  go_wp2
  go_loopg [5, 8] l.length (fun gg _ s8 wr => ∃ kk : Nat, kk ≤ l.length ∧ l.length - kk ≤ gg ∧ s8 = .int .i64 kk ∧ Aside0 (Below w.heap.size w wr) ∧ Aside0 (∀ j : Nat, j < kk → okC (rd_T24 l (j : Int)) = true))
  case atStart => exact ⟨0, Nat.zero_le _, by omega, rfl, ⟨Below.refl _ w⟩, ⟨fun j hj => absurd hj (Nat.not_lt_zero _)⟩⟩
  case round =>
    obtain ⟨kk, hkk, hg, rfl, BW, A⟩ := hrel
    by_cases hlt : kk < l.length
    · have hltz : (kk : Int) < (l.length : Int) := by omega
      obtain ⟨ad, rfl, hx0, hx1⟩ := at_T24 (Kd.C_below HR0.out BW.out) (kk : Int) (by omega) (by omega)
      rw [Int.toNat_natCast] at hx0 hx1
      obtain ⟨x, hx⟩ : ∃ x, rd_T24 l (kk : Int) = x := ⟨_, rfl⟩
      rw [hx] at hx0 hx1
      have HX := Aside0.mk hx; clear hx
      have hcall := del_calls x wr
      cases hq : okC x with
      | false =>
        rw [hq] at hcall
        go_wp2_with (go_at_call 44; refine hcall.mono ?_; rintro e w' ⟨rfl, hb'⟩)
        go_ret
        exact ⟨⟨kk, rfl, .inr ⟨kk, rfl, hlt, A.out, by rw [HX.out]; exact hq⟩⟩, BW.out.trans (hb'.mono BW.out.size)⟩
      | true =>
        rw [hq] at hcall
        go_wp2_with (go_at_call 44; refine hcall.mono ?_; rintro e w' ⟨rfl, hb'⟩)
        go_roundg (l.length - (kk + 1))
        case measure => omega
        case rel =>
          refine ⟨kk + 1, by omega, by omega, by go_num, ⟨BW.out.trans (hb'.mono BW.out.size)⟩, ⟨fun j hj => ?_⟩⟩
          by_cases e : j = kk
          · subst e
            rw [HX.out]; exact hq
          · exact A.out j (by omega)
    · have hltz : ¬ (kk : Int) < (l.length : Int) := by omega
      obtain rfl : kk = l.length := by omega
      go_wp2
      go_ret
      refine ⟨⟨-1, rfl, .inl ⟨rfl, fun x hx => ?_⟩⟩, BW.out⟩
      obtain ⟨j, hj, rfl⟩ := mem_rd hx
      exact A.out j hj

/-! ### a row of claims in a block of its own -/
def encs (l : List S24) : List Value := l.flatMap fun x => [.int .i64 x.f0, .int .i64 x.f1]
theorem encs_length (l : List S24) : (encs l).length = l.length * 2 := by
  induction l with
  | nil => rfl
  | cons x l ih => simp only [encs, List.flatMap_cons, List.length_append, List.length_cons, List.length_nil] at ih ⊢; rw [ih]; omega
theorem encs_cons (x : S24) (l : List S24) : encs (x :: l) = .int .i64 x.f0 :: .int .i64 x.f1 :: encs l := rfl
theorem encs_append (a b : List S24) : encs (a ++ b) = encs a ++ encs b := List.flatMap_append
theorem encs_get (l : List S24) (rest : List Value) (j : Nat) (hj : j < l.length) : (encs l ++ rest)[j * 2]? = some (.int .i64 (rd_T24 l (j : Int)).f0) ∧ (encs l ++ rest)[j * 2 + 1]? = some (.int .i64 (rd_T24 l (j : Int)).f1) := by
  induction l generalizing j with
  | nil => simp at hj
  | cons x l ih =>
    cases j with
    | zero => exact ⟨rfl, rfl⟩
    | succ j =>
      have := ih j (by simpa using hj)
      have e : rd_T24 (x :: l) ((j + 1 : Nat) : Int) = rd_T24 l (j : Int) := by unfold rd_T24; simp [Int.toNat_natCast]
      rw [encs_cons, e, show (j + 1) * 2 = j * 2 + 2 by omega]
      simpa using this
theorem encs_set (l : List S24) (rest : List Value) (j : Nat) (x : S24) (hj : j < l.length) : ((encs l ++ rest).set (j * 2) (.int .i64 x.f0)).set (j * 2 + 1) (.int .i64 x.f1) = encs (l.set j x) ++ rest := by
  induction l generalizing j with
  | nil => simp at hj
  | cons y l ih =>
    cases j with
    | zero => rfl
    | succ j =>
      have := ih j (by simpa using hj)
      rw [encs_cons, List.set_cons_succ, encs_cons, show (j + 1) * 2 = j * 2 + 2 by omega]
      simpa using this
theorem encs_take (l : List S24) (rest : List Value) (n : Nat) (h : n ≤ l.length) : (encs l ++ rest).take (n * 2) = encs (l.take n) := by
  have e : encs l = encs (l.take n) ++ encs (l.drop n) := by rw [← encs_append, List.take_append_drop]
  rw [e, List.append_assoc, List.take_append_of_le_length (by rw [encs_length]; simp; omega), List.take_of_length_le (by rw [encs_length]; simp; omega)]
structure RowB (base : Nat) (w W : World) (g cap : Nat) (cur : List Value) : Prop where
  lo : base ≤ g
  blk : W.heap[g]? = some (.cells cur.toArray 24 (0, 0))
  bel : Below base w W
  len : cur.length = cap * 2
  cap : cap ≤ maxLen
section
variable {base : Nat} {w W : World} {g cap : Nat} {cur : List Value}
theorem RowB.lt (h : RowB base w W g cap cur) : g < W.heap.size := by
  rcases Nat.lt_or_ge g W.heap.size with q | q
  · exact q
  · have := h.blk; rw [Array.getElem?_eq_none q] at this; cases this
theorem RowB.cellAt (h : RowB base w W g cap cur) (j : Nat) : W.cell? ⟨g, j, none⟩ = cur[j]? := by
  rw [cell_of_row W g j _ 24 (0, 0) h.blk]; simp
theorem RowB.frozenAt (h : RowB base w W g cap cur) (j : Nat) : W.frozen? ⟨g, j, none⟩ = false := frozen_of_row W g j _ 24 h.blk
theorem RowB.set (h : RowB base w W g cap cur) (j : Nat) (u : Value) : RowB base w (W.setCell ⟨g, j, none⟩ u) g cap (cur.set j u) := by
  refine ⟨h.lo, ?_, h.bel.setCell (p := ⟨g, j, none⟩) h.lo u, by simpa using h.len, h.cap⟩
  rw [heap_setCell_same W g j _ 24 u h.blk]
  simp
theorem RowB.step (h : RowB base w W g cap cur) {W1 : World} (hb : Below W.heap.size W W1) (hB : base ≤ W.heap.size) : RowB base w W1 g cap cur :=
  ⟨h.lo, (hb.block g h.lt).trans h.blk, h.bel.trans (hb.mono hB), h.len, h.cap⟩
theorem RowB.owns (h : RowB base w W g cap cur) (n : Nat) (hn : n ≤ cap) : W.ownsRow base 24 2 (.slice (some ⟨g, 0, none⟩) n cap) n (cur.take (n * 2)) :=
  ⟨by rw [List.length_take, h.len]; omega, .inr ⟨g, cap, _, rfl, h.lo, h.blk, hn, h.cap, by simpa using h.len, by simp⟩⟩
end

theorem RowB.sets {base : Nat} {w : World} {g cap : Nat} : ∀ (vs : List Value) (o : Nat) (W : World) (cur : List Value), RowB base w W g cap cur → ∃ cur', RowB base w (W.setCells g o vs) g cap cur' ∧ ∀ k, k ≤ o → cur'.take k = cur.take k
  | [], _, _, cur, h => ⟨cur, h, fun _ _ => rfl⟩
  | v :: r, o, W, cur, h => by
    obtain ⟨c, h1, h2⟩ := RowB.sets r (o + 1) _ _ (h.set o v)
    exact ⟨c, h1, fun k hk => by rw [h2 k (by omega), List.take_set_of_le hk]⟩
theorem zero52 (w : World) : (zeroValue 24).run Tryz.prog w = .ok (.agg #[.int .i64 0, .int .i64 0]) w := by kernel_rfl
theorem mem_zeroCells (n : Nat) (v : Value) (h : v ∈ (Builtin.zeroCells #[.int .i64 0, .int .i64 0] n).toList) : v = .int .i64 0 := by
  unfold Builtin.zeroCells at h
  simp only [Array.toList_map, List.mem_map] at h
  obtain ⟨i, _, rfl⟩ := h
  have h2 : i % (#[Value.int .i64 0, Value.int .i64 0] : Array Value).size < 2 := Nat.mod_lt _ (by decide)
  generalize i % (#[Value.int .i64 0, Value.int .i64 0] : Array Value).size = q at h2
  match q, h2 with
  | 0, _ => rfl
  | 1, _ => rfl
theorem RowB.clear {base : Nat} {w W : World} {g cap : Nat} {cur : List Value} (h : RowB base w W g cap cur) (i n c : Nat) (hn : 0 < n) (hi : i + n ≤ cap) (ty : TypeId) :
    ∃ W', (Builtin.clear_ #[25] ty #[.slice (some ⟨g, i * 2, none⟩) n c]).run Tryz.prog W = .ok (.tuple #[]) W' ∧ ∃ cur', RowB base w W' g cap cur' ∧ cur'.take (i * 2) = cur.take (i * 2) := by
  have hz : (Builtin.zeroCells #[.int .i64 0, .int .i64 0] n).toList.length = n * 2 := by simp [Builtin.zeroCells]
  have hst := run_storeCells_cells (P := Tryz.prog) g (i * 2) (Builtin.zeroCells #[.int .i64 0, .int .i64 0] n).toList 0 W
    (fun j hj => by rw [h.cellAt]; rw [hz] at hj; rw [List.getElem?_eq_getElem (by rw [h.len]; omega)]; rfl) (fun j _ => h.frozenAt _)
    (fun v hv => by rw [mem_zeroCells n v hv]; rfl)
  obtain ⟨c', h1, h2⟩ := RowB.sets (Builtin.zeroCells #[.int .i64 0, .int .i64 0] n).toList (i * 2) W cur h
  refine ⟨_, ?_, c', h1, h2 _ (Nat.le_refl _)⟩
  simp only [Nat.add_zero] at hst
  obtain ⟨m, rfl⟩ : ∃ m, n = m + 1 := ⟨n - 1, by omega⟩
  have e : (Value.agg #[Value.int .i64 0, Value.int .i64 0]).cells = #[Value.int .i64 0, Value.int .i64 0] := rfl
  simp [Builtin.clear_, run_underlying Tryz.underlying25, zero52, e, hst]
end Go.Proofs.YtocadlecfddbcaaGreatDoor.QClaims
