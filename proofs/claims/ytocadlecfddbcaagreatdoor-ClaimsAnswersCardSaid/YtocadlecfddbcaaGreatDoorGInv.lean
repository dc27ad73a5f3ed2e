/- What the walk of ClaimsAnswers carries along of the world, and that it stays; two plain laws more. -/
import Derived.Test.YtocadlecfddbcaaGreatDoorPurePar
namespace Go.Proofs.YtocadlecfddbcaaGreatDoor.QClaims
open Go.RowKit Go.Proofs.YtocadlecfddbcaaGreatDoorW.PrintWords Go.Proofs.YtocadlecfddbcaaGreatDoorW.PrintLast Go.Proofs.YtocadlecfddbcaaGreatDoorW.PrintMore
set_option linter.unusedVariables false
theorem idx_l0 (l : List S24) (a b : Int) (hl : l.length ≤ 1000000) : ∀ (r i k : Nat), i + r = l.length → r < k → ∃ v, api_Claim_52.l0 k l (l.length : Int) (i : Int) a b = some v ∧ (v ≥ 0 ↔ (⟨a, b⟩ : S24) ∈ l.drop i)
  | 0, i, k + 1, hi, hk => by
    unfold api_Claim_52.l0
    rw [if_neg (by omega), List.drop_of_length_le (by omega)]
    exact ⟨-1, rfl, by simp⟩
  | r + 1, i, k + 1, hi, hk => by
    unfold api_Claim_52.l0
    rw [if_pos (by omega), if_pos (by omega), if_pos (by omega), rd_drop l i (by omega)]
    by_cases h : (a == (rd_T24 l (i : Int)).f0 && (b == (rd_T24 l (i : Int)).f1)) = true
    · rw [if_pos h]
      simp at h
      have e : (⟨a, b⟩ : S24) = rd_T24 l (i : Int) := S24_ext h.1 h.2
      exact ⟨_, rfl, by simp [e]⟩
    · rw [if_neg h, wrap64_small (by omega) (by omega), show (i : Int) + 1 = ((i + 1 : Nat) : Int) by omega]
      obtain ⟨v, hv, hvi⟩ := idx_l0 l a b hl r (i + 1) k (by omega) (by omega)
      have e : (⟨a, b⟩ : S24) ≠ rd_T24 l (i : Int) := by intro e; apply h; rw [← e]; simp
      exact ⟨v, hv, by rw [hvi]; simp [e]⟩
theorem chas_f (l : List S24) (a b : Int) (k : Nat) (hl : l.length ≤ 1000000) (hk : l.length < k) : claims_Has.f k l a b = some (decide ((⟨a, b⟩ : S24) ∈ l)) := by
  unfold claims_Has.f api_Claim_39.f api_Claim_52.f
  obtain ⟨v, hv, hvi⟩ := idx_l0 l a b hl l.length 0 k (by omega) hk
  rw [show ((0 : Nat) : Int) = 0 from rfl] at hv
  rw [hv, Option.bind_some, Option.bind_some]
  congr 1
  rw [List.drop_zero] at hvi
  by_cases h : (⟨a, b⟩ : S24) ∈ l
  · rw [decide_eq_true h, decide_eq_true (hvi.2 h)]
  · rw [decide_eq_false h, decide_eq_false (fun q => h (hvi.1 q))]
theorem spoilt_ok (L : List Int) (a : Int) (x : ByteArray) (h0 : 0 ≤ a) (h1 : a ≤ L.length) (hL : L.length ≤ 1000000) (hx : x.size ≤ 1000) : ∃ y a', trustquorumlaw17_spoilt.f L a x = some (y, a') := by
  unfold trustquorumlaw17_spoilt.f
  rw [wrap64_small (by omega) (by omega)]
  obtain ⟨v, a1, hN, hv0, hv1, ha0, ha1⟩ := tapeN_ok L a ((x.size : Int) + 1) h0 h1 hL (by omega) (by omega)
  rw [hN, Option.bind_some, Option.bind_some]
  obtain ⟨u, a2, hN2, hu0, hu1, hb0, hb1⟩ := tapeN_ok L a1 9 ha0 ha1 hL (by omega) (by omega)
  simp only
  rw [hN2, Option.bind_some]
  simp only
  generalize hys : ([(⟨#[]⟩ : ByteArray), (⟨#[32]⟩ : ByteArray), (⟨#[61]⟩ : ByteArray), (⟨#[48]⟩ : ByteArray), (⟨#[57]⟩ : ByteArray), (⟨#[48, 61, 48, 32]⟩ : ByteArray), (⟨#[32, 55, 61, 49, 53]⟩ : ByteArray), (⟨#[49, 54]⟩ : ByteArray), (⟨#[45]⟩ : ByteArray)] : List ByteArray) = ys
  have hlen : ys.length = 9 := by rw [← hys]; rfl
  have hsz : ∀ y ∈ ys, y.size ≤ 5 := by rw [← hys]; decide
  have hc : (rdOf ByteArray.empty ys u).size ≤ 5 := by
    unfold rdOf
    rw [List.getD_eq_getElem?_getD, List.getElem?_eq_getElem (by omega)]
    exact hsz _ (List.getElem_mem _)
  have he : (x.extract 0 v.toNat).size ≤ 1000 := by rw [ByteArray.size_extract]; omega
  rw [if_pos hu0, if_pos (by omega), if_pos hv0, if_pos (by omega), if_pos (by omega)]
  obtain ⟨z, a3, hN3, hz0, hz1, hc0, hc1⟩ := tapeN_ok L a2 3 hb0 hb1 hL (by omega) (by omega)
  rw [hN3, Option.bind_some]
  simp only
  have hmn : 0 ≤ mn (x.size : Int) (wrap64 (v + z)) ∧ mn (x.size : Int) (wrap64 (v + z)) ≤ (x.size : Int) := by
    rw [wrap64_small (by omega) (by omega)]
    unfold mn
    split <;> omega
  have he2 : (x.extract (mn (x.size : Int) (wrap64 (v + z))).toNat x.size).size ≤ 1000 := by
    rw [ByteArray.size_extract]; omega
  have hsum : (x.extract 0 v.toNat ++ rdOf ByteArray.empty ys u).size + (x.extract (mn (x.size : Int) (wrap64 (v + z))).toNat x.size).size ≤ 9223372036854775807 := by
    rw [ByteArray.size_append]; omega
  rw [if_pos hmn.1, if_pos hmn.2, if_pos hsum]
  exact ⟨_, _, rfl⟩
/-- What stays. -/
structure Inv (w W : World) (g : Nat) (L : List Int) (pos : Int) (bx : List (Nat × S24)) (rs : List (Option Addr × List S24)) (ls : List (Option Addr × List (List S24))) : Prop where
  bel : Below w.heap.size w W
  tape : IsS51 w W g L pos
  box : ∀ q ∈ bx, W.heap[q.1]? = some (.cells #[.int .i64 q.2.f0, .int .i64 q.2.f1] 24 (0, 0))
  row : ∀ r ∈ rs, Kd.C k24 W r.1 r.2.length r.2
  rows : ∀ r ∈ ls, Kd.C (Kd.slice 24 k24) W r.1 3 r.2
theorem Inv.step {w W W' : World} {g : Nat} {L : List Int} {pos : Int} {bx : List (Nat × S24)} {rs : List (Option Addr × List S24)} {ls : List (Option Addr × List (List S24))} (h : Inv w W g L pos bx rs ls) (hb : Below W.heap.size W W') : Inv w W' g L pos bx rs ls :=
  ⟨below_step h.bel hb, h.tape.below hb, fun q hq => blk_below (h.box q hq) hb, fun r hr => Kd.C_below (h.row r hr) hb, fun r hr => Kd.C_below (h.rows r hr) hb⟩
theorem Inv.drew {w W : World} {g : Nat} {L : List Int} {pos : Int} {bx : List (Nat × S24)} {rs : List (Option Addr × List S24)} {ls : List (Option Addr × List (List S24))} (h : Inv w W g L pos bx rs ls) : Inv w W.drew g L pos bx rs ls := h.step (below_drew1 (Below.refl _ _))
theorem Inv.alloc {w W : World} {g : Nat} {L : List Int} {pos : Int} {bx : List (Nat × S24)} {rs : List (Option Addr × List S24)} {ls : List (Option Addr × List (List S24))} (h : Inv w W g L pos bx rs ls) (o : Obj) : Inv w (W.alloc o) g L pos bx rs ls := h.step (below_alloc (Below.refl _ _) o)
theorem Inv.addRow {w W : World} {g : Nat} {L : List Int} {pos : Int} {bx : List (Nat × S24)} {rs : List (Option Addr × List S24)} {ls : List (Option Addr × List (List S24))} (h : Inv w W g L pos bx rs ls) (A : Option Addr) (l : List S24) (hr : Kd.C k24 W A l.length l) : Inv w W g L pos bx ((A, l) :: rs) ls :=
  ⟨h.bel, h.tape, h.box, fun r hm => (List.mem_cons.1 hm).elim (fun e => by subst e; exact hr) (fun hm => h.row r hm), h.rows⟩
theorem Inv.addRows {w W : World} {g : Nat} {L : List Int} {pos : Int} {bx : List (Nat × S24)} {rs : List (Option Addr × List S24)} {ls : List (Option Addr × List (List S24))} (h : Inv w W g L pos bx rs ls) (A : Option Addr) (l : List (List S24)) (hr : Kd.C (Kd.slice 24 k24) W A 3 l) : Inv w W g L pos bx rs ((A, l) :: ls) :=
  ⟨h.bel, h.tape, h.box, h.row, fun r hm => (List.mem_cons.1 hm).elim (fun e => by subst e; exact hr) (fun hm => h.rows r hm)⟩
theorem Inv.addBox {w W : World} {g : Nat} {L : List Int} {pos : Int} {bx : List (Nat × S24)} {rs : List (Option Addr × List S24)} {ls : List (Option Addr × List (List S24))} (h : Inv w W g L pos bx rs ls) (b : Nat) (x : S24) (hr : W.heap[b]? = some (.cells #[.int .i64 x.f0, .int .i64 x.f1] 24 (0, 0))) : Inv w W g L pos ((b, x) :: bx) rs ls :=
  ⟨h.bel, h.tape, fun q hm => (List.mem_cons.1 hm).elim (fun e => by subst e; exact hr) (fun hm => h.box q hm), h.row, h.rows⟩
theorem Inv.less {w W : World} {g : Nat} {L : List Int} {pos : Int} {bx bx' : List (Nat × S24)} {rs rs' : List (Option Addr × List S24)} {ls ls' : List (Option Addr × List (List S24))} (h : Inv w W g L pos bx rs ls) (h1 : ∀ x ∈ bx', x ∈ bx) (h2 : ∀ x ∈ rs', x ∈ rs) (h3 : ∀ x ∈ ls', x ∈ ls) : Inv w W g L pos bx' rs' ls' :=
  ⟨h.bel, h.tape, fun q hq => h.box q (h1 q hq), fun r hr => h.row r (h2 r hr), fun r hr => h.rows r (h3 r hr)⟩
theorem Inv.box_ne {w W : World} {g : Nat} {L : List Int} {pos : Int} {bx : List (Nat × S24)} {rs : List (Option Addr × List S24)} {ls : List (Option Addr × List (List S24))} (h : Inv w W g L pos bx rs ls) (q : Nat × S24) (hq : q ∈ bx) : q.1 ≠ g := by
  intro e
  have h1 := h.box q hq
  obtain ⟨A, c, hg, _⟩ := h.tape
  rw [e, hg] at h1
  simp at h1
theorem Inv.tapeStep {w W W' : World} {g : Nat} {L : List Int} {pos pos' : Int} {bx : List (Nat × S24)} {rs : List (Option Addr × List S24)} {ls : List (Option Addr × List (List S24))} (h : Inv w W g L pos bx rs ls) (hi : IsS51 w W' g L pos') (hb : Below w.heap.size w W') (hk : KeepBut W W' g none)
    {rs' : List (Option Addr × List S24)} (hr : ∀ r ∈ rs', Kd.C k24 W' r.1 r.2.length r.2) : Inv w W' g L pos' bx rs' [] :=
  ⟨hb, hi, fun q hq => (hk.2 q.1 (blk_lt (h.box q hq)) (h.box_ne q hq) (by simp)).trans (h.box q hq), hr, fun r hr => by simp at hr⟩
theorem Inv.cells2 {w W : World} {g : Nat} {L : List Int} {pos : Int} {bx : List (Nat × S24)} {rs : List (Option Addr × List S24)} {ls : List (Option Addr × List (List S24))} (h : Inv w W g L pos bx rs ls) (q r : Nat × S24) (hq : q ∈ bx) (hr : r ∈ bx) :
    W.cell? ⟨q.1, 0, none⟩ = some (.int .i64 q.2.f0) ∧ W.cell? ⟨q.1, 1, none⟩ = some (.int .i64 q.2.f1) ∧ W.cell? ⟨r.1, 0, none⟩ = some (.int .i64 r.2.f0) ∧ W.cell? ⟨r.1, 1, none⟩ = some (.int .i64 r.2.f1) :=
  ⟨(blk_cell (h.box q hq) 0).trans rfl, (blk_cell (h.box q hq) 1).trans rfl, (blk_cell (h.box r hr) 0).trans rfl, (blk_cell (h.box r hr) 1).trans rfl⟩
theorem Inv.cells1 {w W : World} {g : Nat} {L : List Int} {pos : Int} {bx : List (Nat × S24)} {rs : List (Option Addr × List S24)} {ls : List (Option Addr × List (List S24))} (h : Inv w W g L pos bx rs ls) (q : Nat × S24) (hq : q ∈ bx) :
    W.cell? ⟨q.1, 0, none⟩ = some (.int .i64 q.2.f0) ∧ W.cell? ⟨q.1, 1, none⟩ = some (.int .i64 q.2.f1) :=
  ⟨(blk_cell (h.box q hq) 0).trans rfl, (blk_cell (h.box q hq) 1).trans rfl⟩
theorem add_offI (b o j : Nat) : (⟨b, o, none⟩ : Addr).add j = ⟨b, o + j, none⟩ := by unfold Addr.add; split <;> simp_all
/-- Three lists in a new row. -/
theorem rows3 (W : World) (A B C : Option Addr) (ca cb cc : Nat) (x y z : List S24) (hA : Kd.C k24 W A x.length x) (hca : x.length ≤ ca) (hB : Kd.C k24 W B y.length y) (hcb : y.length ≤ cb) (hC : Kd.C k24 W C z.length z) (hcc : z.length ≤ cc) :
    Kd.C (Kd.slice 24 k24) (W.alloc (.cells #[.slice A x.length ca, .slice B y.length cb, .slice C z.length cc] 25)) (some ⟨W.heap.size, 0, none⟩) 3 [x, y, z] := by
  refine ⟨rfl, by omega, fun _ => ⟨_, rfl, fun j p hj => ?_⟩⟩
  have hcell : ∀ i u, (#[Value.slice A x.length ca, Value.slice B y.length cb, Value.slice C z.length cc] : Array Value)[i]? = some u → (W.alloc (.cells #[.slice A x.length ca, .slice B y.length cb, .slice C z.length cc] 25)).cell? ((⟨W.heap.size, 0, none⟩ : Addr).add i) = some u := by
    intro i u hu
    rw [add_offI, Nat.zero_add, cell_of_row _ _ _ _ 25 (0, 0) (heap_alloc_new W _)]
    exact hu
  match j, hj with
  | 0, hj =>
    obtain rfl : x = p := by simpa using hj
    refine ⟨_, rfl, ⟨A, ca, rfl, hca, Kd.C_alloc hA _⟩, fun i u hu => ?_⟩
    match i, hu with
    | 0, hu => exact hcell 0 u (by simpa using hu)
  | 1, hj =>
    obtain rfl : y = p := by simpa using hj
    refine ⟨_, rfl, ⟨B, cb, rfl, hcb, Kd.C_alloc hB _⟩, fun i u hu => ?_⟩
    match i, hu with
    | 0, hu => exact hcell 1 u (by simpa using hu)
  | 2, hj =>
    obtain rfl : z = p := by simpa using hj
    refine ⟨_, rfl, ⟨C, cc, rfl, hcc, Kd.C_alloc hC _⟩, fun i u hu => ?_⟩
    match i, hu with
    | 0, hu => exact hcell 2 u (by simpa using hu)
  | j + 3, hj => simp at hj
/-- What holds of each of the three lists. -/
def ListF (y : List S24) : Prop := y.length ≤ 128 ∧ claims_Consistent.f y = some (consF y)
/-- A row of three texts in a new block. -/
theorem texts3 (W : World) (x y z : ByteArray) : ∀ (j : Nat) (s : ByteArray), [x, y, z][j]? = some s → (W.alloc (.cells #[.string x, .string y, .string z] 9)).cell? ⟨W.heap.size, j, none⟩ = some (.string s) := by
  intro j s hj
  rw [cell_of_row _ _ _ _ 9 (0, 0) (heap_alloc_new W _)]
  match j, hj with
  | 0, hj => obtain rfl : x = s := by simpa using hj
             rfl
  | 1, hj => obtain rfl : y = s := by simpa using hj
             rfl
  | 2, hj => obtain rfl : z = s := by simpa using hj
             rfl
  | j + 3, hj => simp at hj
/-- The texts that a row holds. -/
def TX3 (w : World) (g : Nat) (xs : List ByteArray) : Prop := ∀ (j : Nat) (s : ByteArray), xs[j]? = some s → w.cell? ⟨g, j, none⟩ = some (.string s)
theorem TX3.step {w w' : World} {g : Nat} {xs : List ByteArray} (h : TX3 w g xs) (hb : Below w.heap.size w w') : TX3 w' g xs := fun j s hs => (hb.cell (World.block_lt_of_cell? w _ (h j s hs))).trans (h j s hs)
end Go.Proofs.YtocadlecfddbcaaGreatDoor.QClaims
