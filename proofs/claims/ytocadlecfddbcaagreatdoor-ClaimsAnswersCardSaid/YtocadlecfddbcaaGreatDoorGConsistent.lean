/- The contract of claims.Consistent: a map from topics to values. -/
import Derived.Test.YtocadlecfddbcaaGreatDoorGText
import Derived.Maps.OwnOps
import Derived.Maps.OwnSet
namespace Go.Proofs.YtocadlecfddbcaaGreatDoor.QClaims
open Go.RowKit Go.Maps Go.Proofs.YtocadlecfddbcaaGreatDoorW.PrintWords Go.Proofs.YtocadlecfddbcaaGreatDoorW.PrintLast Go.Proofs.YtocadlecfddbcaaGreatDoorW.PrintMore

def in64 (x : Int) : Prop := -9223372036854775808 ≤ x ∧ x ≤ 9223372036854775807
theorem i64_wf {x : Int} (h : in64 x) : (Lit.int .i64 x).wf = true := by
  obtain ⟨h0, h1⟩ := h
  have e : wrap64 x = x := by unfold wrap64; omega
  rw [← e]; exact wrap64_wf _
def consF (l : List S24) : Bool := l.all fun x => l.all fun y => x.f0 != y.f0 || x.f1 == y.f1
instance (x : Int) : Decidable (in64 x) := inferInstanceAs (Decidable (_ ∧ _))
def claims_Consistent.f (l0 : List S24) : Option Bool := if (∀ x ∈ l0, in64 x.f0 ∧ in64 x.f1) ∧ l0.length ≤ 1000000 then some (consF l0) else none
/-- What the map holds behind k rounds. -/
def cD {H : Type} (l : List S24) : Nat → DataW H
  | 0 => .map []
  | k + 1 => (cD l k).put (.int .i64 (rd_T24 l (k : Int)).f0) (.lit (.int .i64 (rd_T24 l (k : Int)).f1))
theorem IsMap_cD {H : Type} (l : List S24) (k : Nat) : IsMap (cD (H := H) l k) := by
  induction k with
  | zero => exact isMap_empty
  | succ k ih => exact ih.put _ _
def ConsTo (l : List S24) (k : Nat) : Prop := ∀ i j : Nat, i < k → j < k → (rd_T24 l (i : Int)).f0 = (rd_T24 l (j : Int)).f0 → (rd_T24 l (i : Int)).f1 = (rd_T24 l (j : Int)).f1
theorem cD_has {H : Type} (l : List S24) (t : Int) (k : Nat) :
    (has (cD (H := H) l k) (.int .i64 t) = true → ∃ i : Nat, i < k ∧ (rd_T24 l (i : Int)).f0 = t ∧ ∀ z, (cD (H := H) l k).atKey (.int .i64 t) z = .lit (.int .i64 (rd_T24 l (i : Int)).f1)) ∧
    (has (cD (H := H) l k) (.int .i64 t) = false → ∀ i : Nat, i < k → (rd_T24 l (i : Int)).f0 ≠ t) := by
  induction k with
  | zero => exact ⟨fun h => by simp [cD, has] at h, fun _ i hi => by omega⟩
  | succ k ih =>
    by_cases hk : (rd_T24 l (k : Int)).f0 = t
    · unfold cD
      rw [hk]
      rw [has_put_same (k := .int .i64 t) (IsMap_cD l k) trivial]
      exact ⟨fun _ => ⟨k, by omega, hk, fun z => atKey_put_same (k := .int .i64 t) (IsMap_cD l k) trivial _ _⟩, fun h => by cases h⟩
    · have hne : (Lit.int .i64 t) ≠ (Lit.int .i64 (rd_T24 l (k : Int)).f0) := by intro e; injection e with _ e; exact hk e.symm
      unfold cD
      rw [has_put_other hne]
      refine ⟨fun h => ?_, fun h i hi => ?_⟩
      · obtain ⟨i, hi, e, ha⟩ := ih.1 h
        exact ⟨i, by omega, e, fun z => by rw [atKey_put_other hne]; exact ha z⟩
      · rcases Nat.lt_or_ge i k with q | q
        · exact ih.2 h i q
        · obtain rfl : i = k := by omega
          exact hk
theorem rd_mem (l : List S24) (k : Nat) (h : k < l.length) : rd_T24 l (k : Int) ∈ l := by
  unfold rd_T24
  rw [Int.toNat_natCast, List.getD_eq_getElem?_getD, List.getElem?_eq_getElem h]
  exact List.getElem_mem h
theorem ConsTo.step {l : List S24} {k : Nat} {x : S24} (h : ConsTo l k) (hx : rd_T24 l (k : Int) = x) (hn : ∀ i : Nat, i < k → (rd_T24 l (i : Int)).f0 = x.f0 → (rd_T24 l (i : Int)).f1 = x.f1) : ConsTo l (k + 1) := by
  intro i j hi hj e
  rcases Nat.lt_or_ge i k with q | q
  · rcases Nat.lt_or_ge j k with q2 | q2
    · exact h i j q q2 e
    · obtain rfl : j = k := by omega
      rw [hx] at e ⊢
      exact hn i q e
  · obtain rfl : i = k := by omega
    rcases Nat.lt_or_ge j i with q2 | q2
    · rw [hx] at e ⊢
      exact (hn j q2 e.symm).symm
    · obtain rfl : j = i := by omega
      rfl
theorem consF_true {l : List S24} (h : ConsTo l l.length) : consF l = true := by
  unfold consF
  rw [List.all_eq_true]
  intro x hx
  rw [List.all_eq_true]
  intro y hy
  obtain ⟨i, hi, rfl⟩ := List.mem_iff_getElem.1 hx
  obtain ⟨j, hj, rfl⟩ := List.mem_iff_getElem.1 hy
  have e1 : rd_T24 l (i : Int) = l[i] := by unfold rd_T24; rw [Int.toNat_natCast, List.getD_eq_getElem?_getD, List.getElem?_eq_getElem hi]; rfl
  have e2 : rd_T24 l (j : Int) = l[j] := by unfold rd_T24; rw [Int.toNat_natCast, List.getD_eq_getElem?_getD, List.getElem?_eq_getElem hj]; rfl
  have := h i j hi hj
  rw [e1, e2] at this
  by_cases e : l[i].f0 = l[j].f0
  · simp [this e]
  · simp [e]
theorem consF_false {l : List S24} {x y : S24} (hx : x ∈ l) (hy : y ∈ l) (h0 : x.f0 = y.f0) (h1 : x.f1 ≠ y.f1) : consF l = false := by
  cases e : consF l with
  | false => rfl
  | true =>
    unfold consF at e
    have := List.all_eq_true.1 (List.all_eq_true.1 e x hx) y hy
    simp [h0, h1] at this
theorem law3 : Keyed Tryz.prog 3 := int_keyed Tryz.underlying3
theorem zero3 (w : World) : (zeroValue 3).run Tryz.prog w = .ok (.int .i64 0) w := by kernel_rfl

set_option maxRecDepth 100000 in
set_option maxHeartbeats 1000000 in
theorem claims_Consistent.calls (A0 : Option Addr) (c0 : Nat) (l0 : List S24) (r : Bool) (w : World) (hr0 : Kd.C k24 w A0 l0.length l0) (hc0 : l0.length ≤ c0) (h : claims_Consistent.f l0 = some r) :
    Calls Tryz.prog 22 #[.slice A0 l0.length c0] w fun e w' => e = .returned (.bool r) ∧ Below w.heap.size w w' := by
  have hmm := @run_makeMap Tryz.prog
  have hu52 := Tryz.underlying24
  unfold claims_Consistent.f at h
  split at h
  case isFalse => cases h
  rename_i hc
  obtain ⟨hin, hlen⟩ := hc
  have HIN := Aside0.mk hin; clear hin
  obtain rfl := Option.some.inj h
  clear h
  have HR0 := Aside0.mk hr0; clear hr0
  go_enter Tryz.func22, Tryz.ntmps22
  go_wp2
  go_loopw [11] (fun i wr => ∃ k : Nat, k ≤ l0.length ∧ i = .int .i64 k ∧ Aside0 (wr.ownsMap Tryz.prog 3 (plainElem (H := Unit) Tryz.prog 3) w.heap.size k (cD l0 k)) ∧ Aside0 (Below w.heap.size w wr) ∧ Aside0 (ConsTo l0 k)) (fun i _ => l0.length - (intOf i).toNat)
  case atStart => exact ⟨0, Nat.zero_le _, rfl, ⟨World.ownsMap_made _ _ _ _⟩, ⟨(Below.refl _ _).alloc (Nat.le_refl _) _⟩, ⟨fun i j hi => by omega⟩⟩
  case round =>
    clear hmm
    obtain ⟨k, hk, rfl, OWN, HB, HC⟩ := hrel
    by_cases hlt : k < l0.length
    · have hlti : (k : Int) < (l0.length : Int) := by omega
      obtain ⟨ad, rfl, hx0, hx1⟩ := at_T24 (Kd.C_below HR0.out HB.out) (k : Int) (by omega) (by omega)
      rw [Int.toNat_natCast] at hx0 hx1
      obtain ⟨x, hx⟩ : ∃ x, rd_T24 l0 (k : Int) = x := ⟨_, rfl⟩
      rw [hx] at hx0 hx1
      have HX := Aside0.mk hx; clear hx
      have hmem : x ∈ l0 := by rw [← HX.out]; exact rd_mem l0 k hlt
      have hw0 := i64_wf (HIN.out x hmem).1
      have hw1 := i64_wf (HIN.out x hmem).2
      have hkey := keyOf_int_mk Tryz.underlying3 hw0
      have CD := cD_has (H := Unit) l0 x.f0 k
      cases hh : has (cD (H := Unit) l0 k) (.int .i64 x.f0) with
      | false =>
        have HN := Aside0.mk (CD.2 hh); clear CD
        have HH := Aside0.mk hh; clear hh
        go_wp2_with (first
          | (at_lookup; refine wpList_lookup_own_ok_int _ rfl _ _ 55 rfl 3 3 .i64 law3 Tryz.underlying55 Tryz.underlying3 (zero3 _) w.heap.size k _ rfl (OWN.out.alloc _) _ _ rfl hkey ?_; intro c hat hwc; rw [HH.out])
          | (at_mapUpdate; refine wpList_mapUpdate_own _ rfl _ _ _ 55 rfl 3 3 law3 Tryz.underlying55 _ w.heap.size k _ rfl (OWN.out.alloc _) (by unfold maxLen; omega) _ _ _ rfl rfl hkey _ [] (plainElem_int Tryz.underlying3 hw1) ?_; intro w1 hown1 hgrow1)
          | go_in)
        go_roundw
        case rel => exact ⟨k + 1, by omega, by go_num, ⟨by unfold cD; rw [HX.out]; exact hown1⟩, ⟨(HB.out.alloc HB.out.size _).grown hgrow1 (by simp; have := HB.out.size; omega) (fun j hj => by cases hj; omega)⟩, ⟨HC.out.step HX.out (fun i hi he => absurd he (HN.out i hi))⟩⟩
        case measure => simp [intOf]; omega
      | true =>
        obtain ⟨i, hi, ef, ha⟩ := CD.1 hh
        clear CD
        have HH := Aside0.mk hh; clear hh
        have HA := Aside0.mk ha; clear ha
        have HEF := Aside0.mk ef; clear ef
        obtain ⟨v, hv⟩ : ∃ v, (rd_T24 l0 (i : Int)).f1 = v := ⟨_, rfl⟩
        have HV := Aside0.mk hv; clear hv
        by_cases hvx : v = x.f1
        · subst hvx
          go_wp2_with (first
            | (at_lookup; refine wpList_lookup_own_ok_int _ rfl _ _ 55 rfl 3 3 .i64 law3 Tryz.underlying55 Tryz.underlying3 (zero3 _) w.heap.size k _ rfl (OWN.out.alloc _) _ _ rfl hkey ?_; intro c hat hwc; rw [HH.out]; rw [HA.out, HV.out] at hat; obtain rfl : x.f1 = c := (by injection hat with hat; injection hat))
            | (at_mapUpdate; refine wpList_mapUpdate_own _ rfl _ _ _ 55 rfl 3 3 law3 Tryz.underlying55 _ w.heap.size k _ rfl (OWN.out.alloc _) (by unfold maxLen; omega) _ _ _ rfl rfl hkey _ [] (plainElem_int Tryz.underlying3 hw1) ?_; intro w1 hown1 hgrow1)
            | go_in)
          go_roundw
          case rel => exact ⟨k + 1, by omega, by go_num, ⟨by unfold cD; rw [HX.out]; exact hown1⟩, ⟨(HB.out.alloc HB.out.size _).grown hgrow1 (by simp; have := HB.out.size; omega) (fun j hj => by cases hj; omega)⟩, ⟨HC.out.step HX.out (fun j hj he => (HC.out j i hj hi (he.trans HEF.out.symm)).trans HV.out)⟩⟩
          case measure => simp [intOf]; omega
        · have hvn : (v != x.f1) = true := by simpa using hvx
          have hcf := consF_false (l := l0) (x := rd_T24 l0 (i : Int)) (y := x) (rd_mem l0 i (by omega)) hmem HEF.out (by rw [HV.out]; exact hvx)
          have HCF := Aside0.mk hcf; clear hcf
          go_wp2_with (first
            | (at_lookup; refine wpList_lookup_own_ok_int _ rfl _ _ 55 rfl 3 3 .i64 law3 Tryz.underlying55 Tryz.underlying3 (zero3 _) w.heap.size k _ rfl (OWN.out.alloc _) _ _ rfl hkey ?_; intro c hat hwc; rw [HH.out]; rw [HA.out, HV.out] at hat; obtain rfl : v = c := (by injection hat with hat; injection hat))
            | go_in)
          go_ret
          exact ⟨by first | (rw [HCF.out]; done) | (rw [HCF.out]; rfl) | simp [HCF.out], HB.out.alloc HB.out.size _⟩
    · obtain rfl : k = l0.length := by omega
      have hcf := consF_true HC.out
      have HCF := Aside0.mk hcf; clear hcf
      go_wp2
      go_ret
      exact ⟨by first | (rw [HCF.out]; done) | (rw [HCF.out]; rfl) | simp [HCF.out], HB.out⟩
end Go.Proofs.YtocadlecfddbcaaGreatDoor.QClaims
