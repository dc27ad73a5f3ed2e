/- The contract of catchup.Trusted (and of catchup.Verify at no item): what the map holds, and the least link that is trusted. -/
import Derived.Test.YtocadlecfddbcaaDoorQCatchupTrustsx2
import Derived.Maps.OwnOps
import Derived.Maps.RangeWalk
import Derived.RegionTactic
namespace Go.Proofs.YtocadlecfddbcaaDoor.QCatchupTrusts
open Go.RowKit Go.Maps Go.Proofs.YtocadlecfddbcaaDoorW.PrintWords Go.Proofs.YtocadlecfddbcaaDoorW.PrintLast Go.Proofs.YtocadlecfddbcaaDoorW.PrintMore
attribute [local go_sem] min2_int

/-- What is said of x by the first k. -/
def maskN (l : List Int) (x : Int) : Nat → Nat
  | 0 => 0
  | k + 1 => if l.getD k 0 = x then maskN l x k ||| 2 ^ k else maskN l x k
def maskOf (l : List Int) (x : Int) (k : Nat) : Int := (maskN l x k : Nat)
theorem maskN_lt (l : List Int) (x : Int) (k : Nat) : maskN l x k < 2 ^ k := by
  induction k with
  | zero => simp [maskN]
  | succ k ih =>
    unfold maskN
    have h2 : 2 ^ k < 2 ^ (k + 1) := Nat.pow_lt_pow_right (by omega) (by omega)
    split
    · exact Nat.or_lt_two_pow (by omega) h2
    · omega
theorem mask_wf (l : List Int) (x : Int) (k : Nat) (hk : k ≤ 10) : (Lit.int .i64 (maskOf l x k)).wf = true := by
  have h := maskN_lt l x k
  have h2 : 2 ^ k ≤ 2 ^ 10 := Nat.pow_le_pow_right (by omega) hk
  have e : wrap64 (maskOf l x k) = maskOf l x k := by unfold wrap64 maskOf; omega
  rw [← e]; exact wrap64_wf _
/-- The links that are said. -/
def keysOf (l : List Int) : List Int := (l.take 10).filter (fun x => x != 0)
def nOf (l : List Int) : Nat := min l.length 10
def catchup_Trusted.sat (k : Nat) (l0 : List Int) (a1_0 : Int) (l1_1 : List Int) (l1_2 : List S27) (x : Int) : Bool := threshold_Satisfied.f k a1_0 l1_1 l1_2 (maskOf l0 x (nOf l0)) == some true
def catchup_Trusted.f (k : Nat) (l0 : List Int) (a1_0 : Int) (l1_1 : List Int) (l1_2 : List S27) : Option (Int × Bool) :=
  if (∀ x ∈ l0.take 10, 0 ≤ x ∧ x < 18446744073709551616) ∧ ∀ x ∈ keysOf l0, (threshold_Satisfied.f k a1_0 l1_1 l1_2 (maskOf l0 x (nOf l0))).isSome = true then
    match ((keysOf l0).filter (catchup_Trusted.sat k l0 a1_0 l1_1 l1_2)).min? with
    | some m => some (m, true)
    | none => some (0, false)
  else none

/-- What the map holds behind k rounds. -/
def tD {H : Type} (l : List Int) : Nat → DataW H
  | 0 => .map []
  | k + 1 => if l.getD k 0 = 0 then tD l k else (tD l k).put (.int .u64 (l.getD k 0)) (.lit (.int .i64 (maskOf l (l.getD k 0) (k + 1))))

theorem IsMap_tD {H : Type} (l : List Int) (k : Nat) : IsMap (tD (H := H) l k) := by
  induction k with
  | zero => exact isMap_empty
  | succ k ih => unfold tD; split; exact ih; exact ih.put _ _
theorem tD_at {H : Type} (l : List Int) (x : Int) (hx : x ≠ 0) (k : Nat) : (tD (H := H) l k).atKey (.int .u64 x) (.lit (.int .i64 0)) = .lit (.int .i64 (maskOf l x k)) := by
  induction k with
  | zero => rfl
  | succ k ih =>
    unfold tD
    by_cases h0 : l.getD k 0 = 0
    · rw [if_pos h0, ih]
      unfold maskOf
      rw [maskN, if_neg (by rw [h0]; exact fun e => hx e.symm)]
    · rw [if_neg h0]
      by_cases hk : l.getD k 0 = x
      · rw [hk, atKey_put_same (k := .int .u64 x) (IsMap_tD l k) trivial]
      · rw [atKey_put_other (by intro e; injection e with _ e; exact hk e.symm), ih]
        unfold maskOf
        rw [maskN, if_neg hk]
theorem u64_wf {x : Int} (h0 : 0 ≤ x) (h1 : x < 18446744073709551616) : (Lit.int .u64 x).wf = true := by
  simp [Lit.wf, IntKind.min, IntKind.max, IntKind.signed, IntKind.bits]
  omega
theorem has_tD {H : Type} (l : List Int) (x : Int) (k : Nat) : has (tD (H := H) l k) (.int .u64 x) = true ↔ x ≠ 0 ∧ ∃ i, i < k ∧ l.getD i 0 = x := by
  induction k with
  | zero => simp [tD, has]
  | succ k ih =>
    unfold tD
    by_cases h0 : l.getD k 0 = 0
    · rw [if_pos h0, ih]
      constructor
      · rintro ⟨h, i, hi, e⟩; exact ⟨h, i, by omega, e⟩
      · rintro ⟨h, i, hi, e⟩
        refine ⟨h, i, ?_, e⟩
        rcases Nat.lt_or_ge i k with q | q
        · exact q
        · obtain rfl : i = k := by omega
          exact absurd (e.symm.trans h0) h
    · rw [if_neg h0]
      by_cases hk : l.getD k 0 = x
      · rw [hk, has_put_same (k := .int .u64 x) (IsMap_tD l k) trivial]
        exact ⟨fun _ => ⟨by rw [← hk]; exact h0, k, by omega, hk⟩, fun _ => rfl⟩
      · rw [has_put_other (by intro e; injection e with _ e; exact hk e.symm), ih]
        constructor
        · rintro ⟨h, i, hi, e⟩; exact ⟨h, i, by omega, e⟩
        · rintro ⟨h, i, hi, e⟩
          refine ⟨h, i, ?_, e⟩
          rcases Nat.lt_or_ge i k with q | q
          · exact q
          · obtain rfl : i = k := by omega
            exact absurd e hk
theorem mem_keysOf (l : List Int) (x : Int) : x ∈ keysOf l ↔ x ≠ 0 ∧ ∃ i, i < nOf l ∧ l.getD i 0 = x := by
  unfold keysOf nOf
  simp only [List.mem_filter, bne_iff_ne, ne_eq]
  rw [and_comm]
  refine and_congr_right fun _ => ?_
  rw [List.mem_iff_getElem]
  constructor
  · rintro ⟨i, hi, e⟩
    simp only [List.length_take] at hi
    refine ⟨i, by omega, ?_⟩
    rw [← e, List.getElem_take]; simp [List.getD, List.getElem?_eq_getElem (show i < l.length by omega)]
  · rintro ⟨i, hi, e⟩
    refine ⟨i, by simp only [List.length_take]; omega, ?_⟩
    rw [← e, List.getElem_take]; simp [List.getD, List.getElem?_eq_getElem (show i < l.length by omega)]
theorem has_keys {H : Type} (l : List Int) (x : Int) : has (tD (H := H) l (nOf l)) (.int .u64 x) = true ↔ x ∈ keysOf l := (has_tD l x _).trans (mem_keysOf l x).symm
/-- What is known of the best link behind some entries of the map. -/
def TInv (D : DataW Unit) (sat : Int → Bool) (l : List Int) (left : Lit → Bool) (best : Int) (found : Bool) : Prop :=
  (∀ kl, left kl = true → has D kl = true) ∧
  (found = true → best ∈ keysOf l ∧ sat best = true ∧ ∀ y ∈ keysOf l, left (.int .u64 y) = false → sat y = true → best ≤ y) ∧
  (found = false → best = 0 ∧ ∀ y ∈ keysOf l, left (.int .u64 y) = false → sat y = false)
theorem TInv.start (sat : Int → Bool) (l : List Int) : TInv (tD (H := Unit) l (nOf l)) sat l (has (tD (H := Unit) l (nOf l))) 0 false :=
  ⟨fun _ h => h, fun h => (by cases h), fun _ => ⟨rfl, fun y hy h => by rw [(has_keys l y).2 hy] at h; cases h⟩⟩
theorem left_step {left : Lit → Bool} {x y : Int} (h : (left (.int .u64 y) && !(Lit.int .u64 y).sameKey (.int .u64 x)) = false) : left (.int .u64 y) = false ∨ y = x := by
  rcases Bool.and_eq_false_iff.1 h with h | h
  · exact .inl h
  · refine .inr ?_
    have := WideAt.sameKey_eq (a := .int .u64 y) (b := .int .u64 x) (by simpa using h)
    injection this
theorem TInv.no {D : DataW Unit} {sat : Int → Bool} {l : List Int} {left : Lit → Bool} {best : Int} {found : Bool} (h : TInv D sat l left best found) {x : Int} (hs : sat x = false) :
    TInv D sat l (fun z => left z && !z.sameKey (.int .u64 x)) best found := by
  refine ⟨fun kl hk => h.1 kl (Bool.and_eq_true_iff.1 hk).1, fun hf => ⟨(h.2.1 hf).1, (h.2.1 hf).2.1, fun y hy hl hsy => ?_⟩, fun hf => ⟨(h.2.2 hf).1, fun y hy hl => ?_⟩⟩
  · rcases left_step hl with h1 | rfl
    · exact (h.2.1 hf).2.2 y hy h1 hsy
    · rw [hs] at hsy; cases hsy
  · rcases left_step hl with h1 | rfl
    · exact (h.2.2 hf).2 y hy h1
    · exact hs
theorem TInv.worse {D : DataW Unit} {sat : Int → Bool} {l : List Int} {left : Lit → Bool} {best : Int} (h : TInv D sat l left best true) {x : Int} (hx : ¬ x < best) :
    TInv D sat l (fun z => left z && !z.sameKey (.int .u64 x)) best true := by
  refine ⟨fun kl hk => h.1 kl (Bool.and_eq_true_iff.1 hk).1, fun hf => ⟨(h.2.1 hf).1, (h.2.1 hf).2.1, fun y hy hl hsy => ?_⟩, fun hf => by cases hf⟩
  rcases left_step hl with h1 | rfl
  · exact (h.2.1 hf).2.2 y hy h1 hsy
  · omega
theorem TInv.better {D : DataW Unit} {sat : Int → Bool} {l : List Int} {left : Lit → Bool} {best : Int} {found : Bool} (h : TInv D sat l left best found) {x : Int} (hs : sat x = true) (hx : x ∈ keysOf l) (hb : found = true → x < best) :
    TInv D sat l (fun z => left z && !z.sameKey (.int .u64 x)) x true := by
  refine ⟨fun kl hk => h.1 kl (Bool.and_eq_true_iff.1 hk).1, fun _ => ⟨hx, hs, fun y hy hl hsy => ?_⟩, fun hf => by cases hf⟩
  rcases left_step hl with h1 | rfl
  · cases found with
    | true => have := (h.2.1 rfl).2.2 y hy h1 hsy; have := hb rfl; omega
    | false => rw [(h.2.2 rfl).2 y hy h1] at hsy; cases hsy
  · omega
theorem TInv.done {D : DataW Unit} {sat : Int → Bool} {l : List Int} {left : Lit → Bool} {best : Int} {found : Bool} (h : TInv D sat l left best found) (h0 : ∀ kl, left kl = false) :
    (match ((keysOf l).filter sat).min? with | some m => some (m, true) | none => some ((0 : Int), false)) = some (best, found) := by
  cases found with
  | true =>
    obtain ⟨a, b, c⟩ := h.2.1 rfl
    have e : ((keysOf l).filter sat).min? = some best := by
      rw [List.min?_eq_some_iff]
      exact ⟨List.mem_filter.2 ⟨a, b⟩, fun y hy => c y (List.mem_filter.1 hy).1 (h0 _) (List.mem_filter.1 hy).2⟩
    rw [e]
  | false =>
    obtain ⟨rfl, b⟩ := h.2.2 rfl
    have e : (keysOf l).filter sat = [] := List.filter_eq_nil_iff.2 fun y hy => by rw [b y hy (h0 _)]; simp
    rw [e]; rfl
theorem mask_or (l : List Int) (x : Int) (k : Nat) (hk : k < 10) (hx : l.getD k 0 = x) : bits BinOp.or .i64 (maskOf l x k) (IntKind.i64.wrap (2 ^ k)) = maskOf l x (k + 1) := by
  have h := maskN_lt l x k
  have h2 : 2 ^ k ≤ 2 ^ 9 := Nat.pow_le_pow_right (by omega) (by omega)
  have e : IntKind.i64.wrap (2 ^ k) = ((2 ^ k : Nat) : Int) := by
    rw [i64_w]; unfold wrap64
    have e2 : ((2 : Int) ^ k) = ((2 ^ k : Nat) : Int) := by simp
    rw [e2]; omega
  rw [e]
  unfold maskOf
  rw [maskN, if_pos hx]
  exact (bits_nat .i64 62 (by decide) (fun n h0 h1 => by rw [i64_w]; unfold wrap64; omega) _ _ (by omega) (by omega)).2
theorem f_range {k : Nat} {l0 : List Int} {a1_0 : Int} {l1_1 : List Int} {l1_2 : List S27} {r : Int × Bool} (h : catchup_Trusted.f k l0 a1_0 l1_1 l1_2 = some r) (i : Int) (h0 : 0 ≤ i) (h1 : i < nOf l0) : 0 ≤ rd l0 i ∧ rd l0 i < 18446744073709551616 := by
  unfold catchup_Trusted.f at h
  split at h
  · rename_i hc
    refine hc.1 _ ?_
    unfold nOf at h1
    unfold rd
    rw [List.mem_iff_getElem]
    refine ⟨i.toNat, by simp only [List.length_take]; omega, ?_⟩
    rw [List.getElem_take]; simp [List.getD, List.getElem?_eq_getElem (show i.toNat < l0.length by omega)]
  · cases h
theorem f_some {k : Nat} {l0 : List Int} {a1_0 : Int} {l1_1 : List Int} {l1_2 : List S27} {r : Int × Bool} (h : catchup_Trusted.f k l0 a1_0 l1_1 l1_2 = some r) :
    (match ((keysOf l0).filter (catchup_Trusted.sat k l0 a1_0 l1_1 l1_2)).min? with | some m => some (m, true) | none => some ((0 : Int), false)) = some r := by
  unfold catchup_Trusted.f at h
  split at h
  · exact h
  · cases h
theorem f_sat {k : Nat} {l0 : List Int} {a1_0 : Int} {l1_1 : List Int} {l1_2 : List S27} {r : Int × Bool} (h : catchup_Trusted.f k l0 a1_0 l1_1 l1_2 = some r) (x : Int) (hx : x ∈ keysOf l0) :
    threshold_Satisfied.f k a1_0 l1_1 l1_2 (maskOf l0 x (nOf l0)) = some (catchup_Trusted.sat k l0 a1_0 l1_1 l1_2 x) := by
  unfold catchup_Trusted.f at h
  split at h
  · rename_i hc
    have h1 := hc.2 x hx
    unfold catchup_Trusted.sat
    cases e : threshold_Satisfied.f k a1_0 l1_1 l1_2 (maskOf l0 x (nOf l0)) with
    | none => rw [e] at h1; cases h1
    | some b => cases b <;> rfl
  · cases h
theorem law30 : Keyed Tryd.prog 30 := int_keyed Tryd.underlying30
theorem zero3 (w : World) : (zeroValue 3).run Tryd.prog w = .ok (.int .i64 0) w := by kernel_rfl

set_option maxRecDepth 100000 in
set_option maxHeartbeats 1000000 in
theorem catchup_Trusted.calls (k : Nat) (A0 : Option Addr) (c0 : Nat) (l0 : List Int) (a1_0 : Int) (A1_1 : Option Addr) (c1_1 : Nat) (l1_1 : List Int) (A1_2 : Option Addr) (c1_2 : Nat) (l1_2 : List S27) (r1 : Int) (r2 : Bool) (w : World) (hr0 : Kd.C (Kd.int .u64) w A0 l0.length l0) (hc0 : l0.length ≤ c0) (hr1_1 : Kd.C (Kd.int .i64) w A1_1 l1_1.length l1_1) (hc1_1 : l1_1.length ≤ c1_1) (hr1_2 : Kd.C k27 w A1_2 l1_2.length l1_2) (hc1_2 : l1_2.length ≤ c1_2) (h : catchup_Trusted.f k l0 a1_0 l1_1 l1_2 = some (r1, r2)) :
    Calls Tryd.prog 10 #[.slice A0 l0.length c0, .agg #[.int .i64 a1_0, .slice A1_1 l1_1.length c1_1, .slice A1_2 l1_2.length c1_2]] w fun e w' => e = .returned (.tuple #[.int .u64 r1, .bool r2]) ∧ Below w.heap.size w w' := by
  have hmm := @run_makeMap Tryd.prog
  have hu27 := Tryd.underlying27
  have HR0 := Aside0.mk hr0; clear hr0
  have HR11 := Aside0.mk hr1_1; clear hr1_1
  have HR12 := Aside0.mk hr1_2; clear hr1_2
  have Hh := Aside0.mk h; clear h
  have hT : ∃ n, n = nOf l0 ∧ n ≤ 10 ∧ n ≤ l0.length := ⟨_, rfl, by unfold nOf; omega, by unfold nOf; omega⟩
  obtain ⟨n, hn, hn10, hnl⟩ := hT
  have HN := Aside0.mk hn; clear hn
  rcases Nat.lt_or_ge 10 l0.length with hle | hle
  case' inl => have hI : (10 : Int) < (l0.length : Int) := by omega
  case' inr =>
    have hI : ¬ (10 : Int) < (l0.length : Int) := by omega
    have hI2 : (l0.length : Int) ≤ 10 := by omega
  all_goals
    go_enter Tryd.func10, Tryd.ntmps10
    go_wp2
  all_goals
    clear hmm
    go_loopw [20] (fun i wr => ∃ kk : Nat, kk ≤ n ∧ i = .int .i64 kk ∧ Aside0 (wr.ownsMap Tryd.prog 30 (plainElem (H := Unit) Tryd.prog 3) (w.heap.size + 1) kk (tD l0 kk)) ∧ Aside0 (Below w.heap.size w wr) ∧ Aside0 (wr.heap[w.heap.size]? = some (.cells #[.int .i64 a1_0, .slice A1_1 l1_1.length c1_1, .slice A1_2 l1_2.length c1_2] 27 (0, 0)))) (fun i _ => n - (intOf i).toNat)
    case atStart => exact ⟨0, Nat.zero_le _, rfl, ⟨by have h_ := World.ownsMap_made (w.alloc (.cells #[.int .i64 a1_0, .slice A1_1 l1_1.length c1_1, .slice A1_2 l1_2.length c1_2] 27)) Tryd.prog 30 (plainElem (H := Unit) Tryd.prog 3); simpa [tD] using h_⟩, ⟨((Below.refl _ _).alloc (Nat.le_refl _) _).alloc (by simp) _⟩, ⟨blk_alloc (heap_alloc_new w _) _⟩⟩
    case round =>
      obtain ⟨kk, hkk, rfl, OWN, HB, HX⟩ := hrel
      by_cases hlt : kk < n
      · obtain ⟨ad, rfl, hc0'⟩ := Kd.at_int HR0.out (kk : Int) (by omega) (by omega)
        have hc := pw_cell_below HB.out hc0'
        rw [Int.toNat_natCast] at hc
        clear hc0'
        have hi : (kk : Int) < 10 := by omega
        have hi2 : (kk : Int) < l0.length := by omega
        obtain ⟨x, hx⟩ : ∃ x, rd l0 (kk : Int) = x := ⟨_, rfl⟩
        rw [hx] at hc
        have HX0 := Aside0.mk hx; clear hx
        by_cases hx0 : x = 0
        · subst hx0
          go_wp2
          go_roundw
          case rel => exact ⟨kk + 1, by omega, by go_num, ⟨by have h_ := HX0.out; unfold rd at h_; rw [Int.toNat_natCast] at h_; unfold tD; rw [if_pos h_]; exact OWN.out.mono (by omega)⟩, HB, HX⟩
          case measure => simp [intOf]; omega
        · have hxt : (x != 0) = true := by simpa using hx0
          have hxr : 0 ≤ x ∧ x < 18446744073709551616 := by rw [← HX0.out]; exact f_range Hh.out _ (by omega) (by have h_ := HN.out; omega)
          have hkey : keyOf Tryd.prog 30 (.int .u64 x) = some (.int .u64 x) := keyOf_int_mk Tryd.underlying30 (u64_wf hxr.1 hxr.2)
          obtain ⟨c, hlk, hat, _⟩ := OWN.out.drew.lookup_int law30 Tryd.underlying63 Tryd.underlying3 (zero3 _) hkey
          have hc2 : c = maskOf l0 x kk := by
            rw [tD_at l0 x hx0] at hat
            injection hat with hat; injection hat with _ hat; exact hat.symm
          subst hc2
          clear hat
          have hxk : l0.getD kk 0 = x := by have h_ := HX0.out; unfold rd at h_; rwa [Int.toNat_natCast] at h_
          obtain ⟨m, hm⟩ : ∃ m, m = maskOf l0 x (kk + 1) := ⟨_, rfl⟩
          have hb := (mask_or l0 x kk (by omega) hxk).trans hm.symm
          have hb1 : bits BinOp.or .i64 (maskOf l0 x kk) (IntKind.i64.wrap (2 ^ kk)) = m := hb
          have hb2 : bits BinOp.or .i64 (maskOf l0 x kk) (wrap64 (2 ^ kk)) = m := by rw [← hb1]; rw [i64_w]
          obtain ⟨w1, hup, own1, hg1⟩ := OWN.out.drew.update law30 Tryd.underlying63 (by unfold maxLen; omega) hkey (plainElem_int (H := Unit) Tryd.underlying3 (show (Lit.int .i64 m).wf = true by rw [hm]; exact mask_wf l0 x (kk + 1) (by omega)))
          have OWN1 := Aside0.mk own1; clear own1
          have G1 := Aside0.mk hg1; clear hg1
          have HM := Aside0.mk hm; clear hm
          have HXK := Aside0.mk hxk; clear hxk
          clear hb
          go_wp2
          go_region
          all_goals
            go_wp2
            go_roundw
            case rel => exact ⟨kk + 1, by omega, by go_num, ⟨by unfold tD; rw [if_neg (by rw [HXK.out]; exact hx0), HXK.out, ← HM.out]; exact OWN1.out⟩, ⟨(below_drew HB.out).grown G1.out HB.out.size (fun j hj => by cases hj; omega)⟩, ⟨(G1.out.block _ (blk_lt HX.out) (by intro e_; injection e_ with e_; omega)).trans HX.out⟩⟩
            case measure => simp [intOf]; omega
      · obtain rfl : kk = n := by omega
        have hge : (l0.length : Int) ≤ kk ∨ (10 : Int) ≤ kk := by have h_ := HN.out; unfold nOf at h_; omega
        first
          | (have hge1 : ¬ (kk : Int) < (l0.length : Int) := by omega
             have hge2 : ¬ kk < l0.length := by omega)
          | have hge1 : ¬ (kk : Int) < 10 := by omega
        clear hge
        go_wp2_with (first
          | (at_range; refine wpList_range_own _ rfl _ 63 rfl 30 3 law30 Tryd.underlying63 _ (w.heap.size + 1) kk _ rfl OWN.out ?_; intro w0 hrg0 hg0 hs0)
          | go_in)
        have HTI := Aside0.mk (TInv.start (catchup_Trusted.sat k l0 a1_0 l1_1 l1_2) l0)
        rw [← HN.out] at HTI
        have hsz := hs0
        have HR0' := Aside0.mk hrg0; clear hrg0
        have HB0 : Aside0 (Below w.heap.size w w0) := ⟨HB.out.grown hg0 HB.out.size (fun j hj => by cases hj)⟩
        have HX1 : Aside0 (w0.heap[w.heap.size]? = some (.cells #[.int .i64 a1_0, .slice A1_1 l1_1.length c1_1, .slice A1_2 l1_2.length c1_2] 27 (0, 0))) := ⟨(hg0.block _ (blk_lt HX.out) (by simp)).trans HX.out⟩
        have hit : w.heap.size + 2 ≤ wr.heap.size := by have h_ := OWN.out.lt; omega
        obtain ⟨it, hit'⟩ : ∃ it, it = wr.heap.size := ⟨_, rfl⟩
        rw [← hit'] at hit HR0'
        try rw [← hit']
        clear hs0 hg0 hit' hsz HB HX OWN
        go_loopw [9, 10] (fun s9 s10 w2 => ∃ (left : Lit → Bool) (cnt : Nat) (best : Int) (found : Bool), s9 = .int .u64 best ∧ s10 = .bool found ∧ Aside0 (w2.ranges Tryd.prog 30 (plainElem (H := Unit) Tryd.prog 3) (w.heap.size + 1) it kk (tD l0 kk) left cnt) ∧ Aside0 (Below w.heap.size w w2) ∧ Aside0 (w2.heap[w.heap.size]? = some (.cells #[.int .i64 a1_0, .slice A1_1 l1_1.length c1_1, .slice A1_2 l1_2.length c1_2] 27 (0, 0))) ∧ Aside0 (TInv (tD (H := Unit) l0 kk) (catchup_Trusted.sat k l0 a1_0 l1_1 l1_2) l0 left best found)) (fun _ _ w2 => w2.rangeLeft (w.heap.size + 1) it)
        case atStart => exact ⟨_, _, _, _, rfl, rfl, HR0', HB0, HX1, HTI⟩
        case round =>
          clear HR0' HB0 HX1 HTI
          obtain ⟨left, cnt, best, found, rfl, rfl, RG, HB, HX, HI⟩ := hrel
          go_wp2_with (first
            | (at_next; refine wpList_next_ranges_ii _ rfl _ rfl 30 3 .u64 .i64 law30 Tryd.underlying30 Tryd.underlying3 (w.heap.size + 1) it kk _ _ _ rfl RG.out ?_ ?_)
            | go_in)
          · intro _ hl0
            have hfin := HI.out.done hl0
            have hr := f_some Hh.out
            rw [hr] at hfin
            injection hfin with hfin
            injection hfin with e1 e2
            subst e1 e2
            clear hr
            go_wp2
            go_ret2
            exact ⟨rfl, HB.out⟩
          · intro x c w1 cnt1 hwx hwc hlx hat hrg1 hlt hg1 hs1 hen
            have hxk : x ∈ keysOf l0 := by
              have h_ := HI.out.1 _ hlx
              rw [HN.out] at h_
              exact (has_keys l0 x).1 h_
            have hx0 : x ≠ 0 := ((mem_keysOf l0 x).1 hxk).1
            have hcm : c = maskOf l0 x kk := by
              have h_ := hat (.lit (.int .i64 0))
              rw [tD_at l0 x hx0] at h_
              injection h_ with h_; injection h_ with _ h_; exact h_.symm
            subst hcm
            have hs := f_sat Hh.out x hxk
            rw [← HN.out] at hs
            have HB1 : Below w.heap.size w w1 := HB.out.grown hg1 HB.out.size (fun j hj => by cases hj; omega)
            have HX1 : w1.heap[w.heap.size]? = some (.cells #[.int .i64 a1_0, .slice A1_1 l1_1.length c1_1, .slice A1_2 l1_2.length c1_2] 27 (0, 0)) := (hg1.block _ (blk_lt HX.out) (by intro e_; injection e_ with e_; omega)).trans HX.out
            have hcell0 : w1.cell? ⟨w.heap.size, 0, none⟩ = some (.int .i64 a1_0) := (blk_cell HX1 0).trans rfl
            have hcell1 : w1.cell? ⟨w.heap.size, 1, none⟩ = some (.slice A1_1 l1_1.length c1_1) := (blk_cell HX1 1).trans rfl
            have hcell2 : w1.cell? ⟨w.heap.size, 2, none⟩ = some (.slice A1_2 l1_2.length c1_2) := (blk_cell HX1 2).trans rfl
            have hcall := fun b hb => threshold_Satisfied.calls k a1_0 A1_1 c1_1 l1_1 A1_2 c1_2 l1_2 (maskOf l0 x kk) b w1 (Kd.C_below HR11.out HB1) hc1_1 (Kd.C_below HR12.out HB1) hc1_2 hb
            have RG1 := Aside0.mk hrg1; clear hrg1
            have HBB := Aside0.mk HB1; clear HB1
            have HXX := Aside0.mk HX1; clear HX1
            have G1 := Aside0.mk hg1; clear hg1
            have HXK := Aside0.mk hxk; clear hxk
            have CNT := Aside0.mk hlt; clear hlt
            clear hat hlx hwx hwc
            obtain ⟨m, hm⟩ : ∃ m, maskOf l0 x kk = m := ⟨_, rfl⟩
            rw [hm] at hen hcall hs
            clear hm
            cases hb : catchup_Trusted.sat k l0 a1_0 l1_1 l1_2 x with
            | false =>
              rw [hb] at hs
              have hcal := hcall _ hs
              have HBS := Aside0.mk hb
              clear hcall hs hb
              go_wp2_with (go_at_call 31; refine hcal.mono ?_; rintro e w3 ⟨rfl, hb3⟩)
              go_roundw
              case rel => exact ⟨_, cnt1, best, found, rfl, rfl, ⟨RG1.out.kept (grown_of_below hb3 none) (by simp) (by simp)⟩, ⟨below_then HBB.out HBB.out.size hb3⟩, ⟨(hb3.block _ (blk_lt HXX.out)).trans HXX.out⟩, ⟨HI.out.no HBS.out⟩⟩
              case measure => rw [(RG1.out.kept (grown_of_below hb3 none) (by simp) (by simp)).left_eq, RG.out.left_eq]; exact CNT.out
            | true =>
              rw [hb] at hs
              have hcal := hcall _ hs
              have HBS := Aside0.mk hb
              clear hcall hs hb
              cases found with
              | false =>
                go_wp2_with (go_at_call 31; refine hcal.mono ?_; rintro e w3 ⟨rfl, hb3⟩)
                go_roundw
                case rel => exact ⟨_, cnt1, x, true, rfl, rfl, ⟨RG1.out.kept (grown_of_below hb3 none) (by simp) (by simp)⟩, ⟨below_then HBB.out HBB.out.size hb3⟩, ⟨(hb3.block _ (blk_lt HXX.out)).trans HXX.out⟩, ⟨HI.out.better HBS.out HXK.out (fun h_ => by cases h_)⟩⟩
                case measure => rw [(RG1.out.kept (grown_of_below hb3 none) (by simp) (by simp)).left_eq, RG.out.left_eq]; exact CNT.out
              | true =>
                by_cases hxb : x < best
                · go_wp2_with (go_at_call 31; refine hcal.mono ?_; rintro e w3 ⟨rfl, hb3⟩)
                  go_roundw
                  case rel => exact ⟨_, cnt1, x, true, rfl, rfl, ⟨RG1.out.kept (grown_of_below hb3 none) (by simp) (by simp)⟩, ⟨below_then HBB.out HBB.out.size hb3⟩, ⟨(hb3.block _ (blk_lt HXX.out)).trans HXX.out⟩, ⟨HI.out.better HBS.out HXK.out (fun _ => hxb)⟩⟩
                  case measure => rw [(RG1.out.kept (grown_of_below hb3 none) (by simp) (by simp)).left_eq, RG.out.left_eq]; exact CNT.out
                · go_wp2_with (go_at_call 31; refine hcal.mono ?_; rintro e w3 ⟨rfl, hb3⟩)
                  go_roundw
                  case rel => exact ⟨_, cnt1, best, true, rfl, rfl, ⟨RG1.out.kept (grown_of_below hb3 none) (by simp) (by simp)⟩, ⟨below_then HBB.out HBB.out.size hb3⟩, ⟨(hb3.block _ (blk_lt HXX.out)).trans HXX.out⟩, ⟨HI.out.worse (by omega)⟩⟩
                  case measure => rw [(RG1.out.kept (grown_of_below hb3 none) (by simp) (by simp)).left_eq, RG.out.left_eq]; exact CNT.out
theorem catchup_Trusted.mono : ∀ l0 a1_0 l1_1 l1_2 k, LeO (catchup_Trusted.f k l0 a1_0 l1_1 l1_2) (catchup_Trusted.f (k + 1) l0 a1_0 l1_1 l1_2) := by
  intro l0 a1_0 l1_1 l1_2 k r h
  have hsat : ∀ x ∈ keysOf l0, threshold_Satisfied.f (k + 1) a1_0 l1_1 l1_2 (maskOf l0 x (nOf l0)) = some (catchup_Trusted.sat k l0 a1_0 l1_1 l1_2 x) := fun x hx => threshold_Satisfied.mono _ _ _ _ _ _ (f_sat h x hx)
  have hf : (keysOf l0).filter (catchup_Trusted.sat (k + 1) l0 a1_0 l1_1 l1_2) = (keysOf l0).filter (catchup_Trusted.sat k l0 a1_0 l1_1 l1_2) := by
    refine List.filter_congr fun x hx => ?_
    rw [catchup_Trusted.sat, hsat x hx]
    cases catchup_Trusted.sat k l0 a1_0 l1_1 l1_2 x <;> rfl
  have hs := f_some h
  unfold catchup_Trusted.f at h ⊢
  split at h
  · rename_i hc
    rw [if_pos ⟨hc.1, fun x hx => by rw [hsat x hx]; rfl⟩, hf]
    exact hs
  · cases h

def catchup_Verify.f (l0 : List S89) (a1 a2 : Int) : Option Bool := match l0 with
  | [] => some (a1 == a2)
  | _ :: _ => none
set_option maxRecDepth 100000 in
theorem catchup_Verify.calls (A0 : Option Addr) (c0 : Nat) (l0 : List S89) (a1 a2 : Int) (r : Bool) (w : World) (hr0 : Kd.C k89 w A0 l0.length l0) (hc0 : l0.length ≤ c0) (h : catchup_Verify.f l0 a1 a2 = some r) :
    Calls Tryd.prog 35 #[.slice A0 l0.length c0, .int .u64 a1, .int .u64 a2] w fun e w' => e = .returned (.bool r) ∧ Below w.heap.size w w' := by
  cases l0 with
  | cons x l => cases h
  | nil =>
    clear hr0
    obtain rfl : (a1 == a2) = r := Option.some.inj h
    clear h
    go_enter Tryd.func35, Tryd.ntmps35
    go_wp2
    refine wp_loop_rounds 1 ?_
    rw [rounds_succ]
    go_wp2
    go_ret
    exact ⟨rfl, by first | exact Below.refl _ _ | exact (Below.refl _ _).alloc (Nat.le_refl _) _⟩
end Go.Proofs.YtocadlecfddbcaaDoor.QCatchupTrusts
