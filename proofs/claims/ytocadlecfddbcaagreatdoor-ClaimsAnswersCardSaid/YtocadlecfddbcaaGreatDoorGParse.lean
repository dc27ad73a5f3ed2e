/- claims.Parse: the fields, each cut at '=', both halves read by Atoi; then Plain and Text. -/
import Derived.Test.YtocadlecfddbcaaGreatDoorQClaimsx3
import Derived.Test.YtocadlecfddbcaaGreatDoorQClaimsx4
import Derived.Test.YtocadlecfddbcaaGreatDoorGWorld
namespace Go.Proofs.YtocadlecfddbcaaGreatDoor.QClaims
open Go.RowKit Go.Proofs.YtocadlecfddbcaaGreatDoorW.PrintWords Go.Proofs.YtocadlecfddbcaaGreatDoorW.PrintLast Go.Proofs.YtocadlecfddbcaaGreatDoorW.PrintMore
set_option linter.unusedVariables false
set_option linter.unusedSimpArgs false
def atoiE (l : List UInt8) : Option Int := match Lib.atoiAll l with | .ok v => some v | _ => none
theorem atoi_calls (s : ByteArray) (w : World) (hG : TG w) (hs : s.size ≤ 100000) :
    Calls Tryz.prog 50 #[.string s] w fun e w' => (∃ v er, e = .returned (.tuple #[.int .i64 v, er]) ∧ ((atoiE s.data.toList = some v ∧ er = .nilIface) ∨ (atoiE s.data.toList = none ∧ ∃ tp p, er = .iface tp p))) ∧ Below w.heap.size w w' := by
  obtain ⟨_, _, _, ⟨t4, p4, h4⟩, ⟨t5, p5, h5⟩, _⟩ := hG
  rcases h : Lib.atoiAll s.data.toList with v | _ | _
  ·
    refine (Tryz.strconv_Atoi_ok s (by omega) v h w).mono ?_
    rintro e w' ⟨rfl, hw⟩
    refine ⟨⟨v, _, rfl, .inl ⟨by unfold atoiE; rw [h], rfl⟩⟩, ?_⟩
    rcases hw with rfl | ⟨t, rfl⟩
    · exact Below.refl _ _
    · exact Lib.bytesWorld_below w 5 t
  ·
    refine (Any.strconv_Atoi_syntax_var Tryz.laysC172 s (by omega) h t4 p4 w h4).mono ?_
    rintro e w' ⟨N, rfl, _, _, hb⟩
    exact ⟨⟨_, _, rfl, .inr ⟨by unfold atoiE; rw [h], _, _, rfl⟩⟩, hb⟩
  ·
    refine (Any.strconv_Atoi_range_var Tryz.laysC172 s (by omega) h t5 p5 w h5).mono ?_
    rintro e w' ⟨N, rfl, _, _, hb⟩
    exact ⟨⟨_, _, rfl, .inr ⟨by unfold atoiE; rw [h], _, _, rfl⟩⟩, hb⟩
theorem atoi_some (s : ByteArray) (v : Int) (w : World) (hG : TG w) (hs : s.size ≤ 100000) (h : atoiE s.data.toList = some v) : Calls Tryz.prog 50 #[.string s] w fun e w' => e = .returned (.tuple #[.int .i64 v, .nilIface]) ∧ Below w.heap.size w w' := by
  refine (atoi_calls s w hG hs).mono ?_
  rintro e w' ⟨⟨v', er, rfl, (⟨h', rfl⟩ | ⟨h', _⟩)⟩, hb⟩
  · rw [h] at h'; obtain rfl := Option.some.inj h'; exact ⟨rfl, hb⟩
  · rw [h] at h'; cases h'
theorem atoi_none (s : ByteArray) (w : World) (hG : TG w) (hs : s.size ≤ 100000) (h : atoiE s.data.toList = none) : Calls Tryz.prog 50 #[.string s] w fun e w' => (∃ v tp p, e = .returned (.tuple #[.int .i64 v, .iface tp p])) ∧ Below w.heap.size w w' := by
  refine (atoi_calls s w hG hs).mono ?_
  rintro e w' ⟨⟨v', er, rfl, (⟨h', _⟩ | ⟨_, tp, p, rfl⟩)⟩, hb⟩
  · rw [h] at h'; cases h'
  · exact ⟨⟨v', tp, p, rfl⟩, hb⟩
theorem fieldsGoD_le : ∀ (f : Nat) (cur l : List UInt8), ∀ x ∈ Lib.fieldsGoD f cur l, x.length ≤ cur.length + l.length
  | 0, cur, l, x, hx => by
    unfold Lib.fieldsGoD at hx
    split at hx
    · cases hx
    · simp at hx; subst hx; omega
  | f + 1, cur, l, x, hx => by
    unfold Lib.fieldsGoD at hx
    have hc : ∀ y, y ∈ (if cur = [] then [] else [cur]) → y.length ≤ cur.length := by
      intro y hy; split at hy
      · cases hy
      · simp at hy; subst hy; omega
    split at hx
    · have := hc x hx; omega
    · split at hx
      · rcases List.mem_append.1 hx with h | h
        · have := hc x h; omega
        · have := fieldsGoD_le f _ _ x h
          simp at this; omega
      · have := fieldsGoD_le f _ _ x hx
        simp at this; omega
theorem fieldsGoD_len : ∀ (f : Nat) (cur l : List UInt8), (Lib.fieldsGoD f cur l).length ≤ f + 1
  | 0, cur, l => by unfold Lib.fieldsGoD; split <;> simp
  | f + 1, cur, l => by
    unfold Lib.fieldsGoD
    have hc : (if cur = [] then ([] : List (List UInt8)) else [cur]).length ≤ 1 := by split <;> simp
    split
    · omega
    · split
      · have := fieldsGoD_len f [] (l.drop (Lib.decodeL l).2)
        rw [List.length_append]; omega
      · have := fieldsGoD_len f (cur ++ l.take (Lib.decodeL l).2) (l.drop (Lib.decodeL l).2)
        omega
theorem fieldsD_len (s : ByteArray) (h : ¬ s.size > 6000) : (Lib.fieldsD s.data.toList).length ≤ 6002 := by
  unfold Lib.fieldsD
  have h1 := fieldsGoD_len (s.data.toList.length + 1) [] s.data.toList
  have e : s.data.toList.length = s.size := by simp
  omega
theorem fieldsD_el (s : ByteArray) (h : ¬ s.size > 6000) : ∀ x ∈ Lib.fieldsD s.data.toList, x.length ≤ 6000 := by
  intro x hx
  unfold Lib.fieldsD at hx
  have h1 := fieldsGoD_le _ [] _ x hx
  have e : s.data.toList.length = s.size := by simp
  simp only [List.length_nil, Nat.zero_add] at h1
  omega
/-- What a word says. -/
def wordC (x : List UInt8) : Option S24 := match atoiE (Lib.cut x [61]).1, atoiE (Lib.cut x [61]).2.1 with | some a, some b => some ⟨a, b⟩ | _, _ => none
def wordsC : List (List UInt8) → Option (List S24)
  | [] => some []
  | x :: l => match wordC x, wordsC l with | some a, some r => some (a :: r) | _, _ => none
theorem wordsC_snoc (l : List (List UInt8)) (x : List UInt8) : wordsC (l ++ [x]) = match wordsC l, wordC x with | some r, some a => some (r ++ [a]) | _, _ => none := by
  induction l with
  | nil => simp only [List.nil_append, wordsC]; cases wordC x <;> rfl
  | cons y l ih =>
    simp only [List.cons_append, wordsC, ih]
    cases wordC y <;> cases wordsC l <;> cases wordC x <;> rfl
theorem wordsC_none (l m : List (List UInt8)) (h : wordsC l = none) : wordsC (l ++ m) = none := by
  induction l with
  | nil => simp [wordsC] at h
  | cons y l ih =>
    simp only [List.cons_append, wordsC] at h ⊢
    cases hy : wordC y with
    | none => rfl
    | some a =>
      rw [hy] at h
      cases hl : wordsC l with
      | none => rw [ih hl]
      | some r => rw [hl] at h; cases h
def claims_Parse.f (k : Nat) (s : ByteArray) : Option (List S24 × Int) :=
  if s.size > 6000 then some ([], 3) else
  match wordsC (Lib.fieldsD s.data.toList) with
  | none => some ([], 2)
  | some out => (claims_Plain.f k out).bind fun p => if p = true then (claims_Text.f k out).bind fun t => if t = s then some (out, 0) else some ([], 2) else some ([], 2)
theorem claims_Parse.mono : ∀ a0 k, LeO (claims_Parse.f k a0) (claims_Parse.f (k + 1) a0) := by
  intro a0 k
  unfold claims_Parse.f
  split
  · exact LeO.refl _
  · split
    · exact LeO.refl _
    · refine LeO.bind (claims_Plain.mono _ _) (fun p => ?_)
      split
      · exact LeO.bind (claims_Text.mono _ _) (fun t => LeO.refl _)
      · exact LeO.refl _

theorem add_off1 (b o j : Nat) : (⟨b, o, none⟩ : Addr).add j = ⟨b, o + j, none⟩ := by unfold Addr.add; split <;> simp_all
theorem owns_reads0 {base : Nat} {w : World} {v : Value} {l : List S24} (h : w.ownsRow base 24 2 v l.length (encs l)) : ∃ A c, v = .slice A l.length c ∧ l.length ≤ c ∧ Kd.C k24 w A l.length l := by
  by_cases hv : v = .slice none 0 0
  · subst hv
    obtain ⟨h1, ⟨_, h0⟩ | ⟨g, cap, cur, e, _⟩⟩ := h
    · have : l = [] := List.length_eq_zero_iff.1 h0
      subst this
      exact ⟨none, 0, rfl, Nat.le_refl _, rfl, by simp, fun h => absurd h (Nat.lt_irrefl _)⟩
    · simp at e
  · obtain ⟨g, cap, rest, e, hR, hc⟩ := RowB.of_owns h (Below.refl base w) hv
    exact ⟨_, cap, e, hc, hR.reads⟩
theorem owns_R0 {base : Nat} {w : World} {v : Value} {l : List S24} (h : w.ownsRow base 24 2 v l.length (encs l)) : Kd.R k24 24 w base (fun _ => True) v l := ⟨fun _ _ => trivial, encs l, h, reps_encs _ _ _ l⟩
theorem own_ne (v : Value) : v.ownBlock = none ∨ v.ownBlock ≠ none := by cases v.ownBlock <;> simp
theorem own_drewN {w : World} {base : Nat} {e : TypeId} {size : Nat} {v : Value} {n : Nat} {xs : List Value} (h : w.ownsRow base e size v n xs) (k : Nat) : (w.drewN k).ownsRow base e size v n xs := h
set_option maxRecDepth 100000 in
set_option maxHeartbeats 4000000 in
theorem claims_Parse.calls (k : Nat) (a0 : ByteArray) (r1 : List S24) (r2 : Int) (w : World) (hG : TG w) (h : claims_Parse.f k a0 = some (r1, r2)) :
    Calls Tryz.prog 33 #[.string a0] w fun e w' => ∃ v0_ : Value, e = .returned (.tuple #[v0_, .int .i64 r2]) ∧ Kd.R k24 24 w' w.heap.size (fun _ => True) v0_ r1 ∧ Below w.heap.size w w' := by
  have hu52 := Tryz.underlying24
  have hu44 := Tryz.underlying46
  have HG := Aside0.mk hG; clear hG
  have nilR : ∀ w' : World, Kd.R k24 24 w' w.heap.size (fun _ => True) (.slice none 0 0) [] := fun w' => ⟨fun _ _ => trivial, [], World.ownsRow_nil _ _ _ _, Reps.none _ _⟩
  have NR := Aside0.mk nilR; clear nilR
  unfold claims_Parse.f at h
  by_cases hsz : a0.size > 6000
  · rw [if_pos hsz] at h
    obtain ⟨rfl, rfl⟩ := Prod.mk.inj (Option.some.inj h)
    clear h
    have hszd : decide (6000 < (a0.size : Int)) = true := decide_eq_true (by omega)
    go_enter Tryz.func33, Tryz.ntmps33
    go_wp2
    go_ret2
    exact ⟨_, rfl, NR.out _, Below.refl _ _⟩
  · rw [if_neg hsz] at h
    have hszd : decide (6000 < (a0.size : Int)) = false := decide_eq_false (by omega)
    have hf := Tryz.strings_Fields_any a0 w (by omega) HG.out.1 HG.out.2.1
    obtain ⟨ws, hws⟩ : ∃ ws, Lib.fieldsD a0.data.toList = ws := ⟨_, rfl⟩
    rw [hws] at h hf
    have HWS := Aside0.mk hws; clear hws
    have H := Aside0.mk h; clear h
    have HF := Aside0.mk hf; clear hf
    have HSZ := Aside0.mk hsz; clear hsz
    go_enter Tryz.func33, Tryz.ntmps33
    go_wp2_with (go_at_call 48; refine HF.out.mono ?_; rintro e w1 ⟨A, rfl, hA, hO, hb⟩; have HA := Aside0.mk hA; have OW := Aside0.mk hO; have HB := Aside0.mk hb; clear hA hO hb HF)
    have HLEN := Aside0.mk (HWS.out ▸ fieldsD_len a0 HSZ.out : ws.length ≤ 6002)
    have HXL := Aside0.mk (HWS.out ▸ fieldsD_el a0 HSZ.out : ∀ x ∈ ws, x.length ≤ 6000)
    obtain ⟨i0, hi, hzz⟩ := Option.map_eq_some_iff.1 info24
    simp only [Prod.mk.injEq] at hzz
    obtain ⟨hz0, hz1, hz2⟩ := hzz
    have hz0' := Aside0.mk hz0; have hz1' := Aside0.mk hz1; have hz2' := Aside0.mk hz2; have hi' := Aside0.mk hi
    clear hz0 hz1 hz2 hi hszd
    have AL := Aside0.mk (OW.out.lt A rfl).2
    go_loopg [4, 20] ws.length (fun gg v4 s20 wr => ∃ (j : Nat) (out : List S24), j ≤ ws.length ∧ ws.length - j ≤ gg ∧ s20 = .int .i64 j ∧ Aside0 (wordsC (ws.take j) = some out) ∧ Aside0 (out.length = j) ∧ Aside0 (wr.ownsRow w1.heap.size 24 2 v4 out.length (encs out)) ∧ Aside0 (Below w1.heap.size w1 wr))
    case atStart => exact ⟨0, [], Nat.zero_le _, Nat.sub_le _ _, rfl, ⟨rfl⟩, ⟨rfl⟩, ⟨World.ownsRow_nil _ _ _ _⟩, ⟨Below.refl _ _⟩⟩
    case round =>
      obtain ⟨j, out, hj, hg, rfl, WC, OL, OO, BW⟩ := hrel
      by_cases hlt : j < ws.length
      · have hltz : (j : Int) < (ws.length : Int) := by omega
        obtain ⟨x, hx⟩ : ∃ x, ws[j] = x := ⟨_, rfl⟩
        have hmem : x ∈ ws := by rw [← hx]; exact List.getElem_mem hlt
        have hxl := HXL.out x hmem
        have hcell : wr.cell? ⟨A, j, none⟩ = some (.string ⟨x.toArray⟩) := by
          rw [BW.out.cell (p := ⟨A, j, none⟩) AL.out, OW.out.cellAt j (by omega), List.getElem?_map, List.getElem?_eq_getElem hlt, hx]; rfl
        have TK := Aside0.mk (show ws.take (j + 1) = ws.take j ++ [x] by rw [List.take_add_one, List.getElem?_eq_getElem hlt, hx]; rfl)
        have BWW := Aside0.mk (HB.out.trans (BW.out.mono HB.out.size))
        obtain ⟨m, hm⟩ := (TG_below HG.out BWW.out).2.2.1
        have hcut := Tryz.strings_Cut ⟨x.toArray⟩ ⟨#[61]⟩ m wr (by show x.toArray.size < 4294967281; rw [List.size_toArray]; omega) hm
        obtain ⟨t1, ht1⟩ : ∃ t1, (Lib.cut x [61]).1 = t1 := ⟨_, rfl⟩
        obtain ⟨t2, ht2⟩ : ∃ t2, (Lib.cut x [61]).2.1 = t2 := ⟨_, rfl⟩
        have ex : (⟨x.toArray⟩ : ByteArray).data.toList = x := by simp
        have es : (⟨#[61]⟩ : ByteArray).data.toList = [61] := rfl
        rw [ex, es, ht1, ht2] at hcut
        have hl1 : t1.length ≤ 6000 := by
          rw [← ht1]; unfold Lib.cut; split <;> simp <;> omega
        have hl2 : t2.length ≤ 6000 := by
          rw [← ht2]; unfold Lib.cut; split <;> simp <;> omega
        have hL1 : (⟨t1.toArray⟩ : ByteArray).size ≤ 100000 := by show t1.toArray.size ≤ 100000; rw [List.size_toArray]; omega
        have hL2 : (⟨t2.toArray⟩ : ByteArray).size ≤ 100000 := by show t2.toArray.size ≤ 100000; rw [List.size_toArray]; omega
        have hd1 : (⟨t1.toArray⟩ : ByteArray).data.toList = t1 := by simp
        have hd2 : (⟨t2.toArray⟩ : ByteArray).data.toList = t2 := by simp
        generalize (⟨x.toArray⟩ : ByteArray) = sx at hcell hcut
        generalize (⟨t1.toArray⟩ : ByteArray) = s1 at hcut hL1 hd1
        generalize (⟨t2.toArray⟩ : ByteArray) = s2 at hcut hL2 hd2
        have HD1 := Aside0.mk hd1; have HD2 := Aside0.mk hd2
        have HL1 := Aside0.mk hL1; have HL2 := Aside0.mk hL2
        clear hd1 hd2 hL1 hL2
        have HT1 := Aside0.mk ht1; have HT2 := Aside0.mk ht2
        have HCUT := Aside0.mk hcut; have HM := Aside0.mk hm
        have HGG := Aside0.mk hg; have HJ := Aside0.mk hj
        clear ht1 ht2 hcut hm hl1 hl2 ex es hxl hmem hx hg hj
        cases hq1 : atoiE t1 with
        | none =>
          have Q1 := Aside0.mk hq1; clear hq1
          have HN := Aside0.mk (show wordsC ws = none by
            have e := List.take_append_drop (j + 1) ws
            rw [← e]
            refine wordsC_none _ _ ?_
            rw [TK.out, wordsC_snoc, WC.out]
            have : wordC x = none := by unfold wordC; rw [HT1.out, Q1.out]
            rw [this])
          have HR := H.out
          rw [HN.out] at HR
          obtain ⟨rfl, rfl⟩ := Prod.mk.inj (Option.some.inj HR)
          clear HR H
          go_wp2_with (first
            | (go_at_call 49; refine HCUT.out.mono ?_; rintro e w2 ⟨rfl, nd, rfl⟩; have B0 := Aside0.mk (pw_below_drewN BWW.out nd); clear BWW BW OO)
            | (go_at_call 50; refine (atoi_none s1 _ (TG_below HG.out B0.out) HL1.out (by rw [HD1.out]; exact Q1.out)).mono ?_; rintro e w2 ⟨⟨v1, tp1, p1, rfl⟩, hb_⟩; have B1 := Aside0.mk (below_step B0.out hb_); clear hb_ B0)
            | (go_at_call 50; refine (atoi_calls s2 _ (TG_below HG.out B1.out) HL2.out).mono ?_; rintro e w3 ⟨⟨v2, er2, rfl, _⟩, hb_⟩; have B2 := Aside0.mk (below_step B1.out hb_); clear hb_ B1))
          go_ret2
          exact ⟨_, rfl, NR.out _, B2.out⟩
        | some a =>
          cases hq2 : atoiE t2 with
          | none =>
            have Q1 := Aside0.mk hq1; have Q2 := Aside0.mk hq2; clear hq1 hq2
            have HN := Aside0.mk (show wordsC ws = none by
              have e := List.take_append_drop (j + 1) ws
              rw [← e]
              refine wordsC_none _ _ ?_
              rw [TK.out, wordsC_snoc, WC.out]
              have : wordC x = none := by unfold wordC; rw [HT1.out, HT2.out, Q1.out, Q2.out]
              rw [this])
            have HR := H.out
            rw [HN.out] at HR
            obtain ⟨rfl, rfl⟩ := Prod.mk.inj (Option.some.inj HR)
            clear HR H
            go_wp2_with (first
              | (go_at_call 49; refine HCUT.out.mono ?_; rintro e w2 ⟨rfl, nd, rfl⟩; have B0 := Aside0.mk (pw_below_drewN BWW.out nd); clear BWW BW OO)
              | (go_at_call 50; refine (atoi_some s1 a _ (TG_below HG.out B0.out) HL1.out (by rw [HD1.out]; exact Q1.out)).mono ?_; rintro e w2 ⟨rfl, hb_⟩; have B1 := Aside0.mk (below_step B0.out hb_); clear hb_ B0)
              | (go_at_call 50; refine (atoi_none s2 _ (TG_below HG.out B1.out) HL2.out (by rw [HD2.out]; exact Q2.out)).mono ?_; rintro e w3 ⟨⟨v2, tp2, p2, rfl⟩, hb_⟩; have B2 := Aside0.mk (below_step B1.out hb_); clear hb_ B1))
            go_ret2
            exact ⟨_, rfl, NR.out _, B2.out⟩
          | some b =>
            have Q1 := Aside0.mk hq1; have Q2 := Aside0.mk hq2
            clear hq1 hq2
            go_wp2_with (first
              | (go_at_call 49; refine HCUT.out.mono ?_; rintro e w2 ⟨rfl, nd, rfl⟩; have B0 := Aside0.mk (pw_below_drewN BWW.out nd); have W0 := Aside0.mk (pw_below_drewN BW.out nd); have O0 := Aside0.mk (own_drewN OO.out nd); clear BWW BW OO)
              | (go_at_call 50; refine (atoi_some s1 a _ (TG_below HG.out B0.out) HL1.out (by rw [HD1.out]; exact Q1.out)).mono ?_; rintro e w2 ⟨rfl, hb_⟩; have B1 := Aside0.mk (below_step B0.out hb_); have W1 := Aside0.mk (below_step W0.out hb_); have O1 := Aside0.mk (World.ownsRow.kept O0.out (grown_of_below hb_ none) (own_ne _)); clear hb_; clear B0 W0 O0)
              | (go_at_call 50; refine (atoi_some s2 b _ (TG_below HG.out B1.out) HL2.out (by rw [HD2.out]; exact Q2.out)).mono ?_; rintro e w3 ⟨rfl, hb_⟩; have B2 := Aside0.mk (below_step B1.out hb_); have W2 := Aside0.mk (below_step W1.out hb_); have O2 := Aside0.mk (World.ownsRow.kept O1.out (grown_of_below hb_ none) (own_ne _)); clear hb_; clear B1 W1 O1)
              | (at_builtin; refine wpList_append_own _ rfl _ _ 25 rfl w1.heap.size 24 i0 _ 2 16 Tryz.underlying25 hi'.out hz0'.out hz1'.out hz2'.out rfl (by decide) _ _ _ rfl (O2.out.alloc _) ⟨w3.heap.size, 0, none⟩ 1 1 (encs [⟨a, b⟩]) rfl rfl ?qc2 (encs_one _) ?qc4 ?qc5 ?qc6 ?_))
            case qc2 =>
              intro q u hu
              rw [add_off1, Nat.zero_add, cell_of_row _ _ _ _ 24 (0, 0) (heap_alloc_new w3 _)]
              simpa [encs] using hu
            case qc4 => have := OL.out; have := HLEN.out; have := HJ.out; unfold maxLen; omega
            case qc5 => have := OL.out; have := HLEN.out; have := HJ.out; omega
            case qc6 => have := W2.out.size; simp; omega
            intro v' w4 hown hgrow hnil
            have O4 := Aside0.mk hown
            have W4 := Aside0.mk ((W2.out.alloc W2.out.size _).grown hgrow (by have := W2.out.size; simp; omega) (fun q hq => (O2.out.lt q hq).1))
            clear hown hgrow hnil
            go_wp2
            go_roundg (ws.length - (j + 1))
            case measure => have := HGG.out; omega
            case rel =>
              refine ⟨j + 1, out ++ [⟨a, b⟩], by omega, Nat.le_refl _, by have := HLEN.out; congr 1; unfold wrap64; omega, ⟨?_⟩, ⟨by rw [List.length_append, OL.out]; rfl⟩, ⟨?_⟩, W4⟩
              · rw [TK.out, wordsC_snoc, WC.out]
                have : wordC x = some ⟨a, b⟩ := by unfold wordC; rw [HT1.out, HT2.out, Q1.out, Q2.out]
                rw [this]
              · rw [List.length_append, encs_append]; exact O4.out
      · obtain rfl : j = ws.length := by omega
        have hltz : ¬ (ws.length : Int) < (ws.length : Int) := by omega
        have HR := H.out
        have hw := WC.out
        rw [List.take_length] at hw
        rw [hw] at HR
        clear H hw
        obtain ⟨p, hp, HR⟩ := Option.bind_eq_some_iff.1 HR
        have HP := Aside0.mk hp; clear hp
        obtain ⟨Ao, co, rfl, hco, hCo⟩ := owns_reads0 OO.out
        have HCO := Aside0.mk hco; have HC := Aside0.mk hCo; clear hco hCo
        have BWW := Aside0.mk (HB.out.trans (BW.out.mono HB.out.size))
        have OR := Aside0.mk (owns_R0 OO.out)
        clear hg hj
        cases p with
        | false =>
          rw [if_neg (by simp)] at HR
          obtain ⟨rfl, rfl⟩ := Prod.mk.inj (Option.some.inj HR)
          clear HR
          go_wp2_with (first
            | (go_at_call 20; refine (claims_Plain.calls k Ao co out false _ HC.out HCO.out HP.out).mono ?_; rintro e w2 ⟨rfl, hb_⟩; have B1 := Aside0.mk (below_step BWW.out hb_); clear hb_))
          go_ret2
          exact ⟨_, rfl, NR.out _, B1.out⟩
        | true =>
          rw [if_pos rfl] at HR
          obtain ⟨tx, htx, HR⟩ := Option.bind_eq_some_iff.1 HR
          have HT := Aside0.mk htx; clear htx
          by_cases he : tx = a0
          · rw [if_pos he] at HR
            obtain ⟨rfl, rfl⟩ := Prod.mk.inj (Option.some.inj HR)
            clear HR
            subst he
            go_wp2_with (first
              | (go_at_call 20; refine (claims_Plain.calls k Ao co out true _ HC.out HCO.out HP.out).mono ?_; rintro e w2 ⟨rfl, hb_⟩; have B1 := Aside0.mk (below_step BWW.out hb_); have C1 := Aside0.mk (Kd.C_below HC.out hb_); have R1 := Aside0.mk (Kd.R_below OR.out hb_); clear hb_)
              | (go_at_call 24; refine (claims_Text.calls k Ao co out _ _ C1.out HCO.out HT.out).mono ?_; rintro e w3 ⟨rfl, hb_⟩; have B2 := Aside0.mk (below_step B1.out hb_); have R2 := Aside0.mk (Kd.R_below R1.out hb_); clear hb_))
            go_ret2
            exact ⟨_, rfl, Kd.R_lower R2.out HB.out.size, B2.out⟩
          · rw [if_neg he] at HR
            obtain ⟨rfl, rfl⟩ := Prod.mk.inj (Option.some.inj HR)
            clear HR
            have hed : (tx.toList == a0.toList) = false := beq_eq_false_iff_ne.2 (fun e => he (by
              rw [ByteArray.toList_eq, ByteArray.toList_eq] at e
              exact ByteArray.ext (Array.toList_inj.1 e)))
            go_wp2_with (first
              | (go_at_call 20; refine (claims_Plain.calls k Ao co out true _ HC.out HCO.out HP.out).mono ?_; rintro e w2 ⟨rfl, hb_⟩; have B1 := Aside0.mk (below_step BWW.out hb_); have C1 := Aside0.mk (Kd.C_below HC.out hb_); clear hb_)
              | (go_at_call 24; refine (claims_Text.calls k Ao co out _ _ C1.out HCO.out HT.out).mono ?_; rintro e w3 ⟨rfl, hb_⟩; have B2 := Aside0.mk (below_step B1.out hb_); clear hb_))
            go_ret2
            exact ⟨_, rfl, NR.out _, B2.out⟩
end Go.Proofs.YtocadlecfddbcaaGreatDoor.QClaims
