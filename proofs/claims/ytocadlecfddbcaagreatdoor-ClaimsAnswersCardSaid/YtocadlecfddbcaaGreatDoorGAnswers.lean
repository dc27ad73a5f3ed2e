/- ClaimsAnswers: the walk of the law, its plain facts laid before it. -/
import Derived.Test.YtocadlecfddbcaaGreatDoorGInv
import Derived.Test.YtocadlecfddbcaaGreatDoorGAwake
namespace Go.Proofs.YtocadlecfddbcaaGreatDoor.QClaims
open Go.RowKit Go.Proofs.YtocadlecfddbcaaGreatDoorW.PrintWords Go.Proofs.YtocadlecfddbcaaGreatDoorW.PrintLast Go.Proofs.YtocadlecfddbcaaGreatDoorW.PrintMore
set_option linter.unusedVariables false
set_option linter.unusedSimpArgs false
theorem add_offA (b o j : Nat) : (⟨b, o, none⟩ : Addr).add j = ⟨b, o + j, none⟩ := by unfold Addr.add; split <;> simp_all
set_option maxRecDepth 100000 in
set_option maxHeartbeats 8000000 in
theorem claimsAnswers_calls (A0 : Option Addr) (c0 : Nat) (l0 : List Int) (a b : S24) (A3 : Option Addr) (c3 : Nat) (l : List S24) (topic : Int) (text : ByteArray) (w : World) (hG : TG w) (hr0 : Kd.C (Kd.int .i64) w A0 l0.length l0) (hc0 : l0.length ≤ c0) (hm : l0.length ≤ maxLen)
    (hr3 : Kd.C k24 w A3 l.length l) (hc3 : l.length ≤ c3) (hin : ∀ x ∈ l, in64 x.f0 ∧ in64 x.f1) :
    Calls Tryz.prog 3 #[.slice A0 l0.length c0, .agg #[.int .i64 a.f0, .int .i64 a.f1], .agg #[.int .i64 b.f0, .int .i64 b.f1], .slice A3 l.length c3, .int .i64 topic, .string text] w fun e w' => e = .returned (.bool true) ∧ Below w.heap.size w w' := by
  have HG := Aside0.mk hG; clear hG
  by_cases hlen : l.length > 60
  · have hd : decide (60 < (l.length : Int)) = true := decide_eq_true (by omega)
    clear hr0 hr3 hc0 hc3 hm hlen hin
    go_enter Tryz.func3, Tryz.ntmps3
    go_wp2_with (go_at_call 4; refine (trustquorumlaw17_awake.calls true _ (TG_below HG.out (by repeat (first | exact Below.refl _ _ | apply below_alloc))) rfl).mono ?_; rintro e w1 ⟨rfl, hb⟩)
    go_ret
    exact ⟨rfl, below_step (by repeat (first | exact Below.refl _ _ | apply below_alloc)) hb⟩
  by_cases htx : text.size > 1000
  · have hd : decide (60 < (l.length : Int)) = false := decide_eq_false (by omega)
    have hd2 : decide (1000 < (text.size : Int)) = true := decide_eq_true (by omega)
    clear hr0 hr3 hc0 hc3 hm hlen hin htx
    go_enter Tryz.func3, Tryz.ntmps3
    go_wp2_with (go_at_call 4; refine (trustquorumlaw17_awake.calls true _ (TG_below HG.out (by repeat (first | exact Below.refl _ _ | apply below_alloc))) rfl).mono ?_; rintro e w1 ⟨rfl, hb⟩)
    go_ret
    exact ⟨rfl, below_step (by repeat (first | exact Below.refl _ _ | apply below_alloc)) hb⟩
  obtain ⟨L, hN, hL⟩ := new_ok l0 hm
  obtain ⟨m, p1, hC1, hml, hms, h10, h11⟩ := tapeClaims_ok L 0 8 2000000 (by omega) (by omega) (by omega) (by omega) (by omega)
  obtain ⟨m2, p2, hC2, hml2, _, h20, h21⟩ := tapeClaims_ok L p1 8 2000000 h10 h11 (by omega) (by omega) (by omega)
  obtain ⟨x0, x1, p3, hX, _, _, h30, h31⟩ := tapeClaim_ok L p2 h20 h21 (by omega)
  obtain ⟨y0, y1, p4, hY, _, _, h40, h41⟩ := tapeClaim_ok L p3 h30 h31 (by omega)
  have hd : decide (60 < (l.length : Int)) = false := decide_eq_false (by omega)
  have hd2 : decide (1000 < (text.size : Int)) = false := decide_eq_false (by omega)
  have hC1' : trustquorummake_Claims.f 2000000 L 0 8 = some (m, p1) := hC1
  have hC2' : trustquorummake_Claims.f 2000000 L p1 8 = some (m2, p2) := hC2
  have hS : trustquorumref17_Sorted.f 2000000 m2 = some (canon m2) := rsorted_f m2 2000000 (by omega) (by omega)
  have HN := Aside0.mk hN; have HC1 := Aside0.mk hC1'; have HC2 := Aside0.mk hC2'; have HS := Aside0.mk hS; have HX := Aside0.mk hX; have HY := Aside0.mk hY
  have LL := Aside0.mk (show l.length ≤ 60 by omega); have LM := Aside0.mk (show m.length ≤ 8 from hml); have LN := Aside0.mk (show (canon m2).length ≤ 128 from canon_len0 m2); have TX := Aside0.mk (show text.size ≤ 1000 by omega)
  have CONS := Aside0.mk (show (claims_Consistent.f l = some (consF l) ∧ claims_Consistent.f m = some (consF m)) ∧ claims_Consistent.f (canon m2) = some (consF (canon m2)) from by
    have sm : ∀ q : List S24, q.length ≤ 1000 → (∀ z ∈ q, in64 z.f0 ∧ in64 z.f1) → claims_Consistent.f q = some (consF q) := fun q hq h => by unfold claims_Consistent.f; rw [if_pos ⟨h, by omega⟩]
    have si : ∀ z, SmallC z → in64 z.f0 ∧ in64 z.f1 := fun z h => by unfold SmallC at h; unfold in64; omega
    exact ⟨⟨sm l (by omega) hin, sm m (by omega) (fun z hz => si z (hms z hz))⟩, sm _ (by have := canon_len0 m2; omega) (fun z hz => si z (canon_small m2 z hz))⟩)
  obtain ⟨sp, p5, hSP⟩ := spoilt_ok L p4 ⟨(txt (canon m2)).toArray⟩ h40 h41 (by omega) (by have := txt_len m2; simp [ByteArray.size]; omega)
  have SP := Aside0.mk hSP
  have LISTS := Aside0.mk (show ∀ y ∈ [l, m, canon m2], ListF y from fun y hy => by
    have h1 := LL.out; have h2 := LM.out; have h3 := LN.out
    simp only [List.mem_cons, List.mem_nil_iff, or_false] at hy
    rcases hy with rfl | rfl | rfl
    · exact ⟨by omega, CONS.out.1.1⟩
    · exact ⟨by omega, CONS.out.1.2⟩
    · exact ⟨h3, CONS.out.2⟩)
  have R0 := Aside0.mk hr0; have C0 := Aside0.mk hc0; have R3 := Aside0.mk hr3; have C3 := Aside0.mk hc3
  clear hN hC1 hC2 hC1' hC2' hS hX hY hml hms hml2 hSP hr0 hc0 hm hr3 hc3 hin hlen htx hL h10 h11 h20 h21 h30 h31 h40 h41
  have hu24 := Tryz.underlying24
  go_enter Tryz.func3, Tryz.ntmps3
  go_wp2_with (first
    | (go_at_call 5; refine (trustquorummake_New.calls A0 c0 l0 L 0 w _ (by repeat (first | exact Below.refl _ _ | apply below_alloc)) R0.out C0.out HN.out).mono ?_; rintro e w1 ⟨g, rfl, hi, hb, hb2⟩; have I1 : Inv w w1 g L 0 [(w.heap.size, a), (w.heap.size + 1, b)] [(A3, l)] [] := ⟨hb, hi, fun q hq => by
        rcases List.mem_cons.1 hq with rfl | hq
        · exact blk_below (blk_alloc (heap_alloc_new w _) _) hb2
        · obtain rfl := List.mem_singleton.1 hq
          exact blk_below (by have := heap_alloc_new (w.alloc (.cells #[.int .i64 a.f0, .int .i64 a.f1] 24)) (.cells #[.int .i64 b.f0, .int .i64 b.f1] 24); simpa using this) hb2, fun r hr => by obtain rfl := List.mem_singleton.1 hr; exact Kd.C_below R3.out hb, fun r hr => by simp at hr⟩; have J1 := Aside0.mk I1; clear I1 hi hb hb2 R0)
    | (go_at_call 6; refine (trustquorummake_Claims.calls 2000000 g L 0 8 m p1 w _ J1.out.tape J1.out.bel HC1.out).mono ?_; rintro e w2 ⟨v2, rfl, hr, hi, hb, hk⟩; obtain ⟨Am, cm, rfl, hcm, _⟩ := Kd.R_reads hr; have HCM := Aside0.mk hcm; have HRM := Aside0.mk hr; have J2 := Aside0.mk (J1.out.tapeStep hi hb hk (rs' := [(A3, l)]) (fun r hr => by obtain rfl := List.mem_singleton.1 hr; exact Kd.C_below R3.out hb)); clear hr hi hb hk hcm J1 HC1)
    | (go_at_call 6; refine (trustquorummake_Claims.calls 2000000 g L p1 8 m2 p2 w _ J2.out.tape J2.out.bel HC2.out).mono ?_; rintro e w3 ⟨v3, rfl, hr, hi, hb, hk⟩; obtain ⟨Ak, ck, rfl, hck, hCk⟩ := Kd.R_reads hr; have HCK := Aside0.mk hck; have HRK := Aside0.mk hCk; have HRM3 := Aside0.mk (Kd.R_mono (Kd.R_keep (IsS51.apart J2.out.tape HRM.out (by decide)) hk (fun _ h => h.2)) (fun _ h => h.1)); have J3 := Aside0.mk (J2.out.tapeStep hi hb hk (rs' := [(A3, l)]) (fun r hr => by obtain rfl := List.mem_singleton.1 hr; exact Kd.C_below R3.out hb)); clear hr hi hb hk hck hCk J2 HRM HC2)
    | (go_at_call 7; refine (trustquorumref17_Sorted.calls 2000000 Ak ck m2 (canon m2) _ HRK.out HCK.out HS.out).mono ?_; rintro e w4 ⟨v4, rfl, hr, hb⟩; obtain ⟨An, cn, rfl, hcn, hCn⟩ := Kd.R_reads hr; have HCN := Aside0.mk hcn; have J4 := Aside0.mk (J3.out.step hb); have HRM4 := Aside0.mk (Kd.R_below HRM3.out hb); have HRN4 := Aside0.mk hr; clear hr hb hcn hCn J3 HRM3 HRK HCK HS))
  have J5 := Aside0.mk J4.out.drew; have HRM5 := Aside0.mk (Kd.R_drew HRM4.out); have HRN5 := Aside0.mk (Kd.R_drew HRN4.out); clear J4 HRM4 HRN4
  refine start_ (n := 9) (S := fun w' => w'.cell? ⟨w.heap.size, 0, none⟩ = some (.int .i64 a.f0) ∧ w'.cell? ⟨w.heap.size, 1, none⟩ = some (.int .i64 a.f1) ∧ w'.cell? ⟨w.heap.size + 1, 0, none⟩ = some (.int .i64 b.f0) ∧ w'.cell? ⟨w.heap.size + 1, 1, none⟩ = some (.int .i64 b.f1)) (ds := []) #[false, false, false, false, false, false, false, false, false] (by kernel_rfl) rfl rfl (J5.out.cells2 (w.heap.size, a) (w.heap.size + 1, b) (by simp) (by simp)) (fun hHeld => ?_)
  generalize w4.drew = w5 at J5 HRM5 HRN5 hHeld ⊢
  refine take_ (i := 0) (N := some 44) (v := ?_) (a' := ?_) #[true, false, false, false, false, false, false, false, false] rfl rfl (by kernel_rfl) (fun _ _ _ h => h) (Or.inl ⟨by rfl, ?_⟩) hHeld ?_ ?_
  rotate_left
  · rintro w' ⟨s0, s1, s2, s3⟩
    go_simp
    with_reducible rfl
  rotate_left
  · simp only [Act.put, List.setIfInBounds_toArray, List.set_cons_zero, List.set_cons_succ, i64_w, i32_w]
    rfl
  refine take_ (i := 1) (N := some 45) (v := ?_) (a' := ?_) #[true, true, false, false, false, false, false, false, false] rfl rfl (by kernel_rfl) (fun _ _ _ h => h) (Or.inl ⟨by rfl, ?_⟩) hHeld ?_ ?_
  rotate_left
  · rintro w' ⟨s0, s1, s2, s3⟩
    go_simp
    with_reducible rfl
  rotate_left
  · simp only [Act.put, List.setIfInBounds_toArray, List.set_cons_zero, List.set_cons_succ, i64_w, i32_w]
    rfl
  refine pure_ (i := 2) (N := some 46) (v := ?_) (a' := ?_) #[true, true, true, false, false, false, false, false, false] rfl rfl (by kernel_rfl) (fun _ _ _ h => h) (Or.inl ⟨by rfl, ?_⟩) ?_ ?_
  rotate_left
  · intro w'
    go_simp
    with_reducible rfl
  rotate_left
  · simp only [Act.put, List.setIfInBounds_toArray, List.set_cons_zero, List.set_cons_succ, i64_w, i32_w]
    rfl
  refine pure_ (i := 4) (N := some 48) (v := ?_) (a' := ?_) #[true, true, true, false, true, false, false, false, false] rfl rfl (by kernel_rfl) (fun _ _ _ h => h) (Or.inl ⟨by rfl, ?_⟩) ?_ ?_
  rotate_left
  · intro w'
    go_simp
    with_reducible rfl
  rotate_left
  · simp only [Act.put, List.setIfInBounds_toArray, List.set_cons_zero, List.set_cons_succ, i64_w, i32_w]
    rfl
  refine pure_ (i := 8) (N := some 52) (v := ?_) (a' := ?_) #[true, true, true, false, true, false, false, false, true] rfl rfl (by kernel_rfl) (fun _ _ _ h => h) (Or.inl ⟨by rfl, ?_⟩) ?_ ?_
  rotate_left
  · intro w'
    go_simp
    with_reducible rfl
  rotate_left
  · simp only [Act.put, List.setIfInBounds_toArray, List.set_cons_zero, List.set_cons_succ, i64_w, i32_w]
    rfl
  refine one_ (i := 3) (N := some 47) #[true, true, true, true, true, false, false, false, true] rfl rfl (by kernel_rfl) (by decide) (fun K hK => ?_)
  refine goes_ Tryz.func8 (by kernel_rfl) rfl #[.pointer (some ⟨g, 0, none⟩)] (by rfl) rfl rfl (by (try simp only [List.map_toArray, List.map_cons, List.map_nil]); first | done | rfl) ?_
  with_reducible refine (trustquorummake_Claim.calls g L p2 x0 x1 p3 w _ J5.out.tape J5.out.bel HX.out).mono ?_
  rintro e w6 ⟨rfl, hi, hb, hk⟩
  refine ⟨_, rfl, ?_⟩
  have J6 := Aside0.mk (J5.out.tapeStep hi hb hk (rs' := [(A3, l)]) (fun r hr => by obtain rfl := List.mem_singleton.1 hr; exact Kd.C_below R3.out hb))
  have HRM6 := Aside0.mk (Kd.R_mono (Kd.R_keep (IsS51.apart J5.out.tape HRM5.out (by decide)) hk (fun _ h => h.2)) (fun _ h => h.1))
  have HRN6 := Aside0.mk (Kd.R_mono (Kd.R_keep (IsS51.apart J5.out.tape HRN5.out (by decide)) hk (fun _ h => h.2)) (fun _ h => h.1))
  clear hi hb hk J5 HRM5 HRN5
  refine hK.out _ _ (J6.out.cells2 (w.heap.size, a) (w.heap.size + 1, b) (by simp) (by simp)) (fun hHeld => ?_)
  clear hK K
  refine norm_ (a' := ?_) ?_ ?_
  rotate_left
  · show Act.put _ (some 47) _ = _
    simp only [Act.put, List.setIfInBounds_toArray, List.set_cons_zero, List.set_cons_succ, i64_w, i32_w]
    rfl
  refine one_ (i := 5) (N := some 49) #[true, true, true, true, true, true, false, false, true] rfl rfl (by kernel_rfl) (by decide) (fun K hK => ?_)
  refine goes_ Tryz.func8 (by kernel_rfl) rfl #[.pointer (some ⟨g, 0, none⟩)] (by rfl) rfl rfl (by (try simp only [List.map_toArray, List.map_cons, List.map_nil]); first | done | rfl) ?_
  with_reducible refine (trustquorummake_Claim.calls g L p3 y0 y1 p4 w _ J6.out.tape J6.out.bel HY.out).mono ?_
  rintro e w7 ⟨rfl, hi, hb, hk⟩
  refine ⟨_, rfl, ?_⟩
  have J7 := Aside0.mk (J6.out.tapeStep hi hb hk (rs' := [(A3, l)]) (fun r hr => by obtain rfl := List.mem_singleton.1 hr; exact Kd.C_below R3.out hb))
  have HRM7 := Aside0.mk (Kd.R_mono (Kd.R_keep (IsS51.apart J6.out.tape HRM6.out (by decide)) hk (fun _ h => h.2)) (fun _ h => h.1))
  have HRN7 := Aside0.mk (Kd.R_mono (Kd.R_keep (IsS51.apart J6.out.tape HRN6.out (by decide)) hk (fun _ h => h.2)) (fun _ h => h.1))
  clear hi hb hk J6 HRM6 HRN6
  refine hK.out _ _ (J7.out.cells2 (w.heap.size, a) (w.heap.size + 1, b) (by simp) (by simp)) (fun hHeld => ?_)
  clear hK K
  refine norm_ (a' := ?_) ?_ ?_
  rotate_left
  · show Act.put _ (some 49) _ = _
    simp only [Act.put, List.setIfInBounds_toArray, List.set_cons_zero, List.set_cons_succ, i64_w, i32_w]
    rfl
  refine one_ (i := 6) (N := some 50) #[true, true, true, true, true, true, true, false, true] rfl rfl (by kernel_rfl) (by decide) (fun K hK => ?_)
  refine Kd.R_lit_step k24 _ 24 ?hg (N := 50) ?hd (xs := ([a, b, ⟨x0, x1⟩, ⟨y0, y1⟩] : List S24)) (inner := [.int .i64 a.f0, .int .i64 a.f1, .int .i64 b.f0, .int .i64 b.f1, .int .i64 x0, .int .i64 x1, .int .i64 y0, .int .i64 y1]) (ok := fun _ => True) (okp := fun _ => True) ?hr ?hp (fun _ hk => hk) trivial (Below.refl _ _) (Nat.le_refl _) (by simp) ?_; (case hd => rfl); (case hg => rfl); (case hr => first | (go_simp; done) | (go_simp; rfl)); (case hp => exact (Reps.c2 (k24_mkM _ _ _ a) (Reps.c2 (k24_mkM _ _ _ b) (Reps.c2 (k24_mkM _ _ _ ⟨x0, x1⟩) (Reps.c2 (k24_mkM _ _ _ ⟨y0, y1⟩) (Reps.none _ _))))))
  intro v8 w8 ho hb hg_ hnew_
  obtain ⟨Ar, cr, rfl, hcr, hCr⟩ := Kd.R_reads ho
  have J8 := Aside0.mk (((((J7.out.step hb).addRow Am m (Kd.C_below (Kd.R_reads' HRM7.out).2.2 hb)).addRow An (canon m2) (Kd.C_below (Kd.R_reads' HRN7.out).2.2 hb)).addRow Ar [a, b, ⟨x0, x1⟩, ⟨y0, y1⟩] hCr))
  clear ho hb hg_ hnew_ hcr hCr J7 HRM7 HRN7
  refine hK.out _ _ (J8.out.cells2 (w.heap.size, a) (w.heap.size + 1, b) (by simp) (by simp)) (fun hHeld => ?_)
  clear hK K
  refine norm_ (a' := ?_) ?_ ?_
  rotate_left
  · show Act.put _ (some 50) _ = _
    simp only [Act.put, List.setIfInBounds_toArray, List.set_cons_zero, List.set_cons_succ, i64_w, i32_w]
    rfl
  refine pure_ (i := 7) (N := some 51) (v := ?_) (a' := ?_) #[true, true, true, true, true, true, true, true, true] rfl rfl (by kernel_rfl) (fun _ _ _ h => h) (Or.inl ⟨by rfl, ?_⟩) ?_ ?_
  rotate_left
  · intro w'
    go_simp
    with_reducible rfl
  rotate_left
  · simp only [Act.put, List.setIfInBounds_toArray, List.set_cons_zero, List.set_cons_succ, i64_w, i32_w]
    rfl
  refine done_ (by kernel_rfl) ?_
  go_wp2
  generalize hxs : ([a, b, ⟨x0, x1⟩, ⟨y0, y1⟩] : List S24) = xs at J8
  have hx4 : xs.length = 4 := by rw [← hxs]; rfl
  have HX4 := Aside0.mk hx4
  clear hxs hx4 HX HY
  go_loopg [52] 4 (fun gg s52 wr => ∃ j : Nat, j ≤ 4 ∧ 4 - j ≤ gg ∧ s52 = .int .i64 j ∧ Aside0 (Inv w wr g L p4 [(w.heap.size, a), (w.heap.size + 1, b)] [(Ar, xs), (An, canon m2), (Am, m), (A3, l)] []))
  case atStart => exact ⟨0, Nat.zero_le _, Nat.sub_le _ _, rfl, J8⟩
  case round =>
    obtain ⟨j, hj, hg, rfl, J0⟩ := hrel
    clear J8
    by_cases hlt : j < 4
    · have hltz : (j : Int) < 4 := by omega
      have hrow := J0.out.row (Ar, xs) (by simp)
      have h4 := HX4.out
      obtain ⟨ad, ead, hc0, hc1⟩ := at_T24 hrow (j : Int) (by omega) (by simp only; omega)
      simp only at ead
      subst ead
      have hjx : j < xs.length := by omega
      clear hrow h4
      rw [Int.toNat_natCast] at hc0 hc1
      generalize hxx : rd_T24 xs (j : Int) = x at hc0 hc1
      clear hxx
      go_wp2
      have J1 := Aside0.mk ((J0.out.alloc (.cells #[.int .i64 x.f0, .int .i64 x.f1] 24)).addBox wr.heap.size x (heap_alloc_new wr _))
      generalize wr.alloc (.cells #[.int .i64 x.f0, .int .i64 x.f1] 24) = W1 at J1 ⊢
      generalize wr.heap.size = gx at J1 ⊢
      clear J0 hc0 hc1
      obtain ⟨vv, hvv⟩ : ∃ v, okC ⟨x.f0, x.f1⟩ = v := ⟨_, rfl⟩
      obtain ⟨cv, hcv⟩ : ∃ v, (x.f0 == b.f0 && x.f1 != b.f1) = v := ⟨_, rfl⟩
      obtain ⟨kv, hkv⟩ : ∃ v, cfC ⟨x.f0, x.f1⟩ ⟨b.f0, b.f1⟩ = v := ⟨_, rfl⟩
      have V1 := Aside0.mk (show claims_Valid.f x.f0 x.f1 = some vv by rw [valid_f, hvv])
      have V2 := Aside0.mk (show trustquorumref17_Valid.f x.f0 x.f1 = some vv by rw [rvalid_f, hvv])
      have D1 := Aside0.mk (show claims_Contradict.f x.f0 x.f1 b.f0 b.f1 = some cv by rw [contradict_f, hcv])
      have D2 := Aside0.mk (show trustquorumref17_Contradict.f x.f0 x.f1 b.f0 b.f1 = some cv by rw [rcontradict_f, hcv])
      have E1 := Aside0.mk (show claims_Compare.f 2000000 x.f0 x.f1 b.f0 b.f1 = some kv by rw [← hkv]; exact compare_k ⟨x.f0, x.f1⟩ ⟨b.f0, b.f1⟩ 2000000 (by omega))
      have E2 := Aside0.mk (show trustquorumref17_Compare.f x.f0 x.f1 b.f0 b.f1 = some kv by rw [rcompare_f, hkv])
      clear hvv hcv hkv
      have n1 : (vv != vv) = false := bne_self_eq_false _
      have n2 : (cv != cv) = false := bne_self_eq_false _
      have n3 : (kv != kv) = false := bne_self_eq_false _
      have J2 := Aside0.mk J1.out.drew
      clear J1
      refine start_ (n := 23) (S := fun w' => w'.cell? ⟨gx, 0, none⟩ = some (.int .i64 x.f0) ∧ w'.cell? ⟨gx, 1, none⟩ = some (.int .i64 x.f1) ∧ w'.cell? ⟨w.heap.size + 1, 0, none⟩ = some (.int .i64 b.f0) ∧ w'.cell? ⟨w.heap.size + 1, 1, none⟩ = some (.int .i64 b.f1)) (ds := []) #[false, false, false, false, false, false, false, false, false, false, false, false, false, false, false, false, false, false, false, false, false, false, false] (by kernel_rfl) rfl rfl (J2.out.cells2 (gx, x) (w.heap.size + 1, b) (by simp) (by simp)) (fun hHeld => ?_)
      generalize W1.drew = w10 at J2 hHeld ⊢
      refine take_ (i := 0) (N := some 56) (v := ?_) (a' := ?_) #[true, false, false, false, false, false, false, false, false, false, false, false, false, false, false, false, false, false, false, false, false, false, false] rfl rfl (by kernel_rfl) (fun _ _ _ h => h) (Or.inl ⟨by rfl, ?_⟩) hHeld ?_ ?_
      rotate_left
      · rintro w' ⟨s0, s1, s2, s3⟩
        go_simp
        with_reducible rfl
      rotate_left
      · simp only [Act.put, List.setIfInBounds_toArray, List.set_cons_zero, List.set_cons_succ, i64_w, i32_w]
        rfl
      refine take_ (i := 2) (N := some 58) (v := ?_) (a' := ?_) #[true, false, true, false, false, false, false, false, false, false, false, false, false, false, false, false, false, false, false, false, false, false, false] rfl rfl (by kernel_rfl) (fun _ _ _ h => h) (Or.inl ⟨by rfl, ?_⟩) hHeld ?_ ?_
      rotate_left
      · rintro w' ⟨s0, s1, s2, s3⟩
        go_simp
        with_reducible rfl
      rotate_left
      · simp only [Act.put, List.setIfInBounds_toArray, List.set_cons_zero, List.set_cons_succ, i64_w, i32_w]
        rfl
      refine one_ (i := 1) (N := some 57) #[true, true, true, false, false, false, false, false, false, false, false, false, false, false, false, false, false, false, false, false, false, false, false] rfl rfl (by kernel_rfl) (by decide) (fun K hK => ?_)
      refine goes_ Tryz.func9 (by kernel_rfl) rfl #[.agg #[.int .i64 x.f0, .int .i64 x.f1]] (by rfl) rfl rfl (by (try simp only [List.map_toArray, List.map_cons, List.map_nil]); first | done | rfl) ?_
      with_reducible refine (claims_Valid.calls x.f0 x.f1 vv _ V1.out).mono ?_
      rintro e w11 ⟨rfl, hb⟩
      refine ⟨_, rfl, ?_⟩
      have J3 := Aside0.mk (J2.out.step hb)
      clear hb
      clear J2
      refine hK.out _ _ (J3.out.cells2 (gx, x) (w.heap.size + 1, b) (by simp) (by simp)) (fun hHeld => ?_)
      clear hK K
      refine norm_ (a' := ?_) ?_ ?_
      rotate_left
      · show Act.put _ (some 57) _ = _
        simp only [Act.put, List.setIfInBounds_toArray, List.set_cons_zero, List.set_cons_succ, i64_w, i32_w]
        rfl
      refine one_ (i := 3) (N := some 59) #[true, true, true, true, false, false, false, false, false, false, false, false, false, false, false, false, false, false, false, false, false, false, false] rfl rfl (by kernel_rfl) (by decide) (fun K hK => ?_)
      refine goes_ Tryz.func10 (by kernel_rfl) rfl #[.agg #[.int .i64 x.f0, .int .i64 x.f1]] (by rfl) rfl rfl (by (try simp only [List.map_toArray, List.map_cons, List.map_nil]); first | done | rfl) ?_
      with_reducible refine (trustquorumref17_Valid.calls x.f0 x.f1 vv _ V2.out).mono ?_
      rintro e w12 ⟨rfl, hb⟩
      refine ⟨_, rfl, ?_⟩
      have J4 := Aside0.mk (J3.out.step hb)
      clear hb
      clear J3
      refine hK.out _ _ (J4.out.cells2 (gx, x) (w.heap.size + 1, b) (by simp) (by simp)) (fun hHeld => ?_)
      clear hK K
      refine norm_ (a' := ?_) ?_ ?_
      rotate_left
      · show Act.put _ (some 59) _ = _
        simp only [Act.put, List.setIfInBounds_toArray, List.set_cons_zero, List.set_cons_succ, i64_w, i32_w]
        rfl
      refine pure_ (i := 4) (N := some 60) (v := ?_) (a' := ?_) #[true, true, true, true, true, false, false, false, false, false, false, false, false, false, false, false, false, false, false, false, false, false, false] rfl rfl (by kernel_rfl) (fun _ _ _ h => h) (Or.inl ⟨by rfl, ?_⟩) ?_ ?_
      rotate_left
      · intro w'
        go_simp
        with_reducible rfl
      rotate_left
      · simp only [Act.put, List.setIfInBounds_toArray, List.set_cons_zero, List.set_cons_succ, i64_w, i32_w]
        rfl
      refine pure_ (i := 5) (N := some 61) (v := ?_) (a' := ?_) #[true, true, true, true, true, true, false, false, false, false, false, false, false, false, false, false, false, false, false, false, false, false, false] rfl rfl (by kernel_rfl) (fun _ _ _ h => h) (Or.inl ⟨by rfl, ?_⟩) ?_ ?_
      rotate_left
      · intro w'
        go_simp
        with_reducible rfl
      rotate_left
      · simp only [Act.put, List.setIfInBounds_toArray, List.set_cons_zero, List.set_cons_succ, i64_w, i32_w]
        rfl
      refine take_ (i := 6) (N := some 62) (v := ?_) (a' := ?_) #[true, true, true, true, true, true, true, false, false, false, false, false, false, false, false, false, false, false, false, false, false, false, false] rfl rfl (by kernel_rfl) (fun _ _ _ h => h) (Or.inl ⟨by rfl, ?_⟩) hHeld ?_ ?_
      rotate_left
      · rintro w' ⟨s0, s1, s2, s3⟩
        go_simp
        with_reducible rfl
      rotate_left
      · simp only [Act.put, List.setIfInBounds_toArray, List.set_cons_zero, List.set_cons_succ, i64_w, i32_w]
        rfl
      refine take_ (i := 7) (N := some 63) (v := ?_) (a' := ?_) #[true, true, true, true, true, true, true, true, false, false, false, false, false, false, false, false, false, false, false, false, false, false, false] rfl rfl (by kernel_rfl) (fun _ _ _ h => h) (Or.inl ⟨by rfl, ?_⟩) hHeld ?_ ?_
      rotate_left
      · rintro w' ⟨s0, s1, s2, s3⟩
        go_simp
        with_reducible rfl
      rotate_left
      · simp only [Act.put, List.setIfInBounds_toArray, List.set_cons_zero, List.set_cons_succ, i64_w, i32_w]
        rfl
      refine take_ (i := 9) (N := some 65) (v := ?_) (a' := ?_) #[true, true, true, true, true, true, true, true, false, true, false, false, false, false, false, false, false, false, false, false, false, false, false] rfl rfl (by kernel_rfl) (fun _ _ _ h => h) (Or.inl ⟨by rfl, ?_⟩) hHeld ?_ ?_
      rotate_left
      · rintro w' ⟨s0, s1, s2, s3⟩
        go_simp
        with_reducible rfl
      rotate_left
      · simp only [Act.put, List.setIfInBounds_toArray, List.set_cons_zero, List.set_cons_succ, i64_w, i32_w]
        rfl
      refine take_ (i := 10) (N := some 66) (v := ?_) (a' := ?_) #[true, true, true, true, true, true, true, true, false, true, true, false, false, false, false, false, false, false, false, false, false, false, false] rfl rfl (by kernel_rfl) (fun _ _ _ h => h) (Or.inl ⟨by rfl, ?_⟩) hHeld ?_ ?_
      rotate_left
      · rintro w' ⟨s0, s1, s2, s3⟩
        go_simp
        with_reducible rfl
      rotate_left
      · simp only [Act.put, List.setIfInBounds_toArray, List.set_cons_zero, List.set_cons_succ, i64_w, i32_w]
        rfl
      refine one_ (i := 8) (N := some 64) #[true, true, true, true, true, true, true, true, true, true, true, false, false, false, false, false, false, false, false, false, false, false, false] rfl rfl (by kernel_rfl) (by decide) (fun K hK => ?_)
      refine goes_ Tryz.func11 (by kernel_rfl) rfl #[.agg #[.int .i64 x.f0, .int .i64 x.f1], .agg #[.int .i64 b.f0, .int .i64 b.f1]] (by rfl) rfl rfl (by (try simp only [List.map_toArray, List.map_cons, List.map_nil]); first | done | rfl) ?_
      with_reducible refine (claims_Contradict.calls x.f0 x.f1 b.f0 b.f1 cv _ D1.out).mono ?_
      rintro e w13 ⟨rfl, hb⟩
      refine ⟨_, rfl, ?_⟩
      have J5 := Aside0.mk (J4.out.step hb)
      clear hb
      clear J4
      refine hK.out _ _ (J5.out.cells2 (gx, x) (w.heap.size + 1, b) (by simp) (by simp)) (fun hHeld => ?_)
      clear hK K
      refine norm_ (a' := ?_) ?_ ?_
      rotate_left
      · show Act.put _ (some 64) _ = _
        simp only [Act.put, List.setIfInBounds_toArray, List.set_cons_zero, List.set_cons_succ, i64_w, i32_w]
        rfl
      refine one_ (i := 11) (N := some 67) #[true, true, true, true, true, true, true, true, true, true, true, true, false, false, false, false, false, false, false, false, false, false, false] rfl rfl (by kernel_rfl) (by decide) (fun K hK => ?_)
      refine goes_ Tryz.func12 (by kernel_rfl) rfl #[.agg #[.int .i64 x.f0, .int .i64 x.f1], .agg #[.int .i64 b.f0, .int .i64 b.f1]] (by rfl) rfl rfl (by (try simp only [List.map_toArray, List.map_cons, List.map_nil]); first | done | rfl) ?_
      with_reducible refine (trustquorumref17_Contradict.calls x.f0 x.f1 b.f0 b.f1 cv _ D2.out).mono ?_
      rintro e w14 ⟨rfl, hb⟩
      refine ⟨_, rfl, ?_⟩
      have J6 := Aside0.mk (J5.out.step hb)
      clear hb
      clear J5
      refine hK.out _ _ (J6.out.cells2 (gx, x) (w.heap.size + 1, b) (by simp) (by simp)) (fun hHeld => ?_)
      clear hK K
      refine norm_ (a' := ?_) ?_ ?_
      rotate_left
      · show Act.put _ (some 67) _ = _
        simp only [Act.put, List.setIfInBounds_toArray, List.set_cons_zero, List.set_cons_succ, i64_w, i32_w]
        rfl
      refine pure_ (i := 12) (N := some 68) (v := ?_) (a' := ?_) #[true, true, true, true, true, true, true, true, true, true, true, true, true, false, false, false, false, false, false, false, false, false, false] rfl rfl (by kernel_rfl) (fun _ _ _ h => h) (Or.inl ⟨by rfl, ?_⟩) ?_ ?_
      rotate_left
      · intro w'
        go_simp
        with_reducible rfl
      rotate_left
      · simp only [Act.put, List.setIfInBounds_toArray, List.set_cons_zero, List.set_cons_succ, i64_w, i32_w]
        rfl
      refine pure_ (i := 13) (N := some 69) (v := ?_) (a' := ?_) #[true, true, true, true, true, true, true, true, true, true, true, true, true, true, false, false, false, false, false, false, false, false, false] rfl rfl (by kernel_rfl) (fun _ _ _ h => h) (Or.inl ⟨by rfl, ?_⟩) ?_ ?_
      rotate_left
      · intro w'
        go_simp
        with_reducible rfl
      rotate_left
      · simp only [Act.put, List.setIfInBounds_toArray, List.set_cons_zero, List.set_cons_succ, i64_w, i32_w]
        rfl
      refine pure_ (i := 14) (N := some 70) (v := ?_) (a' := ?_) #[true, true, true, true, true, true, true, true, true, true, true, true, true, true, true, false, false, false, false, false, false, false, false] rfl rfl (by kernel_rfl) (fun _ _ _ h => h) (Or.inl ⟨by rfl, ?_⟩) ?_ ?_
      rotate_left
      · intro w'
        go_simp
        with_reducible rfl
      rotate_left
      · simp only [Act.put, List.setIfInBounds_toArray, List.set_cons_zero, List.set_cons_succ, i64_w, i32_w]
        rfl
      refine take_ (i := 15) (N := some 71) (v := ?_) (a' := ?_) #[true, true, true, true, true, true, true, true, true, true, true, true, true, true, true, true, false, false, false, false, false, false, false] rfl rfl (by kernel_rfl) (fun _ _ _ h => h) (Or.inl ⟨by rfl, ?_⟩) hHeld ?_ ?_
      rotate_left
      · rintro w' ⟨s0, s1, s2, s3⟩
        go_simp
        with_reducible rfl
      rotate_left
      · simp only [Act.put, List.setIfInBounds_toArray, List.set_cons_zero, List.set_cons_succ, i64_w, i32_w]
        rfl
      refine take_ (i := 16) (N := some 72) (v := ?_) (a' := ?_) #[true, true, true, true, true, true, true, true, true, true, true, true, true, true, true, true, true, false, false, false, false, false, false] rfl rfl (by kernel_rfl) (fun _ _ _ h => h) (Or.inl ⟨by rfl, ?_⟩) hHeld ?_ ?_
      rotate_left
      · rintro w' ⟨s0, s1, s2, s3⟩
        go_simp
        with_reducible rfl
      rotate_left
      · simp only [Act.put, List.setIfInBounds_toArray, List.set_cons_zero, List.set_cons_succ, i64_w, i32_w]
        rfl
      refine take_ (i := 18) (N := some 74) (v := ?_) (a' := ?_) #[true, true, true, true, true, true, true, true, true, true, true, true, true, true, true, true, true, false, true, false, false, false, false] rfl rfl (by kernel_rfl) (fun _ _ _ h => h) (Or.inl ⟨by rfl, ?_⟩) hHeld ?_ ?_
      rotate_left
      · rintro w' ⟨s0, s1, s2, s3⟩
        go_simp
        with_reducible rfl
      rotate_left
      · simp only [Act.put, List.setIfInBounds_toArray, List.set_cons_zero, List.set_cons_succ, i64_w, i32_w]
        rfl
      refine take_ (i := 19) (N := some 75) (v := ?_) (a' := ?_) #[true, true, true, true, true, true, true, true, true, true, true, true, true, true, true, true, true, false, true, true, false, false, false] rfl rfl (by kernel_rfl) (fun _ _ _ h => h) (Or.inl ⟨by rfl, ?_⟩) hHeld ?_ ?_
      rotate_left
      · rintro w' ⟨s0, s1, s2, s3⟩
        go_simp
        with_reducible rfl
      rotate_left
      · simp only [Act.put, List.setIfInBounds_toArray, List.set_cons_zero, List.set_cons_succ, i64_w, i32_w]
        rfl
      refine one_ (i := 17) (N := some 73) #[true, true, true, true, true, true, true, true, true, true, true, true, true, true, true, true, true, true, true, true, false, false, false] rfl rfl (by kernel_rfl) (by decide) (fun K hK => ?_)
      refine goes_ Tryz.func13 (by kernel_rfl) rfl #[.agg #[.int .i64 x.f0, .int .i64 x.f1], .agg #[.int .i64 b.f0, .int .i64 b.f1]] (by rfl) rfl rfl (by (try simp only [List.map_toArray, List.map_cons, List.map_nil]); first | done | rfl) ?_
      with_reducible refine (claims_Compare.calls 2000000 x.f0 x.f1 b.f0 b.f1 kv _ E1.out).mono ?_
      rintro e w15 ⟨rfl, hb⟩
      refine ⟨_, rfl, ?_⟩
      have J7 := Aside0.mk (J6.out.step hb)
      clear hb
      clear J6
      refine hK.out _ _ (J7.out.cells2 (gx, x) (w.heap.size + 1, b) (by simp) (by simp)) (fun hHeld => ?_)
      clear hK K
      refine norm_ (a' := ?_) ?_ ?_
      rotate_left
      · show Act.put _ (some 73) _ = _
        simp only [Act.put, List.setIfInBounds_toArray, List.set_cons_zero, List.set_cons_succ, i64_w, i32_w]
        rfl
      refine one_ (i := 20) (N := some 76) #[true, true, true, true, true, true, true, true, true, true, true, true, true, true, true, true, true, true, true, true, true, false, false] rfl rfl (by kernel_rfl) (by decide) (fun K hK => ?_)
      refine goes_ Tryz.func14 (by kernel_rfl) rfl #[.agg #[.int .i64 x.f0, .int .i64 x.f1], .agg #[.int .i64 b.f0, .int .i64 b.f1]] (by rfl) rfl rfl (by (try simp only [List.map_toArray, List.map_cons, List.map_nil]); first | done | rfl) ?_
      with_reducible refine (trustquorumref17_Compare.calls x.f0 x.f1 b.f0 b.f1 kv _ E2.out).mono ?_
      rintro e w16 ⟨rfl, hb⟩
      refine ⟨_, rfl, ?_⟩
      have J8 := Aside0.mk (J7.out.step hb)
      clear hb
      clear J7
      refine hK.out _ _ (J8.out.cells2 (gx, x) (w.heap.size + 1, b) (by simp) (by simp)) (fun hHeld => ?_)
      clear hK K
      refine norm_ (a' := ?_) ?_ ?_
      rotate_left
      · show Act.put _ (some 76) _ = _
        simp only [Act.put, List.setIfInBounds_toArray, List.set_cons_zero, List.set_cons_succ, i64_w, i32_w]
        rfl
      refine pure_ (i := 21) (N := some 77) (v := ?_) (a' := ?_) #[true, true, true, true, true, true, true, true, true, true, true, true, true, true, true, true, true, true, true, true, true, true, false] rfl rfl (by kernel_rfl) (fun _ _ _ h => h) (Or.inl ⟨by rfl, ?_⟩) ?_ ?_
      rotate_left
      · intro w'
        go_simp
        with_reducible rfl
      rotate_left
      · simp only [Act.put, List.setIfInBounds_toArray, List.set_cons_zero, List.set_cons_succ, i64_w, i32_w]
        rfl
      refine pure_ (i := 22) (N := some 78) (v := ?_) (a' := ?_) #[true, true, true, true, true, true, true, true, true, true, true, true, true, true, true, true, true, true, true, true, true, true, true] rfl rfl (by kernel_rfl) (fun _ _ _ h => h) (Or.inl ⟨by rfl, ?_⟩) ?_ ?_
      rotate_left
      · intro w'
        go_simp
        with_reducible rfl
      rotate_left
      · simp only [Act.put, List.setIfInBounds_toArray, List.set_cons_zero, List.set_cons_succ, i64_w, i32_w]
        rfl
      refine done_ (by kernel_rfl) ?_
      clear n1 n2 n3 V1 V2 D1 D2 E1 E2
      go_wp2
      have hrow := rows3 w16 A3 Am An c3 cm cn l m (canon m2) (J8.out.row (A3, l) (by simp)) C3.out (J8.out.row (Am, m) (by simp)) HCM.out (J8.out.row (An, canon m2) (by simp)) HCN.out
      have K0 := Aside0.mk ((J8.out.alloc (.cells #[.slice A3 l.length c3, .slice Am m.length cm, .slice An (canon m2).length cn] 25)).addRows _ _ hrow)
      have JL := Aside0.mk (LISTS.out)
      clear hrow J8
      generalize w16.alloc (.cells #[.slice A3 l.length c3, .slice Am m.length cm, .slice An (canon m2).length cn] 25) = W1 at K0 ⊢
      generalize w16.heap.size = gr at K0 ⊢
      generalize hls : [l, m, canon m2] = ls at K0 JL
      have J := Aside0.mk hj; have GG := Aside0.mk hg
      clear hj hg
      clear hls
      go_loopg [84] 3 (fun gg s84 wr => ∃ i : Nat, i ≤ 3 ∧ 3 - i ≤ gg ∧ s84 = .int .i64 i ∧ Aside0 (Inv w wr g L p4 [(gx, x), (w.heap.size, a), (w.heap.size + 1, b)] [(some ad, xs), (An, canon m2), (Am, m), (A3, l)] [(some ⟨gr, 0, none⟩, ls)]))
      case atStart => exact ⟨0, Nat.zero_le _, Nat.sub_le _ _, rfl, K0⟩
      case round =>
        obtain ⟨i, hi, hg, rfl, K1⟩ := hrel
        clear K0
        by_cases hlt3 : i < 3
        · have hltz3 : (i : Int) < 3 := by omega
          obtain ⟨ad', Ay, cy, ead, hcell, hcy, hCy⟩ := at_L2 (K1.out.rows (some ⟨gr, 0, none⟩, ls) (by simp)) (i : Int) (by omega) (by omega)
          cases ead
          rw [Int.toNat_natCast, add_offA, Nat.zero_add] at hcell
          have hL3 : ls.length = 3 := (K1.out.rows (some ⟨gr, 0, none⟩, ls) (by simp)).1
          have hmem : rd_L2 ls (i : Int) ∈ ls := by
            unfold rd_L2
            rw [Int.toNat_natCast, List.getD_eq_getElem?_getD, List.getElem?_eq_getElem (by omega)]
            exact List.getElem_mem _
          have hF := JL.out _ hmem
          clear hmem hL3
          generalize rd_L2 ls (i : Int) = y at hcell hcy hCy hF
          have HCY := Aside0.mk hcy
          have K2 := Aside0.mk (K1.out.addRow Ay y hCy)
          have hyl := hF.1
          clear hcy hCy hF K1
          have I_ := Aside0.mk hi; have GI := Aside0.mk hg
          clear hi hg
          obtain ⟨hv, hhv⟩ : ∃ v, decide ((⟨x.f0, x.f1⟩ : S24) ∈ y) = v := ⟨_, rfl⟩
          obtain ⟨z, hz⟩ : ∃ z, canon (y ++ [⟨x.f0, x.f1⟩]) = z := ⟨_, rfl⟩
          have hzl : z.length ≤ 128 := by rw [← hz]; exact canon_len0 _
          have P1 := Aside0.mk (show claims_Has.f 2000000 y x.f0 x.f1 = some hv by rw [chas_f y _ _ 2000000 (by omega) (by omega), hhv])
          have P2 := Aside0.mk (show trustquorumref17_Has.f 2000000 y x.f0 x.f1 = some hv by rw [has_f y _ _ 2000000 (by omega) (by omega), hhv])
          have P3 := Aside0.mk (show claims_Put.f y x.f0 x.f1 = some z by rw [put_f y _ _ (by omega), hz])
          have P4 := Aside0.mk (show trustquorumref17_Put.f 2000000 y x.f0 x.f1 = some z by rw [rput_f y _ _ 2000000 (by omega) (by omega), hz])
          have P5 := Aside0.mk (show trustquorumref17_Same.f 2000000 z z = some true by rw [same_f z z 2000000 (by omega) (by omega)]; simp)
          clear hhv hz hzl hyl
          have n1 : (hv != hv) = false := bne_self_eq_false _
          go_wp2
          have K2 := Aside0.mk K2.out.drew
          generalize hW2 : wr = W2 at K2 ⊢
          refine start_ (n := 17) (S := fun w' => w'.cell? ⟨gx, 0, none⟩ = some (.int .i64 x.f0) ∧ w'.cell? ⟨gx, 1, none⟩ = some (.int .i64 x.f1)) (ds := []) #[false, false, false, false, false, false, false, false, false, false, false, false, false, false, false, false, false] (by kernel_rfl) rfl rfl (K2.out.cells1 (gx, x) (by simp)) (fun hHeld => ?_)
          generalize W2.drew = w20 at K2 hHeld ⊢
          refine pure_ (i := 0) (N := some 88) (v := ?_) (a' := ?_) #[true, false, false, false, false, false, false, false, false, false, false, false, false, false, false, false, false] rfl rfl (by kernel_rfl) (fun _ _ _ h => h) (Or.inl ⟨by rfl, ?_⟩) ?_ ?_
          rotate_left
          · intro w'
            go_simp
            with_reducible rfl
          rotate_left
          · simp only [Act.put, List.setIfInBounds_toArray, List.set_cons_zero, List.set_cons_succ, i64_w, i32_w]
            rfl
          refine take_ (i := 1) (N := some 89) (v := ?_) (a' := ?_) #[true, true, false, false, false, false, false, false, false, false, false, false, false, false, false, false, false] rfl rfl (by kernel_rfl) (fun _ _ _ h => h) (Or.inl ⟨by rfl, ?_⟩) hHeld ?_ ?_
          rotate_left
          · rintro w' ⟨s0, s1⟩
            go_simp
            with_reducible rfl
          rotate_left
          · simp only [Act.put, List.setIfInBounds_toArray, List.set_cons_zero, List.set_cons_succ, i64_w, i32_w]
            rfl
          refine pure_ (i := 3) (N := some 91) (v := ?_) (a' := ?_) #[true, true, false, true, false, false, false, false, false, false, false, false, false, false, false, false, false] rfl rfl (by kernel_rfl) (fun _ _ _ h => h) (Or.inl ⟨by rfl, ?_⟩) ?_ ?_
          rotate_left
          · intro w'
            go_simp
            with_reducible rfl
          rotate_left
          · simp only [Act.put, List.setIfInBounds_toArray, List.set_cons_zero, List.set_cons_succ, i64_w, i32_w]
            rfl
          refine take_ (i := 4) (N := some 92) (v := ?_) (a' := ?_) #[true, true, false, true, true, false, false, false, false, false, false, false, false, false, false, false, false] rfl rfl (by kernel_rfl) (fun _ _ _ h => h) (Or.inl ⟨by rfl, ?_⟩) hHeld ?_ ?_
          rotate_left
          · rintro w' ⟨s0, s1⟩
            go_simp
            with_reducible rfl
          rotate_left
          · simp only [Act.put, List.setIfInBounds_toArray, List.set_cons_zero, List.set_cons_succ, i64_w, i32_w]
            rfl
          refine one_ (i := 2) (N := some 90) #[true, true, true, true, true, false, false, false, false, false, false, false, false, false, false, false, false] rfl rfl (by kernel_rfl) (by decide) (fun K hK => ?_)
          refine goes_ Tryz.func15 (by kernel_rfl) rfl #[.slice Ay y.length cy, .agg #[.int .i64 x.f0, .int .i64 x.f1]] (by rfl) rfl rfl (by (try simp only [List.map_toArray, List.map_cons, List.map_nil]); first | done | rfl) ?_
          with_reducible refine (claims_Has.calls 2000000 Ay cy y x.f0 x.f1 hv _ (K2.out.row (Ay, y) (by simp)) HCY.out P1.out).mono ?_
          rintro e w21 ⟨rfl, hb⟩
          refine ⟨_, rfl, ?_⟩
          have K3 := Aside0.mk (K2.out.step hb)
          clear hb K2
          refine hK.out _ _ (K3.out.cells1 (gx, x) (by simp)) (fun hHeld => ?_)
          clear hK K
          refine norm_ (a' := ?_) ?_ ?_
          rotate_left
          · show Act.put _ (some 90) _ = _
            simp only [Act.put, List.setIfInBounds_toArray, List.set_cons_zero, List.set_cons_succ, i64_w, i32_w]
            rfl
          refine one_ (i := 5) (N := some 93) #[true, true, true, true, true, true, false, false, false, false, false, false, false, false, false, false, false] rfl rfl (by kernel_rfl) (by decide) (fun K hK => ?_)
          refine goes_ Tryz.func16 (by kernel_rfl) rfl #[.slice Ay y.length cy, .agg #[.int .i64 x.f0, .int .i64 x.f1]] (by rfl) rfl rfl (by (try simp only [List.map_toArray, List.map_cons, List.map_nil]); first | done | rfl) ?_
          with_reducible refine (trustquorumref17_Has.calls 2000000 Ay cy y x.f0 x.f1 hv _ (K3.out.row (Ay, y) (by simp)) HCY.out P2.out).mono ?_
          rintro e w22 ⟨rfl, hb⟩
          refine ⟨_, rfl, ?_⟩
          have K4 := Aside0.mk (K3.out.step hb)
          clear hb K3
          refine hK.out _ _ (K4.out.cells1 (gx, x) (by simp)) (fun hHeld => ?_)
          clear hK K
          refine norm_ (a' := ?_) ?_ ?_
          rotate_left
          · show Act.put _ (some 93) _ = _
            simp only [Act.put, List.setIfInBounds_toArray, List.set_cons_zero, List.set_cons_succ, i64_w, i32_w]
            rfl
          refine pure_ (i := 6) (N := some 94) (v := ?_) (a' := ?_) #[true, true, true, true, true, true, true, false, false, false, false, false, false, false, false, false, false] rfl rfl (by kernel_rfl) (fun _ _ _ h => h) (Or.inl ⟨by rfl, ?_⟩) ?_ ?_
          rotate_left
          · intro w'
            go_simp
            with_reducible rfl
          rotate_left
          · simp only [Act.put, List.setIfInBounds_toArray, List.set_cons_zero, List.set_cons_succ, i64_w, i32_w]
            rfl
          refine pure_ (i := 7) (N := some 95) (v := ?_) (a' := ?_) #[true, true, true, true, true, true, true, true, false, false, false, false, false, false, false, false, false] rfl rfl (by kernel_rfl) (fun _ _ _ h => h) (Or.inl ⟨by rfl, ?_⟩) ?_ ?_
          rotate_left
          · intro w'
            go_simp
            with_reducible rfl
          rotate_left
          · simp only [Act.put, List.setIfInBounds_toArray, List.set_cons_zero, List.set_cons_succ, i64_w, i32_w]
            rfl
          refine pure_ (i := 8) (N := some 96) (v := ?_) (a' := ?_) #[true, true, true, true, true, true, true, true, true, false, false, false, false, false, false, false, false] rfl rfl (by kernel_rfl) (fun _ _ _ h => h) (Or.inl ⟨by rfl, ?_⟩) ?_ ?_
          rotate_left
          · intro w'
            go_simp
            with_reducible rfl
          rotate_left
          · simp only [Act.put, List.setIfInBounds_toArray, List.set_cons_zero, List.set_cons_succ, i64_w, i32_w]
            rfl
          refine take_ (i := 9) (N := some 97) (v := ?_) (a' := ?_) #[true, true, true, true, true, true, true, true, true, true, false, false, false, false, false, false, false] rfl rfl (by kernel_rfl) (fun _ _ _ h => h) (Or.inl ⟨by rfl, ?_⟩) hHeld ?_ ?_
          rotate_left
          · rintro w' ⟨s0, s1⟩
            go_simp
            with_reducible rfl
          rotate_left
          · simp only [Act.put, List.setIfInBounds_toArray, List.set_cons_zero, List.set_cons_succ, i64_w, i32_w]
            rfl
          refine pure_ (i := 11) (N := some 99) (v := ?_) (a' := ?_) #[true, true, true, true, true, true, true, true, true, true, false, true, false, false, false, false, false] rfl rfl (by kernel_rfl) (fun _ _ _ h => h) (Or.inl ⟨by rfl, ?_⟩) ?_ ?_
          rotate_left
          · intro w'
            go_simp
            with_reducible rfl
          rotate_left
          · simp only [Act.put, List.setIfInBounds_toArray, List.set_cons_zero, List.set_cons_succ, i64_w, i32_w]
            rfl
          refine take_ (i := 12) (N := some 100) (v := ?_) (a' := ?_) #[true, true, true, true, true, true, true, true, true, true, false, true, true, false, false, false, false] rfl rfl (by kernel_rfl) (fun _ _ _ h => h) (Or.inl ⟨by rfl, ?_⟩) hHeld ?_ ?_
          rotate_left
          · rintro w' ⟨s0, s1⟩
            go_simp
            with_reducible rfl
          rotate_left
          · simp only [Act.put, List.setIfInBounds_toArray, List.set_cons_zero, List.set_cons_succ, i64_w, i32_w]
            rfl
          refine one_ (i := 10) (N := some 98) #[true, true, true, true, true, true, true, true, true, true, true, true, true, false, false, false, false] rfl rfl (by kernel_rfl) (by decide) (fun K hK => ?_)
          refine goes_ Tryz.func18 (by kernel_rfl) rfl #[.slice Ay y.length cy, .agg #[.int .i64 x.f0, .int .i64 x.f1]] (by rfl) rfl rfl (by (try simp only [List.map_toArray, List.map_cons, List.map_nil]); first | done | rfl) ?_
          with_reducible refine (claims_Put.calls Ay cy y x.f0 x.f1 z _ (K4.out.row (Ay, y) (by simp)) HCY.out P3.out).mono ?_
          rintro e w23 ⟨v_, rfl, hr, hb⟩; obtain ⟨Ap, cp, rfl, hcp, hCp⟩ := Kd.R_reads hr
          refine ⟨_, rfl, ?_⟩
          have Hcp := Aside0.mk hcp
          have K5 := Aside0.mk ((K4.out.step hb).addRow Ap z hCp)
          clear hr hb hcp hCp K4
          refine hK.out _ _ (K5.out.cells1 (gx, x) (by simp)) (fun hHeld => ?_)
          clear hK K
          refine norm_ (a' := ?_) ?_ ?_
          rotate_left
          · show Act.put _ (some 98) _ = _
            simp only [Act.put, List.setIfInBounds_toArray, List.set_cons_zero, List.set_cons_succ, i64_w, i32_w]
            rfl
          refine one_ (i := 13) (N := some 101) #[true, true, true, true, true, true, true, true, true, true, true, true, true, true, false, false, false] rfl rfl (by kernel_rfl) (by decide) (fun K hK => ?_)
          refine goes_ Tryz.func19 (by kernel_rfl) rfl #[.slice Ay y.length cy, .agg #[.int .i64 x.f0, .int .i64 x.f1]] (by rfl) rfl rfl (by (try simp only [List.map_toArray, List.map_cons, List.map_nil]); first | done | rfl) ?_
          with_reducible refine (trustquorumref17_Put.calls 2000000 Ay cy y x.f0 x.f1 z _ (K5.out.row (Ay, y) (by simp)) HCY.out P4.out).mono ?_
          rintro e w24 ⟨v_, rfl, hr, hb⟩; obtain ⟨Aq, cq, rfl, hcp, hCp⟩ := Kd.R_reads hr
          refine ⟨_, rfl, ?_⟩
          have Hcq := Aside0.mk hcp
          have K6 := Aside0.mk ((K5.out.step hb).addRow Aq z hCp)
          clear hr hb hcp hCp K5
          refine hK.out _ _ (K6.out.cells1 (gx, x) (by simp)) (fun hHeld => ?_)
          clear hK K
          refine norm_ (a' := ?_) ?_ ?_
          rotate_left
          · show Act.put _ (some 101) _ = _
            simp only [Act.put, List.setIfInBounds_toArray, List.set_cons_zero, List.set_cons_succ, i64_w, i32_w]
            rfl
          refine one_ (i := 14) (N := some 102) #[true, true, true, true, true, true, true, true, true, true, true, true, true, true, true, false, false] rfl rfl (by kernel_rfl) (by decide) (fun K hK => ?_)
          refine goes_ Tryz.func17 (by kernel_rfl) rfl #[.slice Ap z.length cp, .slice Aq z.length cq] (by rfl) rfl rfl (by (try simp only [List.map_toArray, List.map_cons, List.map_nil]); first | done | rfl) ?_
          with_reducible refine (trustquorumref17_Same.calls 2000000 Ap cp z Aq cq z true _ (K6.out.row (Ap, z) (by simp)) Hcp.out (K6.out.row (Aq, z) (by simp)) Hcq.out P5.out).mono ?_
          rintro e w25 ⟨rfl, nd, rfl⟩
          refine ⟨_, rfl, ?_⟩
          have K7 := Aside0.mk (K6.out.step (pw_below_drewN (Below.refl _ _) nd))
          clear K6
          refine hK.out _ _ (K7.out.cells1 (gx, x) (by simp)) (fun hHeld => ?_)
          clear hK K
          refine norm_ (a' := ?_) ?_ ?_
          rotate_left
          · show Act.put _ (some 102) _ = _
            simp only [Act.put, List.setIfInBounds_toArray, List.set_cons_zero, List.set_cons_succ, i64_w, i32_w]
            rfl
          refine pure_ (i := 15) (N := some 103) (v := ?_) (a' := ?_) #[true, true, true, true, true, true, true, true, true, true, true, true, true, true, true, true, false] rfl rfl (by kernel_rfl) (fun _ _ _ h => h) (Or.inl ⟨by rfl, ?_⟩) ?_ ?_
          rotate_left
          · intro w'
            go_simp
            with_reducible rfl
          rotate_left
          · simp only [Act.put, List.setIfInBounds_toArray, List.set_cons_zero, List.set_cons_succ, i64_w, i32_w]
            rfl
          refine pure_ (i := 16) (N := some 104) (v := ?_) (a' := ?_) #[true, true, true, true, true, true, true, true, true, true, true, true, true, true, true, true, true] rfl rfl (by kernel_rfl) (fun _ _ _ h => h) (Or.inl ⟨by rfl, ?_⟩) ?_ ?_
          rotate_left
          · intro w'
            go_simp
            with_reducible rfl
          rotate_left
          · simp only [Act.put, List.setIfInBounds_toArray, List.set_cons_zero, List.set_cons_succ, i64_w, i32_w]
            rfl
          refine done_ (by kernel_rfl) ?_
          clear n1 P1 P2 P3 P4 P5
          go_wp2
          go_roundg (3 - (i + 1))
          case measure => have := I_.out; have := GI.out; omega
          case rel => exact ⟨i + 1, by omega, Nat.le_refl _, by congr 1, ⟨K7.out.less (fun _ h => h) (fun _ h => List.mem_cons_of_mem _ (List.mem_cons_of_mem _ (List.mem_cons_of_mem _ h))) (fun _ h => h)⟩⟩
        · obtain rfl : i = 3 := by omega
          have hltz3 : ¬ ((3 : Nat) : Int) < 3 := by omega
          clear hi hg
          go_wp2
          go_roundg (4 - (j + 1))
          case measure => have := J.out; have := GG.out; omega
          case rel => exact ⟨j + 1, by omega, Nat.le_refl _, by congr 1, ⟨K1.out.less (fun _ h => List.mem_cons_of_mem _ h) (fun _ h => h) (fun _ h => by simp at h)⟩⟩
    · obtain rfl : j = 4 := by omega
      have hltz : ¬ ((4 : Nat) : Int) < 4 := by omega
      clear hj hg
      go_wp2
      have hrow := rows3 wr A3 Am An c3 cm cn l m (canon m2) (J0.out.row (A3, l) (by simp)) C3.out (J0.out.row (Am, m) (by simp)) HCM.out (J0.out.row (An, canon m2) (by simp)) HCN.out
      have K0 := Aside0.mk ((J0.out.alloc (.cells #[.slice A3 l.length c3, .slice Am m.length cm, .slice An (canon m2).length cn] 25)).addRows _ _ hrow)
      have JL := Aside0.mk (LISTS.out)
      clear hrow J0
      generalize wr.alloc (.cells #[.slice A3 l.length c3, .slice Am m.length cm, .slice An (canon m2).length cn] 25) = W1 at K0 ⊢
      generalize wr.heap.size = gr at K0 ⊢
      generalize hls : [l, m, canon m2] = ls at K0 JL
      clear hls
      go_loopg [112] 3 (fun gg s112 wr => ∃ i : Nat, i ≤ 3 ∧ 3 - i ≤ gg ∧ s112 = .int .i64 i ∧ Aside0 (Inv w wr g L p4 [(w.heap.size, a), (w.heap.size + 1, b)] [(Ar, xs), (An, canon m2), (Am, m), (A3, l)] [(some ⟨gr, 0, none⟩, ls)]))
      case atStart => exact ⟨0, Nat.zero_le _, Nat.sub_le _ _, rfl, K0⟩
      case round =>
        obtain ⟨i, hi, hg, rfl, K1⟩ := hrel
        clear K0
        by_cases hlt3 : i < 3
        · have hltz3 : (i : Int) < 3 := by omega
          obtain ⟨ad', Ay, cy, ead, hcell, hcy, hCy⟩ := at_L2 (K1.out.rows (some ⟨gr, 0, none⟩, ls) (by simp)) (i : Int) (by omega) (by omega)
          cases ead
          rw [Int.toNat_natCast, add_offA, Nat.zero_add] at hcell
          have hL3 : ls.length = 3 := (K1.out.rows (some ⟨gr, 0, none⟩, ls) (by simp)).1
          have hmem : rd_L2 ls (i : Int) ∈ ls := by
            unfold rd_L2
            rw [Int.toNat_natCast, List.getD_eq_getElem?_getD, List.getElem?_eq_getElem (by omega)]
            exact List.getElem_mem _
          have hF := JL.out _ hmem
          clear hmem hL3
          generalize rd_L2 ls (i : Int) = y at hcell hcy hCy hF
          have HCY := Aside0.mk hcy
          have K2 := Aside0.mk (K1.out.addRow Ay y hCy)
          have hyl := hF.1
          have hcons := hF.2
          clear hcy hCy hF K1
          have I_ := Aside0.mk hi; have GI := Aside0.mk hg
          clear hi hg
          have hml := LM.out
          obtain ⟨pv, hpv⟩ : ∃ v, decide (y = canon y) = v := ⟨_, rfl⟩
          obtain ⟨sv, hsv⟩ : ∃ v, consF y = v := ⟨_, rfl⟩
          obtain ⟨tx, htx⟩ : ∃ v : ByteArray, ⟨(txt (canon y)).toArray⟩ = v := ⟨_, rfl⟩
          obtain ⟨z, hz⟩ : ∃ z, canon y = z := ⟨_, rfl⟩
          obtain ⟨u, hu⟩ : ∃ u, canon (y ++ m) = u := ⟨_, rfl⟩
          obtain ⟨o1, ho1⟩ : ∃ o, ofT (canon y) topic = o := ⟨_, rfl⟩
          obtain ⟨o2, ho2⟩ : ∃ o, ofT (canon y) 1 = o := ⟨_, rfl⟩
          have hzl : z.length ≤ 128 := by rw [← hz]; exact canon_len0 _
          have hul : u.length ≤ 128 := by rw [← hu]; exact canon_len0 _
          have ho1l : o1.length ≤ 128 := by rw [← ho1]; exact ofT_len _ _
          have ho2l : o2.length ≤ 128 := by rw [← ho2]; exact ofT_len _ _
          have P1 := Aside0.mk (show claims_Plain.f 2000000 y = some pv by rw [plain_f y 2000000 (by omega) (by omega), hpv])
          have P2 := Aside0.mk (show trustquorumref17_Plain.f 2000000 y = some pv by rw [rplain_f y 2000000 (by omega) (by omega), hpv])
          have P3 := Aside0.mk (show claims_Consistent.f y = some sv by rw [hcons, hsv])
          have P4 := Aside0.mk (show trustquorumref17_Consistent.f 2000000 y = some sv by rw [rconsistent_f y 2000000 (by omega) (by omega), hsv])
          have P5 := Aside0.mk (show claims_Text.f 2000000 y = some tx by rw [text_f y 2000000 (by omega) (by omega), htx])
          have P6 := Aside0.mk (show trustquorumref17_Text.f 2000000 y = some tx by rw [rtext_f y 2000000 (by omega) (by omega), htx])
          have P7 := Aside0.mk (show claims_Sorted.f y = some z by rw [sorted_f y (by omega), hz])
          have P8 := Aside0.mk (show trustquorumref17_Sorted.f 2000000 y = some z by rw [rsorted_f y 2000000 (by omega) (by omega), hz])
          have P9 := Aside0.mk (show trustquorumref17_Same.f 2000000 z z = some true by rw [same_f z z 2000000 (by omega) (by omega)]; simp)
          have Q1 := Aside0.mk (show claims_Union.f y m = some u by rw [union_f y m (by omega), hu])
          have Q2 := Aside0.mk (show trustquorumref17_Union.f 2000000 y m = some u by rw [runion_f y m 2000000 (by omega) (by omega) (by omega), hu])
          have Q3 := Aside0.mk (show trustquorumref17_Same.f 2000000 u u = some true by rw [same_f u u 2000000 (by omega) (by omega)]; simp)
          have Q4 := Aside0.mk (show claims_Of.f 2000000 y topic = some o1 by rw [of_f y topic 2000000 (by omega) (by omega), ho1])
          have Q5 := Aside0.mk (show trustquorumref17_Of.f 2000000 y topic = some o1 by rw [rof_f y topic 2000000 (by omega) (by omega), ho1])
          have Q6 := Aside0.mk (show trustquorummake_Ints.f 2000000 o1 o1 = some true from ints_f o1 2000000 (by omega) (by omega))
          have Q7 := Aside0.mk (show claims_Of.f 2000000 y 1 = some o2 by rw [of_f y 1 2000000 (by omega) (by omega), ho2])
          have Q8 := Aside0.mk (show trustquorumref17_Of.f 2000000 y 1 = some o2 by rw [rof_f y 1 2000000 (by omega) (by omega), ho2])
          have Q9 := Aside0.mk (show trustquorummake_Ints.f 2000000 o2 o2 = some true from ints_f o2 2000000 (by omega) (by omega))
          clear hpv hsv htx hz hu ho1 ho2 hzl hul ho1l ho2l hyl hcons hml
          have n1 : (pv != pv) = false := bne_self_eq_false _
          have n2 : (sv != sv) = false := bne_self_eq_false _
          have n3 : (tx.toList != tx.toList) = false := bne_self_eq_false _
          go_wp2_with (first
            | (go_at_call 20; refine (claims_Plain.calls 2000000 Ay cy y pv _ (K2.out.row (Ay, y) (by simp)) HCY.out P1.out).mono ?_; rintro e w_ ⟨rfl, hb⟩; have K3 := Aside0.mk (K2.out.step hb); clear hb; clear K2)
            | (go_at_call 21; refine (trustquorumref17_Plain.calls 2000000 Ay cy y pv _ (K3.out.row (Ay, y) (by simp)) HCY.out P2.out).mono ?_; rintro e w_ ⟨rfl, hb⟩; have K4 := Aside0.mk (K3.out.step hb); clear hb; clear K3)
            | (go_at_call 22; refine (claims_Consistent.calls Ay cy y sv _ (K4.out.row (Ay, y) (by simp)) HCY.out P3.out).mono ?_; rintro e w_ ⟨rfl, hb⟩; have K5 := Aside0.mk (K4.out.step hb); clear hb; clear K4)
            | (go_at_call 23; refine (trustquorumref17_Consistent.calls 2000000 Ay cy y sv _ (K5.out.row (Ay, y) (by simp)) HCY.out P4.out).mono ?_; rintro e w_ ⟨rfl, hb⟩; have K6 := Aside0.mk (K5.out.step hb); clear hb; clear K5)
            | (go_at_call 24; refine (claims_Text.calls 2000000 Ay cy y tx _ (K6.out.row (Ay, y) (by simp)) HCY.out P5.out).mono ?_; rintro e w_ ⟨rfl, hb⟩; have K7 := Aside0.mk (K6.out.step hb); clear hb; clear K6)
            | (go_at_call 25; refine (trustquorumref17_Text.calls 2000000 Ay cy y tx _ (K7.out.row (Ay, y) (by simp)) HCY.out P6.out).mono ?_; rintro e w_ ⟨rfl, hb⟩; have K8 := Aside0.mk (K7.out.step hb); clear hb; clear K7)
            | (go_at_call 26; refine (claims_Sorted.calls Ay cy y z _ (K8.out.row (Ay, y) (by simp)) HCY.out P7.out).mono ?_; rintro e w_ ⟨v_, rfl, hr, hb⟩; obtain ⟨Ap, cp, rfl, hcp, hCp⟩ := Kd.R_reads hr; have Hcp := Aside0.mk hcp; have K9 := Aside0.mk ((K8.out.step hb).addRow Ap z hCp); clear hr hb hcp hCp; clear K8)
            | (go_at_call 7; refine (trustquorumref17_Sorted.calls 2000000 Ay cy y z _ (K9.out.row (Ay, y) (by simp)) HCY.out P8.out).mono ?_; rintro e w_ ⟨v_, rfl, hr, hb⟩; obtain ⟨Aq, cq, rfl, hcp, hCp⟩ := Kd.R_reads hr; have Hcq := Aside0.mk hcp; have K10 := Aside0.mk ((K9.out.step hb).addRow Aq z hCp); clear hr hb hcp hCp; clear K9)
            | (go_at_call 17; refine (trustquorumref17_Same.calls 2000000 Ap cp z Aq cq z true _ (K10.out.row (Ap, z) (by simp)) Hcp.out (K10.out.row (Aq, z) (by simp)) Hcq.out P9.out).mono ?_; rintro e w_ ⟨rfl, nd, rfl⟩; have K11 := Aside0.mk (K10.out.step (pw_below_drewN (Below.refl _ _) nd)); clear K10)
            | (go_at_call 27; refine (claims_Union.calls Ay cy y Am cm m u _ (K11.out.row (Ay, y) (by simp)) HCY.out (K11.out.row (Am, m) (by simp)) HCM.out Q1.out).mono ?_; rintro e w_ ⟨v_, rfl, hr, hb⟩; obtain ⟨As, cs, rfl, hcp, hCp⟩ := Kd.R_reads hr; have Hcs := Aside0.mk hcp; have K12 := Aside0.mk ((K11.out.step hb).addRow As u hCp); clear hr hb hcp hCp; clear K11)
            | (go_at_call 28; refine (trustquorumref17_Union.calls 2000000 Ay cy y Am cm m u _ (K12.out.row (Ay, y) (by simp)) HCY.out (K12.out.row (Am, m) (by simp)) HCM.out Q2.out).mono ?_; rintro e w_ ⟨v_, rfl, hr, hb⟩; obtain ⟨At, ct, rfl, hcp, hCp⟩ := Kd.R_reads hr; have Hct := Aside0.mk hcp; have K13 := Aside0.mk ((K12.out.step hb).addRow At u hCp); clear hr hb hcp hCp; clear K12)
            | (go_at_call 17; refine (trustquorumref17_Same.calls 2000000 As cs u At ct u true _ (K13.out.row (As, u) (by simp)) Hcs.out (K13.out.row (At, u) (by simp)) Hct.out Q3.out).mono ?_; rintro e w_ ⟨rfl, nd, rfl⟩; have K14 := Aside0.mk (K13.out.step (pw_below_drewN (Below.refl _ _) nd)); clear K13)
            | (go_at_call 30; refine (claims_Of.calls 2000000 Ay cy y topic o1 _ (K14.out.row (Ay, y) (by simp)) HCY.out Q4.out).mono ?_; rintro e w_ ⟨v_, rfl, hr, hb⟩; obtain ⟨Ae, ce, rfl, hcp, hCp⟩ := Kd.R_reads hr; have Hce := Aside0.mk hcp; have CAe := Aside0.mk hCp; have K15 := Aside0.mk (K14.out.step hb); clear hr hb hcp hCp; clear K14)
            | (go_at_call 31; refine (trustquorumref17_Of.calls 2000000 Ay cy y topic o1 _ (K15.out.row (Ay, y) (by simp)) HCY.out Q5.out).mono ?_; rintro e w_ ⟨v_, rfl, hr, hb⟩; obtain ⟨Af, cf, rfl, hcp, hCp⟩ := Kd.R_reads hr; have Hcf := Aside0.mk hcp; have CAf := Aside0.mk hCp; have K16 := Aside0.mk (K15.out.step hb); have CAe2 := Aside0.mk (Kd.C_below CAe.out hb); clear hr hb hcp hCp; clear K15)
            | (go_at_call 29; have g_ := K16; clear g_; refine (trustquorummake_Ints.calls 2000000 Ae ce o1 Af cf o1 true _ CAe2.out Hce.out CAf.out Hcf.out Q6.out).mono ?_; rintro e w_ ⟨rfl, nd, rfl⟩; have K17 := Aside0.mk (K16.out.step (pw_below_drewN (Below.refl _ _) nd)); clear K16)
            | (go_at_call 30; refine (claims_Of.calls 2000000 Ay cy y 1 o2 _ (K17.out.row (Ay, y) (by simp)) HCY.out Q7.out).mono ?_; rintro e w_ ⟨v_, rfl, hr, hb⟩; obtain ⟨Ag, cg, rfl, hcp, hCp⟩ := Kd.R_reads hr; have Hcg := Aside0.mk hcp; have CAg := Aside0.mk hCp; have K18 := Aside0.mk (K17.out.step hb); clear hr hb hcp hCp; clear K17)
            | (go_at_call 31; refine (trustquorumref17_Of.calls 2000000 Ay cy y 1 o2 _ (K18.out.row (Ay, y) (by simp)) HCY.out Q8.out).mono ?_; rintro e w_ ⟨v_, rfl, hr, hb⟩; obtain ⟨Ah, ch, rfl, hcp, hCp⟩ := Kd.R_reads hr; have Hch := Aside0.mk hcp; have CAh := Aside0.mk hCp; have K19 := Aside0.mk (K18.out.step hb); have CAg2 := Aside0.mk (Kd.C_below CAg.out hb); clear hr hb hcp hCp; clear K18)
            | (go_at_call 29; have g_ := K19; clear g_; refine (trustquorummake_Ints.calls 2000000 Ag cg o2 Ah ch o2 true _ CAg2.out Hcg.out CAh.out Hch.out Q9.out).mono ?_; rintro e w_ ⟨rfl, nd, rfl⟩; have K20 := Aside0.mk (K19.out.step (pw_below_drewN (Below.refl _ _) nd)); clear K19))
          go_roundg (3 - (i + 1))
          case measure => have := I_.out; have := GI.out; omega
          case rel => exact ⟨i + 1, by omega, Nat.le_refl _, by congr 1, ⟨K20.out.less (fun _ h => h) (fun _ h => by repeat (first | exact h | refine List.mem_cons_of_mem _ ?_)) (fun _ h => h)⟩⟩
        · obtain rfl : i = 3 := by omega
          have hltz3 : ¬ ((3 : Nat) : Int) < 3 := by omega
          clear hi hg
          have ST := Aside0.mk (show trustquorumref17_Text.f 2000000 (canon m2) = some ⟨(txt (canon m2)).toArray⟩ from by
            have := rtext_f (canon m2) 2000000 (by have := LN.out; omega) (by omega)
            rwa [canon_canon0] at this)
          obtain ⟨tn, htn⟩ : ∃ v : ByteArray, ⟨(txt (canon m2)).toArray⟩ = v := ⟨_, rfl⟩
          rw [htn] at ST SP
          clear htn
          go_wp2_with (first
            | (go_at_call 25; refine (trustquorumref17_Text.calls 2000000 An cn (canon m2) tn _ (K1.out.row (An, canon m2) (by simp)) HCN.out ST.out).mono ?_; rintro e w_ ⟨rfl, hb⟩; have K2 := Aside0.mk (K1.out.step hb); clear hb; clear K1)
            | (go_at_call 25; refine (trustquorumref17_Text.calls 2000000 An cn (canon m2) tn _ (K2.out.row (An, canon m2) (by simp)) HCN.out ST.out).mono ?_; rintro e w_ ⟨rfl, hb⟩; have K3 := Aside0.mk (K2.out.step hb); clear hb; clear K2)
            | (go_at_call 32; refine (trustquorumlaw17_spoilt.calls g L p4 tn sp p5 w _ K3.out.tape K3.out.bel SP.out).mono ?_; rintro e w5 ⟨rfl, hi, hb, hk⟩; have B5 := Aside0.mk hb; clear hi hb hk K3))
          have TX0 := Aside0.mk (show TX3 (w5.alloc (.cells #[.string tn, .string sp, .string text] 9)) w5.heap.size [tn, sp, text] from texts3 w5 tn sp text)
          have B6 := Aside0.mk (below_alloc B5.out (.cells #[.string tn, .string sp, .string text] 9))
          clear B5 ST SP JL
          generalize w5.alloc (.cells #[.string tn, .string sp, .string text] 9) = W6 at TX0 B6 ⊢
          generalize w5.heap.size = gt at TX0 ⊢
          generalize hts : [tn, sp, text] = ts at TX0
          have HT3 := Aside0.mk (show ts.length = 3 by rw [← hts]; rfl)
          clear hts
          go_loopg [181] 3 (fun gg s181 wr => ∃ i : Nat, i ≤ 3 ∧ 3 - i ≤ gg ∧ s181 = .int .i64 i ∧ Aside0 (TX3 wr gt ts) ∧ Aside0 (Below w.heap.size w wr))
          case atStart => exact ⟨0, Nat.zero_le _, Nat.sub_le _ _, rfl, TX0, B6⟩
          case round =>
            obtain ⟨i, hi, hg, rfl, T1, B1⟩ := hrel
            clear TX0 B6
            by_cases hlt5 : i < 3
            · have hltz5 : (i : Int) < 3 := by omega
              obtain ⟨s, hs⟩ : ∃ s, ts[i]? = some s := ⟨_, List.getElem?_eq_getElem (by have := HT3.out; omega)⟩
              have hcell := T1.out i s hs
              clear hs
              obtain ⟨z, er, f1, f2, hzl⟩ := parse_both s 2000000 (by omega)
              have F1 := Aside0.mk f1; have F2 := Aside0.mk f2
              have F3 := Aside0.mk (show trustquorumref17_Same.f 2000000 z z = some true by rw [same_f z z 2000000 (by omega) (by omega)]; simp)
              clear f1 f2 hzl
              have n1 : (er != er) = false := bne_self_eq_false _
              have I_ := Aside0.mk hi; have GI := Aside0.mk hg
              clear hi hg
              go_wp2_with (first
                | (go_at_call 33; refine (claims_Parse.calls 2000000 s z er _ (TG_below HG.out B1.out) F1.out).mono ?_; rintro e w1 ⟨v0, rfl, hr, hb⟩; obtain ⟨Ax, cx, rfl, hcx, hCx⟩ := Kd.R_reads hr; have HCX := Aside0.mk hcx; have CX := Aside0.mk hCx; have B2 := Aside0.mk (below_step B1.out hb); have T2 := Aside0.mk (T1.out.step hb); clear hr hb hcx hCx; clear B1 T1)
                | (go_at_call 34; refine (trustquorumref17_Parse.calls 2000000 s z er _ F2.out).mono ?_; rintro e w2 ⟨v1, rfl, hr, hb⟩; obtain ⟨Ay, cy, rfl, hcy, hCy⟩ := Kd.R_reads hr; have HCY := Aside0.mk hcy; have CY := Aside0.mk hCy; have CX2 := Aside0.mk (Kd.C_below CX.out hb); have B3 := Aside0.mk (below_step B2.out hb); have T3 := Aside0.mk (T2.out.step hb); clear hr hb hcy hCy; clear B2 T2 CX)
                | (go_at_call 17; refine (trustquorumref17_Same.calls 2000000 Ax cx z Ay cy z true _ CX2.out HCX.out CY.out HCY.out F3.out).mono ?_; rintro e w3 ⟨rfl, nd, rfl⟩; have B4 := Aside0.mk (pw_below_drewN B3.out nd); have T4 := Aside0.mk (T3.out.step (pw_below_drewN (Below.refl _ _) nd)); clear B3 T3))
              go_roundg (3 - (i + 1))
              case measure => have := I_.out; have := GI.out; omega
              case rel => exact ⟨i + 1, by omega, Nat.le_refl _, by congr 1, T4, B4⟩
            · obtain rfl : i = 3 := by omega
              have hltz5 : ¬ ((3 : Nat) : Int) < 3 := by omega
              clear hi hg T1
              go_wp2_with (go_at_call 4; refine (trustquorumlaw17_awake.calls true _ (TG_below HG.out B1.out) rfl).mono ?_; rintro e w1 ⟨rfl, hb⟩)
              go_ret
              exact ⟨rfl, below_step B1.out hb⟩
end Go.Proofs.YtocadlecfddbcaaGreatDoor.QClaims
