/- ClaimsTexts: the walk of the law, its plain facts laid before it. -/
import Derived.Test.YtocadlecfddbcaaDoorPureText
import Derived.Test.YtocadlecfddbcaaDoorGAwake
namespace Go.Proofs.YtocadlecfddbcaaDoor.QClaims
open Go.RowKit Go.Proofs.YtocadlecfddbcaaDoorW.PrintWords Go.Proofs.YtocadlecfddbcaaDoorW.PrintLast Go.Proofs.YtocadlecfddbcaaDoorW.PrintMore
set_option linter.unusedVariables false
set_option linter.unusedSimpArgs false
/-- What a round comes to. -/
def RoundF (x : List S52) (t : ByteArray) (b : Bool) : Prop :=
  claims_Text.f 500 x = some t ∧ claims_Parse.f 500 t = some (canon x, 0) ∧ trustquorumref17_Sorted.f 500 x = some (canon x) ∧ trustquorumref17_Same.f 500 (canon x) (canon x) = some true ∧
  claims_Plain.f 500 x = some b ∧ trustquorumref17_Same.f 500 x (canon x) = some b
theorem round_facts (x : List S52) (h : x.length ≤ 128) : ∃ t b, RoundF x t b := by
  have hc := canon_len0 x
  exact ⟨_, _, text_f x 500 (by omega) (by omega), parse_text x 500 (by omega) (by omega), rsorted_f x 500 (by omega) (by omega), by rw [same_f _ _ 500 (by omega) (by omega)]; simp, plain_f x 500 (by omega) (by omega), same_f x _ 500 (by omega) (by omega)⟩
theorem add_offT (b o j : Nat) : (⟨b, o, none⟩ : Addr).add j = ⟨b, o + j, none⟩ := by unfold Addr.add; split <;> simp_all
set_option maxRecDepth 100000 in
set_option maxHeartbeats 4000000 in
theorem claimsTexts_calls (A0 : Option Addr) (c0 : Nat) (l0 : List Int) (A1 : Option Addr) (c1 : Nat) (l : List S52) (w : World) (hG : TG w) (hr0 : Kd.C (Kd.int .i64) w A0 l0.length l0) (hc0 : l0.length ≤ c0) (hm : l0.length ≤ maxLen)
    (hr1 : Kd.C k52 w A1 l.length l) (hc1 : l.length ≤ c1) :
    Calls Tryd.prog 4 #[.slice A0 l0.length c0, .slice A1 l.length c1] w fun e w' => e = .returned (.bool true) ∧ Below w.heap.size w w' := by
  have HG := Aside0.mk hG; clear hG
  by_cases hlen : l.length > 60
  · have hd : decide (60 < (l.length : Int)) = true := decide_eq_true (by omega)
    clear hr0 hr1 hc0 hc1 hm hlen
    go_enter Tryd.func4, Tryd.ntmps4
    go_wp2_with (go_at_call 13; refine (trustquorumlaw17_awake.calls true _ HG.out rfl).mono ?_; rintro e w1 ⟨rfl, hb⟩)
    go_ret
    exact ⟨rfl, hb⟩
  · obtain ⟨L, hN, hL⟩ := new_ok l0 hm
    obtain ⟨m, a1, hC, hml, _, _, _⟩ := tapeClaims_ok L 0 10 500 (by omega) (by omega) (by omega) (by omega) (by omega)
    have hC' : trustquorummake_Claims.f 500 L 0 10 = some (m, a1) := hC
    have hS1 : claims_Sorted.f l = some (canon l) := by unfold claims_Sorted.f; rw [if_pos (by omega)]
    have hS2 : claims_Sorted.f m = some (canon m) := by unfold claims_Sorted.f; rw [if_pos (by omega)]
    have hd : decide (60 < (l.length : Int)) = false := decide_eq_false (by omega)
    have HF := Aside0.mk (show ∀ x ∈ [l, canon l, canon m], ∃ t b, RoundF x t b from fun x hx => by
      have h1 := canon_len0 l
      have h2 := canon_len0 m
      simp only [List.mem_cons, List.mem_nil_iff, or_false] at hx
      rcases hx with rfl | rfl | rfl
      · exact round_facts _ (by omega)
      · exact round_facts _ h1
      · exact round_facts _ h2)
    have HN := Aside0.mk hN; have HC := Aside0.mk hC'; have HS1 := Aside0.mk hS1; have HS2 := Aside0.mk hS2
    have R0 := Aside0.mk hr0; have C0 := Aside0.mk hc0; have R1 := Aside0.mk hr1; have C1 := Aside0.mk hc1
    clear hN hC hC' hS1 hS2 hr0 hc0 hr1 hc1 hm hlen hL hml
    have hu52 := Tryd.underlying52
    go_enter Tryd.func4, Tryd.ntmps4
    go_wp2_with (first
      | (go_at_call 14; refine (trustquorummake_New.calls A0 c0 l0 L 0 w _ (Below.refl _ _) R0.out C0.out HN.out).mono ?_; rintro e w1 ⟨g, rfl, hi, hb, _⟩; have HI := Aside0.mk hi; have HB := Aside0.mk hb; clear hi hb R0)
      | (go_at_call 15; clear C0; refine (claims_Sorted.calls A1 c1 l _ _ (Kd.C_below R1.out HB.out) C1.out HS1.out).mono ?_; rintro e w2 ⟨v1, rfl, hr, hb⟩; obtain ⟨A2, c2, rfl, hc2, _⟩ := Kd.R_reads hr; have HC2 := Aside0.mk hc2; have HR1 := Aside0.mk hr; have HI2 := Aside0.mk (HI.out.below hb); have HB2 := Aside0.mk (below_step HB.out hb); clear hr hb hc2 HI HB)
      | (go_at_call 16; refine (trustquorummake_Claims.calls 500 g L 0 10 m a1 w _ HI2.out HB2.out HC.out).mono ?_; rintro e w3 ⟨v2, rfl, hr, hi, hb, hk⟩; obtain ⟨A3, c3, rfl, hc3, hC3⟩ := Kd.R_reads hr; have HC3 := Aside0.mk hc3; have HRm := Aside0.mk hC3; have HR2 := Aside0.mk (Kd.R_mono (Kd.R_keep (IsS69.apart HI2.out HR1.out (by decide)) hk (fun _ h => h.2)) (fun _ h => h.1)); have HB3 := Aside0.mk hb; clear hr hi hb hk hc3 hC3 HI2 HB2 HR1)
      | (go_at_call 15; refine (claims_Sorted.calls A3 c3 m _ _ HRm.out HC3.out HS2.out).mono ?_; rintro e w4 ⟨v3, rfl, hr, hb⟩; obtain ⟨A4, c4, rfl, hc4, hC4⟩ := Kd.R_reads hr; have HC4 := Aside0.mk hc4; have HR4 := Aside0.mk hC4; have HR3 := Aside0.mk (Kd.C_below (Kd.R_reads' HR2.out).2.2 hb); have HB4 := Aside0.mk (below_step HB3.out hb); clear hr hb hc4 hC4 HR2 HB3 HRm))
    have hrow : Kd.C (Kd.slice 52 k52) (w4.alloc (.cells #[.slice A1 l.length c1, .slice A2 (canon l).length c2, .slice A4 (canon m).length c4] 38)) (some ⟨w4.heap.size, 0, none⟩) 3 [l, canon l, canon m] := by
      refine ⟨rfl, by omega, fun _ => ⟨_, rfl, fun j p hj => ?_⟩⟩
      have hcell : ∀ i u, (#[Value.slice A1 l.length c1, Value.slice A2 (canon l).length c2, Value.slice A4 (canon m).length c4] : Array Value)[i]? = some u → (w4.alloc (.cells #[.slice A1 l.length c1, .slice A2 (canon l).length c2, .slice A4 (canon m).length c4] 38)).cell? ((⟨w4.heap.size, 0, none⟩ : Addr).add i) = some u := by
        intro i u hu
        rw [add_offT, Nat.zero_add, cell_of_row _ _ _ _ 38 (0, 0) (heap_alloc_new w4 _)]
        exact hu
      match j, hj with
      | 0, hj =>
        obtain rfl : l = p := by simpa using hj
        refine ⟨_, rfl, ⟨A1, c1, rfl, C1.out, Kd.C_alloc (Kd.C_below R1.out HB4.out) _⟩, fun i u hu => ?_⟩
        match i, hu with
        | 0, hu => exact hcell 0 u (by simpa using hu)
      | 1, hj =>
        obtain rfl : canon l = p := by simpa using hj
        refine ⟨_, rfl, ⟨A2, c2, rfl, HC2.out, Kd.C_alloc HR3.out _⟩, fun i u hu => ?_⟩
        match i, hu with
        | 0, hu => exact hcell 1 u (by simpa using hu)
      | 2, hj =>
        obtain rfl : canon m = p := by simpa using hj
        refine ⟨_, rfl, ⟨A4, c4, rfl, HC4.out, Kd.C_alloc HR4.out _⟩, fun i u hu => ?_⟩
        match i, hu with
        | 0, hu => exact hcell 2 u (by simpa using hu)
      | j + 3, hj => simp at hj
    have HROW := Aside0.mk hrow
    have HB5 := Aside0.mk (below_alloc HB4.out (.cells #[.slice A1 l.length c1, .slice A2 (canon l).length c2, .slice A4 (canon m).length c4] 38))
    clear hrow
    generalize w4.heap.size = g4 at HROW ⊢
    generalize w4.alloc (.cells #[.slice A1 l.length c1, .slice A2 (canon l).length c2, .slice A4 (canon m).length c4] 38) = W5 at HROW HB5 ⊢
    clear HC HS1 HS2 HN R1 C1 HC2 HC3 HC4 HR4 HR3 HB4
    generalize hls : [l, canon l, canon m] = ls at HF HROW
    have hl3 : ls.length = 3 := by rw [← hls]; rfl
    have HL3 := Aside0.mk hl3
    clear hls hl3
    go_loopg [24] 3 (fun gg s24 wr => ∃ j : Nat, j ≤ 3 ∧ 3 - j ≤ gg ∧ s24 = .int .i64 j ∧ Aside0 (Kd.C (Kd.slice 52 k52) wr (some ⟨g4, 0, none⟩) 3 ls) ∧ Aside0 (Below w.heap.size w wr))
    case atStart => exact ⟨0, Nat.zero_le _, Nat.sub_le _ _, rfl, HROW, HB5⟩
    case round =>
      obtain ⟨j, hj, hg, rfl, CR, BW⟩ := hrel
      by_cases hlt : j < 3
      · have hltz : (j : Int) < 3 := by omega
        obtain ⟨ad, Ax, cx, ead, hcell, hcx, hCx⟩ := at_L2 CR.out (j : Int) (by omega) (by omega)
        cases ead
        rw [Int.toNat_natCast, add_offT, Nat.zero_add] at hcell
        have hmem : rd_L2 ls (j : Int) ∈ ls := by
          unfold rd_L2
          have h3 := HL3.out
          rw [Int.toNat_natCast, List.getD_eq_getElem?_getD, List.getElem?_eq_getElem (by omega)]
          exact List.getElem_mem _
        obtain ⟨t, b, hF⟩ := HF.out _ hmem
        clear hmem
        generalize rd_L2 ls (j : Int) = x at hcell hcx hCx hF
        obtain ⟨f1, f2, f3, f4, f5, f6⟩ := hF
        have F1 := Aside0.mk f1; have F2 := Aside0.mk f2; have F3 := Aside0.mk f3; have F4 := Aside0.mk f4; have F5 := Aside0.mk f5; have F6 := Aside0.mk f6
        have HCX := Aside0.mk hcx; have CX := Aside0.mk hCx
        clear f1 f2 f3 f4 f5 f6 hcx hCx
        have T1 := Aside0.mk True.intro; have T2 := Aside0.mk True.intro
        have J := Aside0.mk hj; have GG := Aside0.mk hg
        clear hj hg
        cases b
        all_goals
          go_wp2_with (first
            | (go_at_call 18; refine (claims_Text.calls 500 Ax cx x t _ CX.out HCX.out F1.out).mono ?_; rintro e w1 ⟨rfl, hb⟩; have B1 := Aside0.mk (below_step BW.out hb); have CX1 := Aside0.mk (Kd.C_below CX.out hb); have CR1 := Aside0.mk (Kd.C_below CR.out hb); clear hb)
            | (go_at_call 17; refine (claims_Parse.calls 500 t (canon x) 0 _ (TG_below HG.out B1.out) F2.out).mono ?_; rintro e w2 ⟨v0, rfl, hr, hb⟩; obtain ⟨Ay, cy, rfl, hcy, hCy⟩ := Kd.R_reads hr; have HCY := Aside0.mk hcy; have CY := Aside0.mk hCy; have B2 := Aside0.mk (below_step B1.out hb); have CX2 := Aside0.mk (Kd.C_below CX1.out hb); have CR2 := Aside0.mk (Kd.C_below CR1.out hb); clear hr hb hcy hCy; clear B1 CX1 CR1)
            | (go_at_call 20; clear T1; refine (trustquorumref17_Sorted.calls 500 Ax cx x (canon x) _ CX2.out HCX.out F3.out).mono ?_; rintro e w3 ⟨v1, rfl, hr, hb⟩; obtain ⟨Az, cz, rfl, hcz, hCz⟩ := Kd.R_reads hr; have HCZ := Aside0.mk hcz; have CZ := Aside0.mk hCz; have B3 := Aside0.mk (below_step B2.out hb); have CX3 := Aside0.mk (Kd.C_below CX2.out hb); have CR3 := Aside0.mk (Kd.C_below CR2.out hb); have CY3 := Aside0.mk (Kd.C_below CY.out hb); clear hr hb hcz hCz; clear B2 CX2 CR2 CY)
            | (go_at_call 19; clear T2; refine (trustquorumref17_Same.calls 500 Ay cy (canon x) Az cz (canon x) true _ CY3.out HCY.out CZ.out HCZ.out F4.out).mono ?_; rintro e w4 ⟨rfl, nd, rfl⟩; have B4 := Aside0.mk (pw_below_drewN B3.out nd); have CX4 := Aside0.mk (Kd.C_drewN CX3.out nd); have CR4 := Aside0.mk (Kd.C_drewN CR3.out nd); clear B3 CX3 CR3 CY3 CZ HCZ)
            | (go_at_call 21; refine (claims_Plain.calls 500 Ax cx x _ _ CX4.out HCX.out F5.out).mono ?_; rintro e w5 ⟨rfl, hb⟩; have B5 := Aside0.mk (below_step B4.out hb); have CX5 := Aside0.mk (Kd.C_below CX4.out hb); have CR5 := Aside0.mk (Kd.C_below CR4.out hb); clear hb; clear B4 CX4 CR4)
            | (go_at_call 20; refine (trustquorumref17_Sorted.calls 500 Ax cx x (canon x) _ CX5.out HCX.out F3.out).mono ?_; rintro e w6 ⟨v2, rfl, hr, hb⟩; obtain ⟨Az, cz, rfl, hcz, hCz⟩ := Kd.R_reads hr; have HCZ := Aside0.mk hcz; have CZ := Aside0.mk hCz; have B6 := Aside0.mk (below_step B5.out hb); have CX6 := Aside0.mk (Kd.C_below CX5.out hb); have CR6 := Aside0.mk (Kd.C_below CR5.out hb); clear hr hb hcz hCz; clear B5 CX5 CR5)
            | (go_at_call 19; refine (trustquorumref17_Same.calls 500 Ax cx x Az cz (canon x) _ _ CX6.out HCX.out CZ.out HCZ.out F6.out).mono ?_; rintro e w7 ⟨rfl, nd, rfl⟩; have B7 := Aside0.mk (pw_below_drewN B6.out nd); have CR7 := Aside0.mk (Kd.C_drewN CR6.out nd); clear B6 CX6 CR6 CZ HCZ))
          go_roundg (3 - (j + 1))
          case measure => have := J.out; have := GG.out; omega
          case rel => exact ⟨j + 1, by omega, Nat.le_refl _, by congr 1, CR7, B7⟩
      · obtain rfl : j = 3 := by omega
        have hltz : ¬ ((3 : Nat) : Int) < 3 := by omega
        clear hg hj CR
        go_wp2_with (go_at_call 13; refine (trustquorumlaw17_awake.calls true _ (TG_below HG.out BW.out) rfl).mono ?_; rintro e w1 ⟨rfl, hb⟩)
        go_ret
        exact ⟨rfl, below_step BW.out hb⟩
end Go.Proofs.YtocadlecfddbcaaDoor.QClaims
