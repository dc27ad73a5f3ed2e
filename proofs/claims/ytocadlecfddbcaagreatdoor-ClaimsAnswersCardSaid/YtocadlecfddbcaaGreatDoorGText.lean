/- The contracts of strconv.Itoa (below 100) and strings.Join, in the print's form, off the shelf. -/
import Derived.Test.YtocadlecfddbcaaGreatDoorQClaimsx0
import Derived.Test.YtocadlecfddbcaaGreatDoorShelf
namespace Go.Proofs.YtocadlecfddbcaaGreatDoor.QClaims
open Go.RowKit Go.Proofs.YtocadlecfddbcaaGreatDoorW.PrintWords Go.Proofs.YtocadlecfddbcaaGreatDoorW.PrintLast Go.Proofs.YtocadlecfddbcaaGreatDoorW.PrintMore

theorem add_off (b o j : Nat) : (⟨b, o, none⟩ : Addr).add j = ⟨b, o + j, none⟩ := by unfold Addr.add; split <;> simp_all
theorem cell_spot {w : World} {ad : Addr} {v : Value} (h : w.cell? ad = some v) : ad = ⟨ad.block, ad.off, none⟩ ∧ ad.block < w.heap.size := by
  have hlt := World.block_lt_of_cell? w ad h
  unfold World.cell? at h
  split at h
  · split at h
    · cases h
    · rename_i hs
      obtain ⟨b, o, s⟩ := ad
      cases s with
      | none => exact ⟨rfl, hlt⟩
      | some x => simp at hs
  · cases h
/-- Where a row that is read lies. -/
theorem C_addr {α : Type} {d : Kd α} {w : World} {A : Option Addr} {n : Nat} {xs : List α} (h : d.C w A n xs) (hn : 0 < n) (hsz : 0 < d.sz) :
    ∃ b o, A = some ⟨b, o, none⟩ ∧ b < w.heap.size ∧ ∀ j p, xs[j]? = some p → ∃ c, c.length = d.sz ∧ d.K w p c ∧ ∀ i u, c[i]? = some u → w.cell? ⟨b, o + (j * d.sz + i), none⟩ = some u := by
  obtain ⟨hl, _, h3⟩ := h
  obtain ⟨ad, e, hc⟩ := h3 hn
  have h0 : 0 < xs.length := by omega
  obtain ⟨c, hcl, _, hcell⟩ := hc 0 _ (List.getElem?_eq_getElem h0)
  have hc0 : 0 < c.length := by omega
  have hh := hcell 0 _ (List.getElem?_eq_getElem hc0)
  have e0 : ad.add (0 * d.sz + 0) = ad := by rw [Nat.zero_mul]; unfold Addr.add; simp
  rw [e0] at hh
  obtain ⟨e1, e2⟩ := cell_spot hh
  refine ⟨ad.block, ad.off, by rw [e, ← e1], e2, fun j p hp => ?_⟩
  obtain ⟨c, hcl, hK, hcell⟩ := hc j p hp
  refine ⟨c, hcl, hK, fun i u hu => ?_⟩
  have := hcell i u hu
  rw [e1, add_off] at this
  exact this

def strconv_Itoa.f (a0 : Int) : Option ByteArray := if 0 ≤ a0 ∧ a0 < 100 then some ⟨(Lib.decDigits a0.toNat).toArray⟩ else none
theorem strconv_Itoa.calls (a0 : Int) (r : ByteArray) (w : World) (h : strconv_Itoa.f a0 = some r) :
    Calls Tryz.prog 40 #[.int .i64 a0] w fun e w' => e = .returned (.string r) ∧ Below w.heap.size w w' := by
  unfold strconv_Itoa.f at h
  split at h
  · rename_i hc
    obtain ⟨n, rfl⟩ := Int.eq_ofNat_of_zero_le hc.1
    obtain rfl := Option.some.inj h
    refine (Tryz.strconv_Itoa_small n (by omega) w).mono ?_
    rintro e w' ⟨rfl, rfl⟩
    exact ⟨by rw [Int.toNat_natCast], Below.refl _ _⟩
  · cases h

def strings_Join.f (l0 : List ByteArray) (a1 : ByteArray) : Option ByteArray :=
  if (Lib.join (l0.map (·.data.toList)) a1.data.toList).length ≤ 140737488355328 ∧ l0.length ≤ 140737488355328 then some ⟨(Lib.join (l0.map (·.data.toList)) a1.data.toList).toArray⟩ else none
theorem strings_Join.calls (A0 : Option Addr) (c0 : Nat) (l0 : List ByteArray) (a1 : ByteArray) (r : ByteArray) (w : World) (hr0 : Kd.C Kd.string w A0 l0.length l0) (hc0 : l0.length ≤ c0) (h : strings_Join.f l0 a1 = some r) :
    Calls Tryz.prog 41 #[.slice A0 l0.length c0, .string a1] w fun e w' => e = .returned (.string r) ∧ Below w.heap.size w w' := by
  unfold strings_Join.f at h
  split at h
  · rename_i hc
    obtain rfl := Option.some.inj h
    cases l0 with
    | nil =>
      refine (Tryz.strings_Join_none A0 c0 a1 w).mono ?_
      rintro e w' ⟨rfl, rfl⟩
      exact ⟨rfl, Below.refl _ _⟩
    | cons x l =>
      obtain ⟨b, o, rfl, hb, hcell⟩ := C_addr hr0 (by simp) (by decide)
      refine (Tryz.strings_Join b o c0 (x :: l) a1 w (fun j y hy => ?_) hb hc.2 hc0 hc.1)
      obtain ⟨c, _, hK, hcc⟩ := hcell j y hy
      obtain rfl : c = [.string y] := hK
      have := hcc 0 _ rfl
      simpa [show Kd.string.sz = 1 from rfl] using this
  · cases h
end Go.Proofs.YtocadlecfddbcaaGreatDoor.QClaims
