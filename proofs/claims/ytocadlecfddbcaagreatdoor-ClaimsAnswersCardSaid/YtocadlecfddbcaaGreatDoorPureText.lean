/- The plain laws of the texts of claims: what Text writes, and that Parse reads it back. -/
import Derived.Test.YtocadlecfddbcaaGreatDoorPureTape
import Derived.Lib.TrimAscii
namespace Go.Proofs.YtocadlecfddbcaaGreatDoor.QClaims
open Go.RowKit Go.Proofs.YtocadlecfddbcaaGreatDoorW.PrintWords Go.Proofs.YtocadlecfddbcaaGreatDoorW.PrintLast Go.Proofs.YtocadlecfddbcaaGreatDoorW.PrintMore
set_option linter.unusedVariables false
theorem canon_congr0 {a b : List S24} (h : ∀ x, okC x = true → (x ∈ a ↔ x ∈ b)) : canon a = canon b :=
  uniqC _ _ (canon_pair a) (canon_pair b) fun x => by rw [mem_canon, mem_canon]; exact ⟨fun q => ⟨q.1, (h x q.1).1 q.2⟩, fun q => ⟨q.1, (h x q.1).2 q.2⟩⟩
theorem canon_canon0 (l : List S24) : canon (canon l) = canon l := canon_congr0 fun x hx => by rw [mem_canon]; exact ⟨fun q => q.2, fun q => ⟨hx, q⟩⟩
theorem canon_len0 (l : List S24) : (canon l).length ≤ 128 := by
  unfold canon
  exact Nat.le_trans (List.length_filter_le _ _) (by rw [allC_len]; omega)
/-- The word of a claim. -/
def word (x : S24) : List UInt8 := Lib.decDigits x.f0.toNat ++ [61] ++ Lib.decDigits x.f1.toNat
/-- The text of a plain list. -/
def txt (m : List S24) : List UInt8 := Lib.join (m.map word) [32]
def wordOk (x : S24) : Bool := decide (1 ≤ (word x).length) && decide ((word x).length ≤ 4) && (word x).all (fun b => decide (b.toNat < 128) && !Lib.isSpaceR b.toNat) && (wordC (word x) == some x) && decide (x.f0.toNat < 100) && decide (x.f1.toNat < 100) && decide (0 ≤ x.f0) && decide (0 ≤ x.f1)
instance : DecidableEq S24 := fun a b => decidable_of_iff (a.f0 = b.f0 ∧ a.f1 = b.f1) ⟨fun h => S24_ext h.1 h.2, fun h => by rw [h]; exact ⟨rfl, rfl⟩⟩
theorem words_ok : allC.all wordOk = true := by decide +kernel
theorem word_ok {m : List S24} {x : S24} (h : x ∈ canon m) : wordOk x = true := by
  have h1 := (List.all_eq_true.1 words_ok) x ((mem_allC x).2 ((mem_canon m x).1 h).1)
  exact h1
theorem wordOk_parts {x : S24} (h : wordOk x = true) : (1 ≤ (word x).length ∧ (word x).length ≤ 4) ∧ (∀ b ∈ word x, b.toNat < 128 ∧ Lib.isSpaceR b.toNat = false) ∧ wordC (word x) = some x ∧ (0 ≤ x.f0 ∧ x.f0 < 100) ∧ (0 ≤ x.f1 ∧ x.f1 < 100) := by
  unfold wordOk at h
  simp only [Bool.and_eq_true, decide_eq_true_eq, List.all_eq_true, Bool.not_eq_true', beq_iff_eq] at h
  obtain ⟨⟨⟨⟨⟨⟨⟨h1, h2⟩, h3⟩, h4⟩, h5⟩, h6⟩, h7⟩, h8⟩ := h
  exact ⟨⟨h1, h2⟩, h3, h4, ⟨h7, by omega⟩, ⟨h8, by omega⟩⟩
/-! ### the fields of a text -/
theorem fields_word (rest : List UInt8) : ∀ (w : List UInt8) (f : Nat) (cur : List UInt8), (∀ b ∈ w, b.toNat < 128 ∧ Lib.isSpaceR b.toNat = false) → Lib.fieldsGoD (f + w.length) cur (w ++ rest) = Lib.fieldsGoD f (cur ++ w) rest
  | [], f, cur, h => by simp
  | b :: w, f, cur, h => by
    have hb := h b (by simp)
    rw [List.length_cons, show f + (w.length + 1) = (f + w.length) + 1 by omega, List.cons_append]
    simp only [Lib.fieldsGoD]
    rw [if_neg (by simp), Lib.decodeL_ascii b (w ++ rest) hb.1, if_neg (by simp [hb.2])]
    simp only [List.take_succ_cons, List.take_zero, List.drop_succ_cons, List.drop_zero]
    rw [fields_word rest w f (cur ++ [b]) (fun c hc => h c (by simp [hc]))]
    simp
theorem fields_space (f : Nat) (cur rest : List UInt8) (hc : cur ≠ []) : Lib.fieldsGoD (f + 1) cur (32 :: rest) = cur :: Lib.fieldsGoD f [] rest := by
  simp only [Lib.fieldsGoD]
  rw [if_neg (by simp), Lib.decodeL_ascii 32 rest (by decide), if_pos (by decide), if_neg hc]
  simp
theorem fields_end (f : Nat) (cur : List UInt8) (hc : cur ≠ []) : Lib.fieldsGoD f cur [] = [cur] := by
  cases f with
  | zero => simp only [Lib.fieldsGoD]; rw [if_neg hc]
  | succ f => simp only [Lib.fieldsGoD]; rw [if_pos trivial, if_neg hc]
def plainW (w : List UInt8) : Prop := w ≠ [] ∧ ∀ b ∈ w, b.toNat < 128 ∧ Lib.isSpaceR b.toNat = false
theorem fields_tail : ∀ (r : List (List UInt8)) (w : List UInt8) (f : Nat), (∀ x ∈ r, plainW x) → w ≠ [] → (Lib.joinTail [32] r).length ≤ f → Lib.fieldsGoD f w (Lib.joinTail [32] r) = w :: r
  | [], w, f, h, hw, hf => by
    simp only [Lib.joinTail, List.map_nil, List.flatten_nil]
    exact fields_end f w hw
  | y :: r, w, f, h, hw, hf => by
    have hy := h y (by simp)
    have e : Lib.joinTail [32] (y :: r) = 32 :: (y ++ Lib.joinTail [32] r) := by simp [Lib.joinTail]
    rw [e] at hf ⊢
    simp only [List.length_cons, List.length_append] at hf
    obtain ⟨g, rfl⟩ : ∃ g, f = (g + y.length) + 1 := ⟨f - 1 - y.length, by omega⟩
    rw [fields_space _ _ _ hw, fields_word (Lib.joinTail [32] r) y g [] hy.2, List.nil_append, fields_tail r y g (fun x hx => h x (by simp [hx])) hy.1 (by omega)]
theorem fieldsD_join (ws : List (List UInt8)) (h : ∀ x ∈ ws, plainW x) : Lib.fieldsD (Lib.join ws [32]) = ws := by
  cases ws with
  | nil => rw [Lib.join_nil]; unfold Lib.fieldsD; simp [Lib.fieldsGoD]
  | cons w r =>
    have hw := h w (by simp)
    unfold Lib.fieldsD
    rw [Lib.join_cons, List.length_append, show w.length + (Lib.joinTail [32] r).length + 1 = ((Lib.joinTail [32] r).length + 1) + w.length by omega, fields_word _ _ _ _ hw.2, List.nil_append, fields_tail r w _ (fun x hx => h x (by simp [hx])) hw.1 (by omega)]
theorem plain_words (l : List S24) : ∀ x ∈ (canon l).map word, plainW x := by
  intro x hx
  obtain ⟨y, hy, rfl⟩ := List.mem_map.1 hx
  have h := wordOk_parts (word_ok hy)
  exact ⟨fun e => by have := h.1.1; rw [e] at this; simp at this, h.2.1⟩
theorem wordsC_map : ∀ (m : List S24), (∀ x ∈ m, wordC (word x) = some x) → wordsC (m.map word) = some m
  | [], h => rfl
  | x :: m, h => by
    simp only [List.map_cons, wordsC]
    rw [h x (by simp), wordsC_map m (fun y hy => h y (by simp [hy]))]
theorem join_len (ws : List (List UInt8)) (h : ∀ x ∈ ws, x.length ≤ 4) : (Lib.join ws [32]).length ≤ 5 * ws.length := by
  cases ws with
  | nil => simp [Lib.join_nil]
  | cons w r =>
    rw [Lib.join_cons, List.length_append, Lib.joinTail_length]
    have hl : ∀ (r : List (List UInt8)), (∀ x ∈ r, x.length ≤ 4) → Lib.lens r ≤ 4 * r.length := by
      intro r
      induction r with
      | nil => intro _; simp [Lib.lens]
      | cons y r ih =>
        intro hr
        have h1 := hr y (by simp)
        have h2 := ih (fun x hx => hr x (by simp [hx]))
        simp only [Lib.lens, List.map_cons, List.sum_cons, List.length_cons] at h2 ⊢
        omega
    have h1 := h w (by simp)
    have h2 := hl r (fun x hx => h x (by simp [hx]))
    simp only [List.length_cons, List.length_nil]
    omega
theorem txt_len (l : List S24) : (txt (canon l)).length ≤ 640 := by
  have h := join_len ((canon l).map word) (fun x hx => by obtain ⟨y, hy, rfl⟩ := List.mem_map.1 hx; exact (wordOk_parts (word_ok hy)).1.2)
  have := canon_len0 l
  rw [List.length_map] at h
  unfold txt
  omega
/-! ### Text -/
def bw (x : S24) : ByteArray := ⟨(word x).toArray⟩
theorem bw_list (x : S24) : (bw x).data.toList = word x := by simp [bw]
theorem itoa_f (a : Int) (h0 : 0 ≤ a) (h1 : a < 100) : strconv_Itoa.f a = some ⟨(Lib.decDigits a.toNat).toArray⟩ := by unfold strconv_Itoa.f; rw [if_pos ⟨h0, h1⟩]
theorem bw_cat (x : S24) : (⟨(Lib.decDigits x.f0.toNat).toArray⟩ ++ (⟨#[61]⟩ : ByteArray)) ++ (⟨(Lib.decDigits x.f1.toNat).toArray⟩ : ByteArray) = bw x := by
  apply ByteArray.ext
  simp [bw, word, ByteArray.data_append]
theorem small_digits (x : S24) (h : wordOk x = true) : (Lib.decDigits x.f0.toNat).length ≤ 4 ∧ (Lib.decDigits x.f1.toNat).length ≤ 4 := by
  have h1 := (wordOk_parts h).1.2
  unfold word at h1
  simp at h1
  omega
theorem text_l0 (m : List S24) (hm : m.length ≤ 128) (hok : ∀ x ∈ m, wordOk x = true) : ∀ (r i k : Nat) (acc : List ByteArray), i + r = m.length → r < k → acc.length + r ≤ 1000 →
    claims_Text.l0 k acc m (m.length : Int) (i : Int) = (strings_Join.f (acc ++ (m.drop i).map bw) (⟨#[32]⟩ : ByteArray))
  | 0, i, k + 1, acc, hi, hk, ha => by
    simp only [claims_Text.l0]
    rw [if_neg (by omega), List.drop_of_length_le (by omega)]
    simp only [List.map_nil, List.append_nil]
    cases strings_Join.f acc (⟨#[32]⟩ : ByteArray) <;> rfl
  | r + 1, i, k + 1, acc, hi, hk, ha => by
    simp only [claims_Text.l0]
    have hmem : rd_T24 m (i : Int) ∈ m := rd_mem0 m i (by omega)
    have hw := hok _ hmem
    obtain ⟨_, _, _, ⟨h0, h1⟩, ⟨h2, h3⟩⟩ := wordOk_parts hw
    have hd := small_digits _ hw
    rw [if_pos (by omega), if_pos (by omega), if_pos (by omega), itoa_f _ h0 h1, Option.bind_some, if_pos (by simp [ByteArray.size]; omega), itoa_f _ h2 h3, Option.bind_some, if_pos (by simp [ByteArray.size]; omega), if_pos (by omega), bw_cat,
      wrap64_small (by omega) (by omega), show (i : Int) + 1 = ((i + 1 : Nat) : Int) by omega, text_l0 m hm hok r (i + 1) k _ (by omega) (by omega) (by rw [List.length_append, List.length_singleton]; omega), rd_drop m i (by omega)]
    simp
theorem text_f (l : List S24) (k : Nat) (hl : l.length ≤ 1000000) (hk : 200 ≤ k) : claims_Text.f k l = some ⟨(txt (canon l)).toArray⟩ := by
  unfold claims_Text.f claims_Sorted.f
  have h := canon_len0 l
  rw [if_pos hl, Option.bind_some]
  have h1 := text_l0 (canon l) h (fun x hx => word_ok hx) (canon l).length 0 k [] (by omega) (by omega) (by simp; omega)
  rw [show ((0 : Nat) : Int) = 0 from rfl] at h1
  rw [h1]
  simp only [List.nil_append, List.drop_zero]
  have e : ((canon l).map bw).map (·.data.toList) = (canon l).map word := by
    rw [List.map_map]
    exact List.map_congr_left fun x _ => bw_list x
  have e2 : (⟨#[32]⟩ : ByteArray).data.toList = [32] := rfl
  have h2 := txt_len l
  unfold strings_Join.f
  rw [e, e2]
  unfold txt at h2 ⊢
  rw [if_pos ⟨by omega, by rw [List.length_map]; omega⟩]
/-- Parse reads back what Text writes. -/
theorem parse_text (l : List S24) (k : Nat) (hl : l.length ≤ 1000000) (hk : 200 ≤ k) : claims_Parse.f k ⟨(txt (canon l)).toArray⟩ = some (canon l, 0) := by
  unfold claims_Parse.f
  have h1 := txt_len l
  have hc := canon_len0 l
  have hsz : (⟨(txt (canon l)).toArray⟩ : ByteArray).size = (txt (canon l)).length := by simp [ByteArray.size]
  have hf : Lib.fieldsD (⟨(txt (canon l)).toArray⟩ : ByteArray).data.toList = (canon l).map word := by
    simp only
    exact fieldsD_join _ (plain_words l)
  rw [if_neg (by omega), hf, wordsC_map _ (fun x hx => (wordOk_parts (word_ok hx)).2.2.1)]
  simp only
  rw [plain_f _ k (by omega) (by omega), Option.bind_some, if_pos (by simp [canon_canon0]), text_f _ k (by omega) hk, Option.bind_some, canon_canon0, if_pos rfl]
end Go.Proofs.YtocadlecfddbcaaGreatDoor.QClaims
