/- The plain laws of the reference's Text and Parse of claims: Parse finds the words of a text; it gives what the program's Parse gives, for every text. -/
import Derived.Test.YtocadlecfddbcaaGreatDoorPureAns
import Derived.Test.YtocadlecfddbcaaGreatDoorQClaimsx11
namespace Go.Proofs.YtocadlecfddbcaaGreatDoor.QClaims
open Go.RowKit Go.Proofs.YtocadlecfddbcaaGreatDoorW.PrintWords Go.Proofs.YtocadlecfddbcaaGreatDoorW.PrintLast Go.Proofs.YtocadlecfddbcaaGreatDoorW.PrintMore
set_option linter.unusedVariables false
/-! ### the reference's Text -/
theorem join_snoc (ws : List (List UInt8)) (w : List UInt8) (h : ws ≠ []) : Lib.join (ws ++ [w]) [32] = Lib.join ws [32] ++ ([32] ++ w) := by
  cases ws with
  | nil => exact absurd rfl h
  | cons x r => rw [List.cons_append, Lib.join_cons, Lib.join_cons]; simp [Lib.joinTail]
def bj (ws : List (List UInt8)) : ByteArray := ⟨(Lib.join ws [32]).toArray⟩
theorem bj_size (ws : List (List UInt8)) : (bj ws).size = (Lib.join ws [32]).length := by simp [bj, ByteArray.size]
theorem rtext_l0 (m : List S24) (hm : m.length ≤ 128) (hok : ∀ x ∈ m, wordOk x = true) : ∀ (r i k : Nat), i + r = m.length → r < k →
    trustquorumref17_Text.l0 k (bj ((m.take i).map word)) m (m.length : Int) (i : Int) = some (bj (m.map word))
  | 0, i, k + 1, hi, hk => by
    rw [trustquorumref17_Text.l0, if_neg (by omega), List.take_of_length_le (by omega)]
  | r + 1, i, k + 1, hi, hk => by
    have ih := rtext_l0 m hm hok r (i + 1) k (by omega) (by omega)
    have hmem : rd_T24 m (i : Int) ∈ m := rd_mem0 m i (by omega)
    have hw := hok _ hmem
    obtain ⟨hwl, _, _, ⟨h0, h1⟩, ⟨h2, h3⟩⟩ := wordOk_parts hw
    have hd := small_digits _ hw
    have htk : (m.take (i + 1)).map word = (m.take i).map word ++ [word (rd_T24 m (i : Int))] := by
      have e : rd_T24 m (i : Int) = m[i] := by unfold rd_T24; rw [Int.toNat_natCast, List.getD_eq_getElem?_getD, List.getElem?_eq_getElem (by omega)]; rfl
      rw [List.take_succ_eq_append_getElem (by omega), List.map_append, e]; rfl
    have hlen : (Lib.join ((m.take i).map word) [32]).length ≤ 640 := by
      have := join_len ((m.take i).map word) (fun x hx => by
        obtain ⟨y, hy, rfl⟩ := List.mem_map.1 hx
        exact (wordOk_parts (hok y (List.mem_of_mem_take hy))).1.2)
      rw [List.length_map, List.length_take] at this
      omega
    have hbs := bj_size ((m.take i).map word)
    rw [trustquorumref17_Text.l0, if_pos (by omega), if_pos (by omega), if_pos (by omega)]
    have ew : wrap64 ((i : Int) + 1) = ((i + 1 : Nat) : Int) := by rw [wrap64_small (by omega) (by omega)]; omega
    rw [htk] at ih
    generalize rd_T24 m (i : Int) = x at hmem hw hwl h0 h1 h2 h3 hd htk ih ⊢
    have s1 : (⟨(Lib.decDigits x.f0.toNat).toArray⟩ : ByteArray).size + 1 ≤ 9223372036854775807 := by simp [ByteArray.size]; omega
    have s2 : ((⟨(Lib.decDigits x.f0.toNat).toArray⟩ : ByteArray) ++ (⟨#[61]⟩ : ByteArray)).size + (⟨(Lib.decDigits x.f1.toNat).toArray⟩ : ByteArray).size ≤ 9223372036854775807 := by rw [ByteArray.size_append]; simp [ByteArray.size]; omega
    have s3 : (bw x).size = (word x).length := by simp [bw, ByteArray.size]
    rcases Nat.eq_zero_or_pos i with hz | hz
    · have e0 : m.take i = [] := by rw [hz]; rfl
      rw [if_neg (by omega), itoa_f _ h0 h1, Option.bind_some, if_pos s1, itoa_f _ h2 h3, Option.bind_some, if_pos s2, bw_cat, if_pos (by rw [hbs, s3]; omega), ew]
      have e : bj ((m.take i).map word) ++ bw x = bj ((m.take i).map word ++ [word x]) := by
        rw [e0]
        apply ByteArray.ext
        simp [bj, bw, ByteArray.data_append, Lib.join_nil, Lib.join_one]
      rw [e]
      exact ih
    · rw [if_pos (by omega), if_pos (by omega), itoa_f _ h0 h1, Option.bind_some, if_pos s1, itoa_f _ h2 h3, Option.bind_some, if_pos s2, bw_cat,
        if_pos (by rw [ByteArray.size_append, hbs, s3]; have : (⟨#[32]⟩ : ByteArray).size = 1 := rfl; omega), ew]
      have e : (bj ((m.take i).map word) ++ (⟨#[32]⟩ : ByteArray)) ++ bw x = bj ((m.take i).map word ++ [word x]) := by
        apply ByteArray.ext
        unfold bj
        rw [join_snoc _ _ (by intro q; have q2 := congrArg List.length q; rw [List.length_map, List.length_take, List.length_nil] at q2; omega)]
        simp [bw, ByteArray.data_append]
      rw [e]
      exact ih
theorem rtext_f (l : List S24) (k : Nat) (hl : l.length ≤ 1000) (hk : 2000 ≤ k) : trustquorumref17_Text.f k l = some ⟨(txt (canon l)).toArray⟩ := by
  unfold trustquorumref17_Text.f
  have h := canon_len0 l
  rw [rsorted_f l k (by omega) (by omega), Option.bind_some]
  have h1 := rtext_l0 (canon l) h (fun x hx => word_ok hx) (canon l).length 0 k (by omega) (by omega)
  rw [show ((0 : Nat) : Int) = 0 from rfl] at h1
  exact h1
/-! ### an occurrence of a word -/
def okL (L w : List UInt8) (at_ : Nat) : Bool := decide ((L.drop at_).take w.length = w) && (decide (at_ = 0) || decide (L[at_ - 1]? = some 32)) && (decide (at_ + w.length = L.length) || decide (L[at_ + w.length]? = some 32))
theorem ba_list (s : ByteArray) : s.toList = s.data.toList := ByteArray.toList_eq _
theorem ext_list (s : ByteArray) (i n : Nat) : (s.extract i (i + n)).toList = (s.data.toList.drop i).take n := by
  rw [ba_list, ByteArray.data_extract, Array.toList_extract, List.extract_eq_take_drop, Nat.add_sub_cancel_left]
theorem bt_32 (s : ByteArray) (i : Nat) (h : i < s.size) : bt s (i : Int) = 32 ↔ s.data.toList[i]? = some 32 := by
  unfold bt
  rw [Int.toNat_natCast, dif_pos h]
  have e : s.data.toList[i]? = some s[i] := by
    rw [List.getElem?_eq_getElem (by simpa using h)]; rfl
  rw [e]
  constructor
  · intro q
    have : s[i] = 32 := by apply UInt8.toNat_inj.1; have q2 : s[i].toNat = 32 := by omega
                           exact q2
    rw [this]
  · intro q
    rw [Option.some.inj q]; rfl
theorem size_list (s : ByteArray) : s.size = s.data.toList.length := by simp
theorem l2_eq (a0 X : ByteArray) (acc : List S24) (i kk : Int) (at_ k : Nat) (hs : a0.size ≤ 6000) (hX : 1 ≤ X.size) (hX2 : X.size ≤ 4) (ha : acc.length < 1000) (hat : at_ ≤ 6001) :
    trustquorumref17_Parse.l2 (k + 1) a0 acc i kk X (X.size : Int) (at_ : Int) =
      if at_ + X.size ≤ a0.size then (if okL a0.data.toList X.data.toList at_ = true then trustquorumref17_Parse.l1 k a0 (acc ++ [⟨i, kk⟩]) i (wrap64 (kk + 1)) else trustquorumref17_Parse.l2 k a0 acc i kk X (X.size : Int) ((at_ + 1 : Nat) : Int)) else trustquorumref17_Parse.l1 k a0 acc i (wrap64 (kk + 1)) := by
  have e1 : wrap64 ((at_ : Int) + (X.size : Int)) = ((at_ + X.size : Nat) : Int) := by rw [wrap64_small (by omega) (by omega)]; omega
  have e2 : wrap64 ((at_ : Int) + 1) = ((at_ + 1 : Nat) : Int) := by rw [wrap64_small (by omega) (by omega)]; omega
  rw [trustquorumref17_Parse.l2, e1, e2]
  by_cases hle : at_ + X.size ≤ a0.size
  · rw [if_pos (by omega), if_pos (by omega), if_pos (by omega), if_pos hle, Int.toNat_natCast, Int.toNat_natCast]
    have hXl : X.data.toList.length = X.size := (size_list X).symm
    have hll : a0.data.toList.length = a0.size := (size_list a0).symm
    by_cases hm : (a0.data.toList.drop at_).take X.size = X.data.toList
    · rw [if_pos (by rw [ext_list, ba_list]; exact hm)]
      -- what stands behind the word
      have tail : ∀ A B : Option (List S24 × Int), (if (((at_ + X.size : Nat) : Int)) = (a0.size : Int) then A else (if 0 ≤ (((at_ + X.size : Nat) : Int)) then (if (((at_ + X.size : Nat) : Int)) < (a0.size : Int) then (if (bt a0 (((at_ + X.size : Nat) : Int))) = 32 then A else B) else none) else none)) =
          if (decide (at_ + X.size = a0.size) || decide (a0.data.toList[at_ + X.size]? = some 32)) = true then A else B := by
        intro A B
        by_cases h : at_ + X.size = a0.size
        · rw [if_pos (by omega), if_pos (by simp [h])]
        · rw [if_neg (by omega), if_pos (by omega), if_pos (by omega)]
          by_cases hb : bt a0 ((at_ + X.size : Nat) : Int) = 32
          · rw [if_pos hb, if_pos (by rw [(bt_32 a0 _ (by omega)).1 hb]; simp)]
          · have hb2 := fun q => hb ((bt_32 a0 (at_ + X.size) (by omega)).2 q)
            rw [if_neg hb, decide_eq_false h, decide_eq_false hb2, if_neg (by simp)]
      have hl8 : acc.length < 8796093022208 := by omega
      simp only [if_pos hl8]
      rw [tail]
      unfold okL
      rw [hXl, hll, decide_eq_true hm, Bool.true_and]
      by_cases h0 : at_ = 0
      · rw [if_pos (by omega), decide_eq_true h0, Bool.true_or, Bool.true_and]
      · have e3 : wrap64 ((at_ : Int) - 1) = ((at_ - 1 : Nat) : Int) := by rw [wrap64_small (by omega) (by omega)]; omega
        rw [if_neg (by omega), e3, if_pos (by omega), if_pos (by omega), decide_eq_false h0, Bool.false_or]
        by_cases hb : bt a0 ((at_ - 1 : Nat) : Int) = 32
        · rw [if_pos hb, decide_eq_true ((bt_32 a0 _ (by omega)).1 hb), Bool.true_and]
        · have hb2 := fun q => hb ((bt_32 a0 (at_ - 1) (by omega)).2 q)
          rw [if_neg hb, decide_eq_false hb2, Bool.false_and, if_neg (by simp)]
    · rw [if_neg (by rw [ext_list, ba_list]; exact hm)]
      have : okL a0.data.toList X.data.toList at_ = false := by unfold okL; rw [hXl, decide_eq_false hm]; simp
      rw [this, if_neg (by simp)]
  · rw [if_neg (by omega), if_neg hle]
def hitFrom (a0 X : ByteArray) (at_ : Nat) : Bool := (List.range' at_ (a0.size + 1 - at_)).any fun q => decide (q + X.size ≤ a0.size) && okL a0.data.toList X.data.toList q
theorem l2_all (a0 X : ByteArray) (acc : List S24) (i kk : Int) (hs : a0.size ≤ 6000) (hX : 1 ≤ X.size) (hX2 : X.size ≤ 4) (ha : acc.length < 1000) (K : Nat) (res : List S24 × Int) : ∀ (r at_ : Nat), at_ + r = a0.size + 1 →
    (∀ k, K ≤ k → trustquorumref17_Parse.l1 k a0 (if hitFrom a0 X at_ = true then acc ++ [⟨i, kk⟩] else acc) i (wrap64 (kk + 1)) = some res) → ∀ k, K + r + 1 ≤ k → trustquorumref17_Parse.l2 k a0 acc i kk X (X.size : Int) (at_ : Int) = some res
  | 0, at_, hr, h, k, hk => by
    obtain ⟨k, rfl⟩ : ∃ q, k = q + 1 := ⟨k - 1, by omega⟩
    rw [l2_eq a0 X acc i kk at_ k hs hX hX2 ha (by omega), if_neg (by omega)]
    have := h k (by omega)
    rw [show hitFrom a0 X at_ = false by unfold hitFrom; rw [show a0.size + 1 - at_ = 0 by omega]; rfl] at this
    simpa using this
  | r + 1, at_, hr, h, k, hk => by
    obtain ⟨k, rfl⟩ : ∃ q, k = q + 1 := ⟨k - 1, by omega⟩
    have hstep : hitFrom a0 X at_ = ((decide (at_ + X.size ≤ a0.size) && okL a0.data.toList X.data.toList at_) || hitFrom a0 X (at_ + 1)) := by
      unfold hitFrom
      rw [show a0.size + 1 - at_ = r + 1 by omega, show a0.size + 1 - (at_ + 1) = r by omega, List.range'_succ, List.any_cons]
    rw [l2_eq a0 X acc i kk at_ k hs hX hX2 ha (by omega)]
    by_cases hle : at_ + X.size ≤ a0.size
    · rw [if_pos hle]
      rw [decide_eq_true hle, Bool.true_and] at hstep
      cases ho : okL a0.data.toList X.data.toList at_ with
      | true =>
        rw [ho, Bool.true_or] at hstep
        rw [if_pos rfl]
        have := h k (by omega)
        rwa [hstep, if_pos rfl] at this
      | false =>
        rw [ho, Bool.false_or] at hstep
        rw [if_neg (by simp)]
        exact l2_all a0 X acc i kk hs hX hX2 ha K res r (at_ + 1) (by omega) (by rw [← hstep]; exact h) k (by omega)
    · rw [if_neg hle]
      have hno : ∀ q, at_ ≤ q → hitFrom a0 X q = false := by
        intro q hq
        unfold hitFrom
        rw [List.any_eq_false]
        intro x hx
        have := List.mem_range'_1.1 hx
        simp
        intro hh
        omega
      have := h k (by omega)
      rw [hno at_ (Nat.le_refl _)] at this
      simpa using this
/-! ### all words -/
def hit (a0 : ByteArray) (x : S24) : Bool := hitFrom a0 (bw x) 0
theorem drop_allC (i j : Nat) (hi : i < 8) (hj : j < 16) : allC.drop (16 * i + j) = ⟨(i : Int), (j : Int)⟩ :: allC.drop (16 * i + (j + 1)) := by
  have h := allC_at ⟨i, hi⟩ ⟨j, hj⟩
  simp only at h
  have hlt : 16 * i + j < allC.length := by rw [allC_len]; omega
  rw [List.drop_eq_getElem_cons hlt]
  rw [List.getElem?_eq_getElem hlt] at h
  rw [Option.some.inj h, Nat.add_assoc]
theorem wordOk_pair (i j : Nat) (hi : i < 8) (hj : j < 16) : wordOk ⟨(i : Int), (j : Int)⟩ = true := by
  have h := allC_at ⟨i, hi⟩ ⟨j, hj⟩
  exact (List.all_eq_true.1 words_ok) _ (List.mem_of_getElem? h)
theorem rparse_go (a0 : ByteArray) (hs : a0.size ≤ 6000) (K : Nat) (F : List S24) (res : List S24 × Int) (hK : ∀ k, K ≤ k → trustquorumref17_Parse.l0 k a0 F 8 = some res) :
    ∀ n : Nat, (∀ (i k : Nat) (acc : List S24), i ≤ 8 → (8 - i) * 18 ≤ n → K + n * (a0.size + 10) ≤ k → acc.length ≤ 16 * i → acc ++ (allC.drop (16 * i)).filter (hit a0) = F → trustquorumref17_Parse.l0 k a0 acc (i : Int) = some res) ∧
      (∀ (i j k : Nat) (acc : List S24), i < 8 → j ≤ 16 → (8 - i) * 18 - j - 1 ≤ n → K + n * (a0.size + 10) ≤ k → acc.length ≤ 16 * i + j → acc ++ (allC.drop (16 * i + j)).filter (hit a0) = F → trustquorumref17_Parse.l1 k a0 acc (i : Int) (j : Int) = some res)
  | 0 => by
    constructor
    · intro i k acc hi hm hk ha hF
      obtain rfl : i = 8 := by omega
      rw [List.drop_of_length_le (by rw [allC_len]; omega)] at hF
      simp at hF
      subst hF
      exact hK k (by omega)
    · intro i j k acc hi hj hm hk ha hF
      exfalso; omega
  | n + 1 => by
    obtain ⟨ih0, ih1⟩ := rparse_go a0 hs K F res hK n
    have hmul : (n + 1) * (a0.size + 10) = n * (a0.size + 10) + (a0.size + 10) := by rw [Nat.add_mul, Nat.one_mul]
    constructor
    · intro i k acc hi hm hk ha hF
      rcases Nat.lt_or_ge i 8 with h8 | h8
      · obtain ⟨k, rfl⟩ : ∃ q, k = q + 1 := ⟨k - 1, by omega⟩
        rw [trustquorumref17_Parse.l0, if_pos (by omega)]
        exact ih1 i 0 k acc h8 (by omega) (by omega) (by omega) (by omega) hF
      · obtain rfl : i = 8 := by omega
        rw [List.drop_of_length_le (by rw [allC_len]; omega)] at hF
        simp at hF
        subst hF
        exact hK k (by omega)
    · intro i j k acc hi hj hm hk ha hF
      obtain ⟨k, rfl⟩ : ∃ q, k = q + 1 := ⟨k - 1, by omega⟩
      rw [trustquorumref17_Parse.l1]
      rcases Nat.lt_or_ge j 16 with h16 | h16
      · have hw := wordOk_pair i j hi h16
        obtain ⟨hwl, _, _, ⟨h0, h1⟩, ⟨h2, h3⟩⟩ := wordOk_parts hw
        have hd := small_digits _ hw
        simp only at h0 h1 h2 h3 hd
        have s1 : (⟨(Lib.decDigits (i : Int).toNat).toArray⟩ : ByteArray).size + 1 ≤ 9223372036854775807 := by
          have e : (⟨(Lib.decDigits (i : Int).toNat).toArray⟩ : ByteArray).size = (Lib.decDigits (i : Int).toNat).length := by rw [size_list]
          omega
        have s2 : ((⟨(Lib.decDigits (i : Int).toNat).toArray⟩ : ByteArray) ++ (⟨#[61]⟩ : ByteArray)).size + (⟨(Lib.decDigits (j : Int).toNat).toArray⟩ : ByteArray).size ≤ 9223372036854775807 := by
          have e : (⟨(Lib.decDigits (i : Int).toNat).toArray⟩ : ByteArray).size = (Lib.decDigits (i : Int).toNat).length := by rw [size_list]
          have e' : (⟨(Lib.decDigits (j : Int).toNat).toArray⟩ : ByteArray).size = (Lib.decDigits (j : Int).toNat).length := by rw [size_list]
          have e2 : (⟨#[61]⟩ : ByteArray).size = 1 := rfl
          rw [ByteArray.size_append]
          omega
        rw [if_pos (by omega), itoa_f _ h0 h1, Option.bind_some, if_pos s1, itoa_f _ h2 h3, Option.bind_some, if_pos s2]
        have hc := bw_cat ⟨(i : Int), (j : Int)⟩
        simp only at hc
        rw [hc]
        have hbs : (bw ⟨(i : Int), (j : Int)⟩).size = (word ⟨(i : Int), (j : Int)⟩).length := by simp [bw, ByteArray.size]
        have h2a := l2_all a0 (bw ⟨(i : Int), (j : Int)⟩) acc (i : Int) (j : Int) hs (by omega) (by omega) (by omega) (K + n * (a0.size + 10)) res (a0.size + 1) 0 (by omega) (fun k' hk' => by
          rw [wrap64_small (by omega) (by omega), show (j : Int) + 1 = ((j + 1 : Nat) : Int) by omega]
          refine ih1 i (j + 1) k' _ hi (by omega) (by omega) hk' ?_ ?_
          · split
            · rw [List.length_append, List.length_singleton]; omega
            · omega
          · rw [drop_allC i j hi h16, List.filter_cons] at hF
            change acc ++ (if hit a0 ⟨(i : Int), (j : Int)⟩ = true then _ else _) = F at hF
            unfold hit at hF ⊢
            split
            · rename_i hh
              rw [if_pos hh] at hF
              rw [← hF]; simp
            · rename_i hh
              rw [if_neg hh] at hF
              exact hF) k (by omega)
        exact h2a
      · obtain rfl : j = 16 := by omega
        rw [if_neg (by omega), wrap64_small (by omega) (by omega), show (i : Int) + 1 = ((i + 1 : Nat) : Int) by omega]
        exact ih0 (i + 1) k acc (by omega) (by omega) (by omega) (by omega) hF
def found (a0 : ByteArray) : List S24 := allC.filter (hit a0)
theorem found_canon (a0 : ByteArray) : canon (found a0) = found a0 := by
  unfold canon found
  refine List.filter_congr fun x hx => ?_
  rw [Bool.eq_iff_iff]
  simp [hx]
theorem found_len (a0 : ByteArray) : (found a0).length ≤ 128 := by
  unfold found
  exact Nat.le_trans (List.length_filter_le _ _) (by rw [allC_len]; omega)
theorem rparse_f (a0 : ByteArray) (hs : a0.size ≤ 6000) (k : Nat) (hk : 1000000 ≤ k) : trustquorumref17_Parse.f k a0 = some (if (⟨(txt (found a0)).toArray⟩ : ByteArray) = a0 then (found a0, 0) else ([], 2)) := by
  unfold trustquorumref17_Parse.f
  rw [if_neg (by omega)]
  have hf := found_len a0
  have hK : ∀ k, 2001 ≤ k → trustquorumref17_Parse.l0 k a0 (found a0) 8 = some (if (⟨(txt (found a0)).toArray⟩ : ByteArray) = a0 then (found a0, 0) else ([], 2)) := by
    intro k hk
    obtain ⟨k, rfl⟩ : ∃ q, k = q + 1 := ⟨k - 1, by omega⟩
    rw [trustquorumref17_Parse.l0, if_neg (by omega), rtext_f _ k (by omega) (by omega), Option.bind_some, found_canon]
    by_cases h : (⟨(txt (found a0)).toArray⟩ : ByteArray) = a0
    · rw [if_pos h, if_pos (by rw [h])]
    · rw [if_neg h, if_neg (fun q => h (by
        rw [ba_list, ba_list] at q
        exact ByteArray.ext (Array.toList_inj.1 q)))]
  obtain ⟨n, hn⟩ : ∃ n : Nat, n = 144 := ⟨_, rfl⟩
  have hgo := (rparse_go a0 hs 2001 (found a0) _ hK n).1 0 k []
  have hb : n * (a0.size + 10) ≤ 900000 := by rw [hn]; omega
  exact hgo (by omega) (by omega) (by omega) (Nat.zero_le _) (by rw [Nat.mul_zero, List.drop_zero, List.nil_append]; unfold found; rfl)
/-! ### where the words of a text stand -/
theorem mem_fields (w q : List UInt8) (hw : plainW w) (hq : q = [] ∨ ∃ q', q = 32 :: q') : ∀ (p : List UInt8) (f : Nat) (cur : List UInt8), (∀ b ∈ p, b.toNat < 128) → (p = [] → cur = []) → (p ≠ [] → p.getLast? = some 32) → p.length + w.length + 1 ≤ f → w ∈ Lib.fieldsGoD f cur (p ++ (w ++ q))
  | [], f, cur, ha, hc, hl, hf => by
    obtain rfl := hc rfl
    obtain ⟨g, rfl⟩ : ∃ g, f = (g + 1) + w.length := ⟨f - 1 - w.length, by simp at hf; omega⟩
    rw [List.nil_append, fields_word q w (g + 1) [] hw.2, List.nil_append]
    rcases hq with rfl | ⟨q', rfl⟩
    · rw [fields_end _ _ hw.1]; simp
    · rw [fields_space _ _ _ hw.1]; simp
  | b :: p, f, cur, ha, hc, hl, hf => by
    have hb := ha b (by simp)
    have hlast := hl (by simp)
    obtain ⟨g, rfl⟩ : ∃ g, f = g + 1 := ⟨f - 1, by simp at hf; omega⟩
    have hl2 : p ≠ [] → p.getLast? = some 32 := by
      intro hp
      rw [List.getLast?_cons_of_ne_nil hp] at hlast
      exact hlast
    have hrec : ∀ cur', (p = [] → cur' = []) → w ∈ Lib.fieldsGoD g cur' (p ++ (w ++ q)) := fun cur' hc' => mem_fields w q hw hq p g cur' (fun c hcm => ha c (by simp [hcm])) hc' hl2 (by simp at hf; omega)
    rw [List.cons_append]
    simp only [Lib.fieldsGoD]
    rw [if_neg (by simp), Lib.decodeL_ascii b _ hb]
    simp only [List.take_succ_cons, List.take_zero, List.drop_succ_cons, List.drop_zero]
    by_cases hsp : Lib.isSpaceR b.toNat = true
    · rw [if_pos hsp]
      exact List.mem_append_right _ (hrec [] (fun _ => rfl))
    · rw [if_neg hsp]
      refine hrec _ (fun hp => ?_)
      subst hp
      simp at hlast
      subst hlast
      exact absurd (by decide) hsp
theorem joinTail_ascii : ∀ (r : List (List UInt8)), (∀ x ∈ r, plainW x) → ∀ b ∈ Lib.joinTail [32] r, b.toNat < 128
  | [], _, b, hb => by simp [Lib.joinTail] at hb
  | y :: r, h, b, hb => by
    have e : Lib.joinTail [32] (y :: r) = 32 :: (y ++ Lib.joinTail [32] r) := by simp [Lib.joinTail]
    rw [e] at hb
    rcases List.mem_cons.1 hb with rfl | hb
    · decide
    · rcases List.mem_append.1 hb with hb | hb
      · exact ((h y (by simp)).2 b hb).1
      · exact joinTail_ascii r (fun x hx => h x (by simp [hx])) b hb
theorem join_ascii (ws : List (List UInt8)) (h : ∀ x ∈ ws, plainW x) : ∀ b ∈ Lib.join ws [32], b.toNat < 128 := by
  cases ws with
  | nil => intro b hb; rw [Lib.join_nil] at hb; simp at hb
  | cons x r =>
    intro b hb
    rw [Lib.join_cons] at hb
    rcases List.mem_append.1 hb with hb | hb
    · exact ((h x (by simp)).2 b hb).1
    · exact joinTail_ascii r (fun y hy => h y (by simp [hy])) b hb
theorem joinTail_split : ∀ (r : List (List UInt8)) (w : List UInt8), w ∈ r → ∃ p q, Lib.joinTail [32] r = p ++ (w ++ q) ∧ p.getLast? = some 32 ∧ (q = [] ∨ ∃ q', q = 32 :: q')
  | y :: r, w, hw => by
    have e : Lib.joinTail [32] (y :: r) = 32 :: (y ++ Lib.joinTail [32] r) := by simp [Lib.joinTail]
    rcases List.mem_cons.1 hw with rfl | hw
    · refine ⟨[32], Lib.joinTail [32] r, by rw [e]; simp, rfl, ?_⟩
      cases r with
      | nil => left; simp [Lib.joinTail]
      | cons z r => right; exact ⟨_, by simp [Lib.joinTail]; rfl⟩
    · obtain ⟨p, q, h1, h2, h3⟩ := joinTail_split r w hw
      refine ⟨32 :: (y ++ p), q, by rw [e, h1]; simp, ?_, h3⟩
      have hp : p ≠ [] := by intro hp; rw [hp] at h2; simp at h2
      rw [show 32 :: (y ++ p) = (32 :: y) ++ p by simp, List.getLast?_append, h2]
      rfl
theorem join_split (ws : List (List UInt8)) (w : List UInt8) (hw : w ∈ ws) : ∃ p q, Lib.join ws [32] = p ++ (w ++ q) ∧ (p = [] ∨ p.getLast? = some 32) ∧ (q = [] ∨ ∃ q', q = 32 :: q') := by
  cases ws with
  | nil => simp at hw
  | cons x r =>
    rw [Lib.join_cons]
    rcases List.mem_cons.1 hw with rfl | hw
    · refine ⟨[], Lib.joinTail [32] r, by simp, .inl rfl, ?_⟩
      cases r with
      | nil => left; simp [Lib.joinTail]
      | cons z r => right; exact ⟨_, by simp [Lib.joinTail]; rfl⟩
    · obtain ⟨p, q, h1, h2, h3⟩ := joinTail_split r w hw
      refine ⟨x ++ p, q, by rw [h1]; simp, .inr ?_, h3⟩
      have hp : p ≠ [] := by intro hp; rw [hp] at h2; simp at h2
      rw [List.getLast?_append, h2]
      rfl
theorem okL_split (p w q : List UInt8) (hp : p = [] ∨ p.getLast? = some 32) (hq : q = [] ∨ ∃ q', q = 32 :: q') : okL (p ++ (w ++ q)) w p.length = true := by
  unfold okL
  simp only [Bool.and_eq_true, Bool.or_eq_true, decide_eq_true_eq]
  refine ⟨⟨by simp, ?_⟩, ?_⟩
  · rcases hp with rfl | hp
    · left; rfl
    · right
      have hpn : p ≠ [] := by intro h; rw [h] at hp; simp at hp
      rw [List.getElem?_append_left (by have := List.length_pos_iff.2 hpn; omega), ← List.getLast?_eq_getElem?]
      exact hp
  · rcases hq with rfl | ⟨q', rfl⟩
    · left; simp
    · right
      rw [List.getElem?_append_right (by omega), List.getElem?_append_right (by omega)]
      simp
theorem okL_parts (L w : List UInt8) (at_ : Nat) (h : okL L w at_ = true) (hle : at_ + w.length ≤ L.length) : ∃ p q, L = p ++ (w ++ q) ∧ (p = [] ∨ p.getLast? = some 32) ∧ (q = [] ∨ ∃ q', q = 32 :: q') := by
  unfold okL at h
  simp only [Bool.and_eq_true, Bool.or_eq_true, decide_eq_true_eq] at h
  obtain ⟨⟨h1, h2⟩, h3⟩ := h
  refine ⟨L.take at_, L.drop (at_ + w.length), ?_, ?_, ?_⟩
  · conv => lhs; rw [← List.take_append_drop at_ L]
    congr 1
    conv => lhs; rw [← List.take_append_drop w.length (L.drop at_)]
    rw [h1, List.drop_drop]
  · rcases Nat.eq_zero_or_pos at_ with hz | hz
    · left; rw [hz]; rfl
    · right
      have h2 := h2.resolve_left (by omega)
      rw [List.getLast?_eq_getElem?, List.length_take, Nat.min_eq_left (by omega), List.getElem?_take_of_lt (by omega)]
      exact h2
  · rcases h3 with h3 | h3
    · left; rw [h3]; simp
    · right
      have hlt := (List.getElem?_eq_some_iff.1 h3).1
      refine ⟨L.drop (at_ + w.length + 1), ?_⟩
      rw [List.drop_eq_getElem_cons hlt]
      congr 1
      rw [List.getElem?_eq_getElem hlt] at h3
      exact Option.some.inj h3
/-- The words that Parse finds in the text of a plain list are the list's. -/
theorem found_txt (l : List S24) : found ⟨(txt (canon l)).toArray⟩ = canon l := by
  rw [← canon_canon0 l]
  unfold found
  conv => rhs; unfold canon
  refine List.filter_congr fun x hx => ?_
  have hxo : okC x = true := (mem_allC x).1 hx
  have hxc : x ∈ canon [x] := (mem_canon _ _).2 ⟨hxo, by simp⟩
  have hwx := wordOk_parts (word_ok hxc)
  have hpw : plainW (word x) := ⟨fun e => by have := hwx.1.1; rw [e] at this; simp at this, hwx.2.1⟩
  have hsz : (⟨(txt (canon (canon l))).toArray⟩ : ByteArray).size = (txt (canon (canon l))).length := by simp [ByteArray.size]
  have hlist : (⟨(txt (canon (canon l))).toArray⟩ : ByteArray).data.toList = txt (canon (canon l)) := by simp
  have hbx : (bw x).size = (word x).length := by simp [bw, ByteArray.size]
  rw [canon_canon0] at hsz hlist ⊢
  rw [Bool.eq_iff_iff]
  unfold hit hitFrom
  simp only [List.any_eq_true, Bool.and_eq_true, decide_eq_true_eq, hsz, hlist, hbx, bw_list]
  have hplain := plain_words l
  constructor
  · rintro ⟨q, hq, hle, hok⟩
    obtain ⟨p, r, e, hp, hr⟩ := okL_parts _ _ q hok hle
    have hmem := mem_fields (word x) r hpw hr p ((txt (canon l)).length + 1) [] (fun b hb => join_ascii _ hplain b (by
      show b ∈ txt (canon l)
      rw [e]; exact List.mem_append_left _ hb)) (fun _ => rfl) (fun hpn => hp.resolve_left hpn) (by rw [e]; simp only [List.length_append]; omega)
    rw [← e] at hmem
    have hfd : Lib.fieldsD (txt (canon l)) = (canon l).map word := fieldsD_join _ hplain
    unfold Lib.fieldsD at hfd
    rw [hfd] at hmem
    obtain ⟨y, hy, hyw⟩ := List.mem_map.1 hmem
    have h1 := (wordOk_parts (word_ok hy)).2.2.1
    rw [hyw, hwx.2.2.1] at h1
    rw [Option.some.inj h1]
    exact hy
  · intro hxm
    obtain ⟨p, r, e, hp, hr⟩ := join_split ((canon l).map word) (word x) (List.mem_map.2 ⟨x, hxm, rfl⟩)
    have e' : txt (canon l) = p ++ (word x ++ r) := e
    refine ⟨p.length, ?_, ?_, ?_⟩
    · rw [List.mem_range'_1, e']; simp only [List.length_append]; omega
    · rw [e']; simp only [List.length_append]; omega
    · rw [e']; exact okL_split p (word x) r hp hr
theorem wordsC_len : ∀ (ws : List (List UInt8)) (m : List S24), wordsC ws = some m → m.length = ws.length
  | [], m, h => by simp [wordsC] at h; subst h; rfl
  | x :: ws, m, h => by
    simp only [wordsC] at h
    cases hx : wordC x with
    | none => rw [hx] at h; cases h
    | some a =>
      rw [hx] at h
      cases hw : wordsC ws with
      | none => rw [hw] at h; cases h
      | some r =>
        rw [hw] at h
        obtain rfl := Option.some.inj h
        rw [List.length_cons, List.length_cons, wordsC_len ws r hw]
/-- Parse and its twin agree, on every text. -/
theorem parse_both (s : ByteArray) (k : Nat) (hk : 1000000 ≤ k) : ∃ m e, claims_Parse.f k s = some (m, e) ∧ trustquorumref17_Parse.f k s = some (m, e) ∧ m.length ≤ 128 := by
  by_cases hs : s.size > 6000
  · refine ⟨[], 3, ?_, ?_, by simp⟩
    · unfold claims_Parse.f; rw [if_pos hs]
    · unfold trustquorumref17_Parse.f; rw [if_pos (by omega)]
  · by_cases h : ∃ l, s = ⟨(txt (canon l)).toArray⟩
    · obtain ⟨l, rfl⟩ := h
      have hc := canon_len0 l
      have hc2 := txt_len l
      refine ⟨canon l, 0, ?_, ?_, hc⟩
      · have := parse_text (canon l) k (by omega) (by omega)
        rwa [canon_canon0] at this
      · rw [rparse_f _ (by omega) k hk, found_txt, if_pos rfl]
    · refine ⟨[], 2, ?_, ?_, by simp⟩
      · unfold claims_Parse.f
        rw [if_neg hs]
        cases hw : wordsC (Lib.fieldsD s.data.toList) with
        | none => rfl
        | some out =>
          have hlen := wordsC_len _ _ hw
          have hfl := fieldsD_len s hs
          simp only
          rw [plain_f _ k (by omega) (by omega), Option.bind_some]
          by_cases hp : out = canon out
          · rw [decide_eq_true hp, if_pos rfl, text_f _ k (by omega) (by omega), Option.bind_some, if_neg (fun q => h ⟨out, q.symm⟩)]
          · rw [decide_eq_false hp, if_neg (by simp)]
      · rw [rparse_f _ (by omega) k hk, if_neg (fun q => h ⟨found s, by rw [found_canon]; exact q.symm⟩)]
end Go.Proofs.YtocadlecfddbcaaGreatDoor.QClaims
