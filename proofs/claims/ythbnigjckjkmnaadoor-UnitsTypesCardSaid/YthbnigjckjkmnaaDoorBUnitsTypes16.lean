/- What the proof needs, part 16 of 19. Types of every raw plan: the answer is the reference's, with places and errors. For every plan that the card lets in. -/
import Derived.Test.YthbnigjckjkmnaaDoorBUnitsTypes14
import Derived.Test.YthbnigjckjkmnaaDoorBUnitsTypes5
import Derived.Test.YthbnigjckjkmnaaDoorBUnitsTypes10
import Derived.Test.YthbnigjckjkmnaaDoorBUnitsTypes7
import Derived.Test.YthbnigjckjkmnaaDoorBUnitsTypes6
import Derived.Test.YthbnigjckjkmnaaDoorBUnitsTypes15
set_option linter.unusedVariables false
set_option linter.unusedSimpArgs false
namespace Go.Proofs.YthbnigjckjkmnaaDoor.S
open Go.RowKit Go.Proofs.YthbnigjckjkmnaaDoorW.PrintWords Go.Proofs.YthbnigjckjkmnaaDoorW.PrintLast Go.Proofs.YthbnigjckjkmnaaDoorW.PrintMore Go.Proofs.YthbnigjckjkmnaaDoor.Pure
abbrev bs (s : ByteArray) : List UInt8 := s.data.toList
theorem bs_len (s : ByteArray) : (bs s).length = s.size := by rw [bs, Array.length_toList]; rfl
theorem bt_nat (s : ByteArray) (i : Nat) (h : i < s.size) : bt s (i : Int) = (((bs s)[i]'(by rw [bs_len]; exact h)).toNat : Int) := by
  unfold bt
  rw [dif_pos (by simpa using h)]
  rfl
theorem bt_drop (s : ByteArray) (i : Nat) (h : i < s.size) : ∃ r, (bs s).drop i = (bs s)[i]'(by rw [bs_len]; exact h) :: r ∧ r = (bs s).drop (i + 1) :=
  ⟨_, List.drop_eq_getElem_cons (by rw [bs_len]; exact h), rfl⟩
theorem bs_extract (s : ByteArray) (a b : Nat) : bs (s.extract a b) = ((bs s).take b).drop a := by
  simp [bs, ByteArray.data_extract, Array.toList_extract, List.extract_eq_take_drop, List.drop_take]
theorem bs_from (s : ByteArray) (a : Nat) : bs (s.extract a s.size) = (bs s).drop a := by
  rw [bs_extract, List.take_of_length_le (by rw [bs_len]; omega)]
theorem bs_upto (s : ByteArray) (b : Nat) : bs (s.extract 0 b) = (bs s).take b := by rw [bs_extract]; rfl
theorem wrap_small {x : Int} (h0 : -9223372036854775808 ≤ x) (h1 : x ≤ 9223372036854775807) : wrap64 x = x := by unfold wrap64; omega
theorem size_from (s : ByteArray) (a : Nat) (h : a ≤ s.size) : (s.extract a s.size).size = s.size - a := by
  rw [← bs_len, bs_from, List.length_drop, bs_len]
theorem runL_take_all (p : Int → Bool) (l : List UInt8) : ∀ c ∈ l.take (runL p l), p (c.toNat : Int) = true := by
  induction l with
  | nil => intro c hc; simp at hc
  | cons a r ih =>
    intro c hc
    by_cases h : p (a.toNat : Int) = true
    · simp only [runL, h, if_true, List.take_succ_cons, List.mem_cons] at hc
      rcases hc with rfl | hc
      · exact h
      · exact ih c hc
    · simp [runL, h] at hc
theorem ext_bs {a b : ByteArray} (h : bs a = bs b) : a = b := by
  cases a; cases b
  simp only [bs] at h
  rw [Array.toList_inj.1 h]
theorem take_bs (s : ByteArray) (n : Nat) : s.extract 0 n = ⟨((bs s).take n).toArray⟩ := ext_bs (by rw [bs_upto])
theorem indexByte_mem (l : List UInt8) (c : UInt8) : (0 ≤ Lib.indexByte l c) ↔ c ∈ l := by
  induction l with
  | nil => simp [Lib.indexByte]
  | cons b r ih =>
    have := Lib.indexByte_ge r c
    by_cases h : b = c
    · simp [Lib.indexByte, h]
    · by_cases h1 : Lib.indexByte r c = -1
      · simp [Lib.indexByte, h, h1] at ih ⊢
        exact ⟨fun e => h e.symm, ih⟩
      · have h2 : 0 ≤ Lib.indexByte r c := by omega
        simp [Lib.indexByte, h, h1]
        constructor
        · intro _; exact .inr (ih.1 h2)
        · intro _; omega
theorem letter_f (c : Int) : scan_letter.f c = some (isLetter c) := by
  unfold scan_letter.f isLetter
  by_cases h : c ≥ 97
  · rw [if_pos h]; simp [show (97 : Int) ≤ c from h]
  · rw [if_neg h]; simp [show ¬ (97 : Int) ≤ c from h]
theorem u8_eq {c : UInt8} {n : Nat} (hn : n < 256) : (c.toNat : Int) = (n : Int) ↔ c = UInt8.ofNat n := by
  constructor
  · intro e
    exact UInt8.toNat_inj.1 (by simp [Nat.mod_eq_of_lt hn]; omega)
  · rintro rfl
    simp [Nat.mod_eq_of_lt hn]
theorem rLetter_f (c : Int) : octroiref04_Letter.f c = some (isLetter c) := by
  unfold octroiref04_Letter.f isLetter
  by_cases h : c ≥ 97
  · rw [if_pos h]; simp [show (97 : Int) ≤ c from h]
  · rw [if_neg h]; simp [show ¬ (97 : Int) ≤ c from h]
theorem rDigit_f (c : Int) : octroiref04_Digit.f c = some (isDigit c) := by
  unfold octroiref04_Digit.f isDigit
  by_cases h : c ≥ 48
  · rw [if_pos h]; simp [show (48 : Int) ≤ c from h]
  · rw [if_neg h]; simp [show ¬ (48 : Int) ≤ c from h]
theorem runL_stop (p : Int → Bool) (s : ByteArray) (i : Nat) (h : i < s.size) : runL p ((bs s).drop i) = if p (bt s i) = true then runL p ((bs s).drop (i + 1)) + 1 else 0 := by
  obtain ⟨r, hr, hr'⟩ := bt_drop s i h
  rw [hr, bt_nat s i h, hr']
  rfl
def flatW : List (List UInt8) → List UInt8
  | [] => []
  | w :: ws => w ++ 32 :: flatW ws
theorem contains_cons (b : UInt8) (l n : List UInt8) : Lib.contains (b :: l) n = (n.isPrefixOf (b :: l) || Lib.contains l n) := by
  have hge := Lib.index_ge l n
  have hi : Lib.index (b :: l) n = (if n.isPrefixOf (b :: l) then 0 else if Lib.index l n == -1 then -1 else Lib.index l n + 1) := rfl
  rw [Bool.eq_iff_iff]
  unfold Lib.contains
  rw [Bool.or_eq_true, decide_eq_true_iff, decide_eq_true_iff, hi]
  by_cases hp : n.isPrefixOf (b :: l) = true
  · rw [if_pos hp]; simp [hp]
  · rw [if_neg hp]
    by_cases hx : Lib.index l n = -1
    · rw [hx]; simp [hp]
    · have : (Lib.index l n == -1) = false := by simpa using hx
      rw [this]
      simp only [Bool.false_eq_true, if_false]
      constructor
      · intro _; exact .inr (by omega)
      · intro _; omega
theorem runL_yes {p : Int → Bool} {c : UInt8} {r : List UInt8} (h : p (c.toNat : Int) = true) : runL p (c :: r) = runL p r + 1 := if_pos h
theorem runL_no {p : Int → Bool} {c : UInt8} {r : List UInt8} (h : ¬ p (c.toNat : Int) = true) : runL p (c :: r) = 0 := if_neg h
theorem pre_words (s w r : List UInt8) (hs : ∀ c ∈ s, c ≠ 32) (hw : ∀ c ∈ w, c ≠ 32) : (s ++ [32]).isPrefixOf (w ++ 32 :: r) = decide (s = w) := by
  induction s generalizing w with
  | nil =>
    cases w with
    | nil => simp [List.isPrefixOf]
    | cons b w =>
      have := hw b (by simp)
      simp [List.isPrefixOf, this]
      exact fun h => this h.symm
  | cons a s ih =>
    cases w with
    | nil =>
      have := hs a (by simp)
      simp [List.isPrefixOf, this]
    | cons b w =>
      have h1 := ih w (fun c hc => hs c (by simp [hc])) (fun c hc => hw c (by simp [hc]))
      simp only [List.cons_append, List.isPrefixOf, h1]
      by_cases hab : a = b
      · subst hab; simp
      · simp [hab]
theorem skip_word (w t n : List UInt8) (hw : ∀ c ∈ w, c ≠ 32) : Lib.contains (w ++ t) (32 :: n) = Lib.contains t (32 :: n) := by
  induction w with
  | nil => rfl
  | cons b w ih =>
    have hb := hw b (by simp)
    rw [List.cons_append, contains_cons, ih (fun c hc => hw c (by simp [hc]))]
    have : (32 :: n).isPrefixOf (b :: (w ++ t)) = false := by
      simp [List.isPrefixOf]
      exact fun h => absurd h.symm hb
    rw [this, Bool.false_or]
theorem contains_words (s : List UInt8) (ws : List (List UInt8)) (hs : ∀ c ∈ s, c ≠ 32) (hw : ∀ w ∈ ws, ∀ c ∈ w, c ≠ 32) :
    Lib.contains (32 :: flatW ws) (32 :: (s ++ [32])) = decide (s ∈ ws) := by
  induction ws with
  | nil =>
    rw [flatW, contains_cons]
    have h1 : (32 :: (s ++ [32])).isPrefixOf [32] = false := by
      cases s <;> simp [List.isPrefixOf]
    have h2 : Lib.contains [] (32 :: (s ++ [32])) = false := rfl
    rw [h1, h2]
    simp
  | cons w ws ih =>
    have h1 : (32 :: (s ++ [32])).isPrefixOf (32 :: (w ++ 32 :: flatW ws)) = decide (s = w) := by
      rw [List.isPrefixOf, pre_words s w _ hs (hw w (by simp))]
      simp
    rw [flatW, contains_cons, h1, skip_word w _ _ (hw w (by simp)), ih (fun v hv => hw v (by simp [hv]))]
    simp [Bool.decide_or]
def wordsL : List (List UInt8) := [[112, 108, 97, 110], [114, 111, 117, 110, 100], [98, 121], [98, 108, 111, 99, 107, 115], [109, 105, 110], [109, 97, 120], [111, 118, 101, 114], [117, 112, 116, 111], [103, 114, 97, 100, 117, 97, 116, 101, 100], [118, 111, 108, 117, 109, 101], [111, 102, 102], [105, 102], [102, 108, 111, 111, 114], [99, 101, 105, 108], [122, 101, 114, 111], [104, 97, 108, 102], [101, 118, 101, 110]]
theorem words_letters : ∀ w ∈ wordsL, w ≠ [] ∧ runL isLetter w = w.length := by decide
theorem words_blank : ∀ w ∈ wordsL, ∀ c ∈ w, c ≠ 32 := by decide
theorem runL_all (p : Int → Bool) (l : List UInt8) (h : runL p l = l.length) : ∀ c ∈ l, p (c.toNat : Int) = true := by
  have := runL_take_all p l
  rw [h, List.take_length] at this
  exact this
theorem word_f (s : ByteArray) (hs : s.size ≤ 140737488351232) : scan_Word.f s = some (decide (bs s ∈ wordsL)) := by
  unfold scan_Word.f
  rw [ByteArray.toList_eq]
  by_cases h0 : bs s = []
  · rw [if_pos h0]
    have : ¬ (bs s ∈ wordsL) := fun h => (words_letters _ h).1 h0
    rw [decide_eq_false this]
  · rw [if_neg h0]
    have hlen : ((⟨#[32]⟩ : ByteArray) ++ s).size = 1 + s.size := by rw [ByteArray.size_append]; rfl
    unfold scan_run_letter.f
    rw [if_pos (by omega), Option.bind_some]
    by_cases hr : runL isLetter (bs s) = s.size
    · rw [if_pos (by exact congrArg Int.ofNat hr), if_pos (by omega), if_pos (by omega)]
      unfold strings_Contains.f
      rw [if_pos (by decide), Option.bind_some]
      congr 1
      have hbs : (((⟨#[32]⟩ : ByteArray) ++ s) ++ (⟨#[32]⟩ : ByteArray)).data.toList = 32 :: (bs s ++ [32]) := by
        rw [ByteArray.data_append, ByteArray.data_append, Array.toList_append, Array.toList_append]
        rfl
      rw [hbs]
      exact contains_words (bs s) wordsL (fun c hc h => by
        have := runL_all isLetter (bs s) (by rw [hr, bs_len]) c hc
        subst h
        exact absurd this (by decide)) words_blank
    · rw [if_neg (by intro h; exact hr (Int.ofNat.inj h))]
      have : ¬ (bs s ∈ wordsL) := fun h => hr (by rw [(words_letters _ h).2, bs_len])
      rw [decide_eq_false this]
theorem rword_l0 (s : ByteArray) (L : List ByteArray) (hL : L.length ≤ 100) (d : Nat) : ∀ (k i : Nat), i ≤ L.length → L.length - i ≤ d → d < k →
    zAf.l0 k s L (i : Int) = some (decide (bs s ∈ (L.drop i).map bs)) := by
  induction d with
  | zero =>
    intro k i h0 h1 hk
    obtain ⟨k, rfl⟩ : ∃ m, k = m + 1 := ⟨k - 1, by omega⟩
    simp only [zAf.l0]
    rw [if_neg (by omega), List.drop_of_length_le (by omega)]
    simp
  | succ d ih =>
    intro k i h0 h1 hk
    obtain ⟨k, rfl⟩ : ∃ m, k = m + 1 := ⟨k - 1, by omega⟩
    rcases Nat.lt_or_ge i L.length with hlt | hge
    · have hnext := ih k (i + 1) (by omega) (by omega) (by omega)
      have hw : wrap64 ((i : Int) + 1) = ((i + 1 : Nat) : Int) := by rw [wrap_small (by omega) (by omega)]; omega
      have hrd : rdOf ByteArray.empty L (i : Int) = L[i] := by
        rw [rdOf, Int.toNat_natCast, List.getD_eq_getElem?_getD, List.getElem?_eq_getElem hlt]; rfl
      simp only [zAf.l0]
      rw [if_pos (Int.ofNat_lt.2 hlt), if_pos (Int.natCast_nonneg _), hrd, hw, hnext, ByteArray.toList_eq, ByteArray.toList_eq]
      rw [List.drop_eq_getElem_cons hlt, List.map_cons]
      by_cases he : bs L[i] = bs s
      · rw [if_pos he, decide_eq_true (by simp [he])]
      · rw [if_neg he]
        congr 1
        have : ¬ bs s = bs L[i] := fun h => he h.symm
        simp [this]
    · simp only [zAf.l0]
      rw [if_neg (by omega), List.drop_of_length_le (by omega)]
      simp
theorem rword_f (s : ByteArray) (k : Nat) (hk : 17 < k) : zAf.f k s = some (decide (bs s ∈ wordsL)) := by
  unfold zAf.f octroiref04_words.f
  rw [Option.bind_some]
  exact rword_l0 s _ (by decide) 17 k 0 (by decide) (by decide) hk
def nameB (l : List UInt8) : Bool := decide (0 < l.length) && decide (l.length ≤ 32) && (match l with | [] => false | c :: _ => isLetter (c.toNat : Int)) && decide (runL isInner l = l.length) && !decide (l ∈ wordsL)
theorem name_f (s : ByteArray) (hs : s.size ≤ 140737488351232) : scan_Name.f s = some (nameB (bs s)) := by
  have hbl := bs_len s
  unfold scan_Name.f nameB
  rw [ByteArray.toList_eq]
  by_cases h0 : bs s = []
  · rw [if_pos h0, h0]; rfl
  · have hpos : 0 < s.size := by rw [← hbl]; exact List.length_pos_iff.2 h0
    rw [if_neg h0, hbl, decide_eq_true hpos, Bool.true_and]
    by_cases h32 : s.size ≤ 32
    · have hb := bt_nat s 0 hpos
      obtain ⟨r, hr, _⟩ := bt_drop s 0 hpos
      rw [List.drop_zero] at hr
      have hb' : bt s 0 = (((bs s)[0]'(by rw [hbl]; exact hpos)).toNat : Int) := hb
      rw [if_pos (by omega), if_pos (by omega), letter_f, Option.bind_some, decide_eq_true h32, Bool.true_and, hb']
      have hm : (match bs s with | [] => false | c :: _ => isLetter (c.toNat : Int)) = isLetter (((bs s)[0]'(by rw [hbl]; exact hpos)).toNat : Int) := by
        generalize (bs s)[0]'(by rw [hbl]; exact hpos) = c at hr ⊢
        rw [hr]
      rw [hm]
      cases hl : isLetter (((bs s)[0]'(by rw [hbl]; exact hpos)).toNat : Int) with
      | false => rw [if_neg (by decide)]; simp
      | true =>
        rw [if_pos rfl, word_f s hs]
        unfold scan_run_inner.f
        rw [if_pos (by omega), Option.bind_some, Option.bind_some, Bool.true_and]
        by_cases hr : runL isInner (bs s) = s.size
        · rw [if_pos (by exact congrArg Int.ofNat hr), decide_eq_true hr, Bool.true_and]
        · rw [if_neg (by intro h; exact hr (Int.ofNat.inj h)), decide_eq_false hr]; rfl
    · rw [if_neg (by omega), decide_eq_false h32]; simp
theorem rname_l0 (s : ByteArray) (hs : s.size ≤ 140737488351232) (d : Nat) : ∀ (k i : Nat), i ≤ s.size → s.size - i ≤ d → d < k →
    zAK.l0 k s (i : Int) = some (decide (runL isInner ((bs s).drop i) = s.size - i)) := by
  induction d with
  | zero =>
    intro k i h0 h1 hk
    obtain ⟨k, rfl⟩ : ∃ m, k = m + 1 := ⟨k - 1, by omega⟩
    simp only [zAK.l0]
    rw [if_neg (by omega), List.drop_of_length_le (by rw [bs_len]; omega), decide_eq_true (by simp [runL]; omega)]
  | succ d ih =>
    intro k i h0 h1 hk
    obtain ⟨k, rfl⟩ : ∃ m, k = m + 1 := ⟨k - 1, by omega⟩
    rcases Nat.lt_or_ge i s.size with hlt | hge
    · have hnext := ih k (i + 1) (by omega) (by omega) (by omega)
      have hb := bt_nat s i hlt
      obtain ⟨r, hr, hr2⟩ := bt_drop s i hlt
      generalize hc : (bs s)[i]'(by rw [bs_len]; exact hlt) = c at hb hr
      have hd : decide (runL isInner ((bs s).drop i) = s.size - i) = (isInner (c.toNat : Int) && decide (runL isInner ((bs s).drop (i + 1)) = s.size - (i + 1))) := by
        rw [hr, ← hr2]
        by_cases hi : isInner (c.toNat : Int) = true
        · rw [runL_yes hi, hi, Bool.true_and]
          by_cases h : runL isInner r = s.size - (i + 1)
          · rw [decide_eq_true h, decide_eq_true (by omega)]
          · rw [decide_eq_false h, decide_eq_false (by omega)]
        · rw [runL_no hi, decide_eq_false (by omega)]
          have : isInner (c.toNat : Int) = false := by simpa using hi
          rw [this, Bool.false_and]
      have hw : wrap64 ((i : Int) + 1) = ((i + 1 : Nat) : Int) := by rw [wrap_small (by omega) (by omega)]; omega
      rw [hd]
      simp only [zAK.l0]
      rw [if_pos (Int.ofNat_lt.2 hlt), if_pos (Int.natCast_nonneg _), hb, hw, hnext, rLetter_f, Option.bind_some, rDigit_f, Option.bind_some]
      unfold isInner
      by_cases h1 : isLetter (c.toNat : Int) = true
      · rw [if_pos h1, h1]; simp
      · have h1' : isLetter (c.toNat : Int) = false := by simpa using h1
        rw [if_neg h1, h1', Bool.false_or]
        by_cases h2 : isDigit (c.toNat : Int) = true
        · rw [if_pos h2, h2]; simp
        · have h2' : isDigit (c.toNat : Int) = false := by simpa using h2
          rw [if_neg h2, h2', Bool.false_or]
          by_cases h3 : (c.toNat : Int) = 95
          · rw [if_pos h3, h3]; simp
          · have : ((c.toNat : Int) == 95) = false := by simpa using h3
            rw [if_neg h3, this, Bool.false_and]
    · simp only [zAK.l0]
      rw [if_neg (by omega), List.drop_of_length_le (by rw [bs_len]; omega), decide_eq_true (by simp [runL]; omega)]
theorem rname_f (s : ByteArray) (hs : s.size ≤ 140737488351232) (k : Nat) (hk : s.size + 20 < k) : zAK.f k s = some (nameB (bs s)) := by
  have hbl := bs_len s
  obtain ⟨k, rfl⟩ : ∃ m, k = m + 1 := ⟨k - 1, by omega⟩
  unfold zAK.f
  by_cases h0 : s.size = 0
  · have hn : bs s = [] := List.eq_nil_of_length_eq_zero (by rw [hbl]; exact h0)
    rw [if_pos (by omega), hn]
    simp only [zAK.j0]
    rfl
  have hpos : 0 < s.size := by omega
  unfold nameB
  rw [if_neg (by omega), hbl, decide_eq_true hpos, Bool.true_and]
  by_cases h32 : s.size ≤ 32
  · have hb := bt_nat s 0 hpos
    obtain ⟨r, hr, _⟩ := bt_drop s 0 hpos
    rw [List.drop_zero] at hr
    have hb' : bt s 0 = (((bs s)[0]'(by rw [hbl]; exact hpos)).toNat : Int) := hb
    rw [if_neg (by omega), if_pos (by omega), rLetter_f, Option.bind_some, decide_eq_true h32, Bool.true_and, hb']
    have hm : (match bs s with | [] => false | c :: _ => isLetter (c.toNat : Int)) = isLetter (((bs s)[0]'(by rw [hbl]; exact hpos)).toNat : Int) := by
      generalize (bs s)[0]'(by rw [hbl]; exact hpos) = c at hr ⊢
      rw [hr]
    rw [hm]
    generalize (bs s)[0]'(by rw [hbl]; exact hpos) = c at hr ⊢
    cases hl : isLetter (c.toNat : Int) with
    | false => rw [if_neg (by decide)]; simp only [zAK.j0]; simp
    | true =>
      rw [if_pos rfl, rword_f s (k + 1) (by omega), Option.bind_some, Bool.true_and]
      simp only [zAK.j0]
      by_cases hw : bs s ∈ wordsL
      · rw [decide_eq_true hw]; simp
      · rw [decide_eq_false hw, if_neg (by decide)]
        have h1 := rname_l0 s hs s.size k 1 (by omega) (by omega) (by omega)
        have h2 : (zAK.l0 k s 1) = zAK.l0 k s ((1 : Nat) : Int) := rfl
        rw [h2, h1]
        have hin : isInner (c.toNat : Int) = true := isInner_of_letter hl
        have hr1 : (bs s).drop 1 = r := by rw [hr]; rfl
        rw [hr1, hr, runL_yes hin]
        congr 1
        by_cases h : runL isInner r = s.size - 1
        · rw [decide_eq_true h, decide_eq_true (by omega)]; rfl
        · rw [decide_eq_false h, decide_eq_false (by omega)]; rfl
  · rw [if_pos (by omega), decide_eq_false h32]
    simp only [zAK.j0]
    simp
end Go.Proofs.YthbnigjckjkmnaaDoor.S

namespace Go.Proofs.YthbnigjckjkmnaaDoor.S
open Go.RowKit Go.Proofs.YthbnigjckjkmnaaDoorW.PrintWords Go.Proofs.YthbnigjckjkmnaaDoorW.PrintLast Go.Proofs.YthbnigjckjkmnaaDoorW.PrintMore Go.Proofs.YthbnigjckjkmnaaDoor.Pure
abbrev Nd := S33
abbrev Dm := S47
abbrev Tr := S45
theorem Ev.ifp {α : Type} {c : Prop} [Decidable c] {g f : Nat → Option α} {r : α} (hc : c) (h : Ev g r) : Ev (fun k => if c then g k else f k) r := by
  simp only [if_pos hc]; exact h
theorem Ev.ifn {α : Type} {c : Prop} [Decidable c] {g f : Nat → Option α} {r : α} (hc : ¬ c) (h : Ev f r) : Ev (fun k => if c then g k else f k) r := by
  simp only [if_neg hc]; exact h
theorem Ev.ift {α : Type} {g f : Nat → Option α} {r : α} (h : Ev g r) : Ev (fun k => if True then g k else f k) r := by
  simp only [if_true]; exact h
theorem Ev.both {α : Type} {g : Nat → Option α} {r s : α} (h : Ev g r) (e : r = s) : Ev g s := e ▸ h
theorem Ev.pre {α β : Type} {o : Option β} {f : Nat → β → Option α} {b : β} {r : α} (h : o = some b) (k : Ev (fun n => f n b) r) : Ev (fun n => o.bind (f n)) r := by
  subst h
  exact k
theorem Ev.shift {α : Type} {g : Nat → Option α} {r : α} (h : Ev (fun k => g (k + 1)) r) : Ev g r := Ev.step (fun _ => rfl) h
theorem Ev.unique {α : Type} {g : Nat → Option α} {r s : α} (h : Ev g r) (h' : Ev g s) : r = s := by
  obtain ⟨K, hK⟩ := h
  obtain ⟨K', hK'⟩ := h'
  have a := hK (K + K') (by omega)
  have b := hK' (K + K') (by omega)
  rw [a] at b
  exact Option.some.inj b
theorem rdN (l : List Nd) (i : Nat) (h : i < l.length) : zAC l (i : Int) = l[i] := by simp [zAC, List.getD_eq_getElem?_getD, List.getElem?_eq_getElem h]
theorem rdT (l : List Tr) (i : Nat) (h : i < l.length) : zAe l (i : Int) = l[i] := by simp [zAe, List.getD_eq_getElem?_getD, List.getElem?_eq_getElem h]
theorem rdD (l : List Dm) (i : Nat) (h : i < l.length) : rd_T47 l (i : Int) = l[i] := by simp [rd_T47, List.getD_eq_getElem?_getD, List.getElem?_eq_getElem h]
theorem rdI (l : List Int) (i : Nat) (h : i < l.length) : rd l (i : Int) = l[i] := by simp [rd, List.getD_eq_getElem?_getD, List.getElem?_eq_getElem h]
theorem w_up (i : Nat) (h : i ≤ 140737488351232) : wrap64 ((i : Int) + 1) = ((i + 1 : Nat) : Int) := by unfold wrap64; omega
theorem w_down (i : Nat) (h : i ≤ 140737488351232) (h0 : 0 < i) : wrap64 ((i : Int) - 1) = ((i - 1 : Nat) : Int) := by unfold wrap64; omega
theorem Ev.ite2 {α : Type} {c : Prop} [Decidable c] {g f : Nat → Option α} {r s : α} (h : Ev g r) (h' : Ev f s) : Ev (fun k => if c then g k else f k) (if c then r else s) := by
  by_cases hc : c
  · rw [if_pos hc]; exact Ev.ifp hc h
  · rw [if_neg hc]; exact Ev.ifn hc h'
theorem Ev.ite3 {α : Type} {c : Prop} [Decidable c] {g f : Nat → Option α} {r s : α} (h : c → Ev g r) (h' : ¬ c → Ev f s) : Ev (fun k => if c then g k else f k) (if c then r else s) := by
  by_cases hc : c
  · rw [if_pos hc]; exact Ev.ifp hc (h hc)
  · rw [if_neg hc]; exact Ev.ifn hc (h' hc)
theorem w_len (n : Nat) (h : n ≤ 140737488351232) : wrap64 (n : Int) = n := wrap_small (by omega) (by omega)
def riseL : Option Int → List Tr → Bool
  | _, [] => true
  | p, t :: r => if (match p with | none => false | some q => decide (t.f0 ≤ q)) = true then false else if t.f0 > 1000000000000 then false else if t.f1 < -1000000000000 then false else if t.f1 > 1000000000000 then false else riseL (some t.f0) r
theorem riseL_none (t : Tr) (r : List Tr) : riseL none (t :: r) = if t.f0 > 1000000000000 then false else if t.f1 < -1000000000000 then false else if t.f1 > 1000000000000 then false else riseL (some t.f0) r := by
  rw [riseL]; exact if_neg (by decide)
theorem riseL_some (q : Int) (t : Tr) (r : List Tr) : riseL (some q) (t :: r) = if t.f0 ≤ q then false else if t.f0 > 1000000000000 then false else if t.f1 < -1000000000000 then false else if t.f1 > 1000000000000 then false else riseL (some t.f0) r := by
  rw [riseL]; simp only [decide_eq_true_eq]
def prevT (l : List Tr) : Nat → Option Int
  | 0 => none
  | j + 1 => (l[j]?).map (·.f0)
theorem prevT_succ (l : List Tr) (i : Nat) (h : i < l.length) : prevT l (i + 1) = some l[i].f0 := by simp [prevT, List.getElem?_eq_getElem h]
def riseB (l : List Tr) : Bool := if (l.length : Int) < 1 then false else if (l.length : Int) > 16 then false else if ((zAe l 0).f0 != 0) = true then false else riseL none l
theorem rising_l0 (l : List Tr) (hl : l.length ≤ 140737488351232) (d : Nat) : ∀ i, i + d = l.length → Ev (fun k => tree_rising.l0 k l l (l.length : Int) (i : Int)) (riseL (prevT l i) (l.drop i)) := by
  induction d with
  | zero =>
    intro i hi
    rw [List.drop_of_length_le (by omega)]
    refine Ev.step (f := fun _ => some true) (fun k => by simp only [tree_rising.l0]; rw [if_neg (by omega)]) ?_
    exact Ev.now _
  | succ d ih =>
    intro i hi
    have h : i < l.length := by omega
    have hn := ih (i + 1) (by omega)
    rw [prevT_succ l i h] at hn
    rw [List.drop_eq_getElem_cons h]
    refine Ev.step (fun k => by simp only [tree_rising.l0]; rw [if_pos (by omega), if_pos (by omega), if_pos (by omega), rdT l i h, w_up i (by omega)]) ?_
    cases i with
    | zero =>
      rw [show prevT l 0 = none from rfl, riseL_none]
      refine Ev.ifn (by simp) ?_
      exact Ev.ite2 (Ev.now _) (Ev.ite2 (Ev.now _) (Ev.ite2 (Ev.now _) hn))
    | succ j =>
      refine Ev.ifp (by omega) ?_
      rw [show ((j + 1 : Nat) : Int) - 1 = (j : Int) by omega, w_len j (by omega), rdT l j (by omega)]
      refine Ev.ifp (by omega) (Ev.ifp (by omega) ?_)
      rw [prevT_succ l j (by omega), riseL_some]
      exact Ev.ite2 (Ev.now _) (Ev.ite2 (Ev.now _) (Ev.ite2 (Ev.now _) (Ev.ite2 (Ev.now _) hn)))
theorem rising_ev (l : List Tr) (hl : l.length ≤ 140737488351232) : Ev (fun k => tree_rising.f k l) (riseB l) := by
  unfold riseB
  have h0 := rising_l0 l hl l.length 0 (by omega)
  refine Ev.ite3 (fun _ => ?_) (fun h1 => Ev.ite2 ?_ ?_)
  · exact Ev.step (f := fun _ => some false) (fun k => by simp [tree_rising.j0]) (Ev.now _)
  · exact Ev.step (f := fun _ => some false) (fun k => by simp [tree_rising.j0]) (Ev.now _)
  · refine Ev.ifp (by omega) (Ev.step (fun k => by simp only [tree_rising.j0]; rfl) ?_)
    exact Ev.ite2 (Ev.now _) h0
theorem swapB {a b : Prop} [Decidable a] [Decidable b] (z : Bool) : (if a then false else if b then false else z) = (if b then false else if a then false else z) := by
  by_cases ha : a <;> by_cases hb : b <;> simp [ha, hb]
theorem riseL_none' (t : Tr) (r : List Tr) : riseL none (t :: r) = if t.f0 > 1000000000000 then false else if t.f1 > 1000000000000 then false else if t.f1 < -1000000000000 then false else riseL (some t.f0) r := by
  rw [riseL_none, swapB (a := t.f1 < -1000000000000)]
theorem riseL_some' (q : Int) (t : Tr) (r : List Tr) : riseL (some q) (t :: r) = if t.f0 ≤ q then false else if t.f0 > 1000000000000 then false else if t.f1 > 1000000000000 then false else if t.f1 < -1000000000000 then false else riseL (some t.f0) r := by
  rw [riseL_some, swapB (a := t.f1 < -1000000000000)]
theorem rtiers_j2 (l : List Tr) (i : Nat) (h : i < l.length) (hl : l.length ≤ 140737488351232) (b : Bool) (r : Bool) (hn : Ev (fun k => zAO.l0 k l ((i + 1 : Nat) : Int)) r) :
    Ev (fun k => zAO.j2 k l (i : Int) b) (if b = true then false else if l[i].f0 > 1000000000000 then false else if l[i].f1 > 1000000000000 then false else if l[i].f1 < -1000000000000 then false else r) := by
  refine Ev.step (fun k => by simp only [zAO.j2]; rw [rdT l i h, w_up i (by omega)]) ?_
  exact Ev.ite2 (Ev.now _) (Ev.ifp (by omega) (Ev.ifp (by omega) (Ev.ite2 (Ev.now _) (Ev.ite2 (Ev.now _) (Ev.ite2 (Ev.now _) hn)))))
theorem rtiers_l0 (l : List Tr) (hl : l.length ≤ 140737488351232) (d : Nat) : ∀ i, i + d = l.length → Ev (fun k => zAO.l0 k l (i : Int)) (riseL (prevT l i) (l.drop i)) := by
  induction d with
  | zero =>
    intro i hi
    rw [List.drop_of_length_le (by omega)]
    refine Ev.step (f := fun _ => some true) (fun k => by simp only [zAO.l0]; rw [if_neg (by omega)]) ?_
    exact Ev.now _
  | succ d ih =>
    intro i hi
    have h : i < l.length := by omega
    have hn := ih (i + 1) (by omega)
    rw [prevT_succ l i h] at hn
    rw [List.drop_eq_getElem_cons h]
    refine Ev.step (fun k => by simp only [zAO.l0]; rw [if_pos (by omega), rdT l i h]) ?_
    cases i with
    | zero =>
      rw [show prevT l 0 = none from rfl, riseL_none']
      refine Ev.ifn (by simp) ?_
      have := rtiers_j2 l 0 h hl false _ hn
      rw [if_neg (by decide)] at this
      exact this
    | succ j =>
      refine Ev.ifp (by omega) ?_
      rw [show ((j + 1 : Nat) : Int) - 1 = (j : Int) by omega, w_len j (by omega), rdT l j (by omega)]
      refine Ev.ifp (by omega) (Ev.ifp (by omega) (Ev.ifp (by omega) ?_))
      rw [prevT_succ l j (by omega), riseL_some']
      have := rtiers_j2 l (j + 1) h hl (decide (l[j].f0 ≥ l[j + 1].f0)) _ hn
      simp only [decide_eq_true_eq, ge_iff_le] at this ⊢
      exact this
theorem rtiers_ev (l : List Tr) (hl : l.length ≤ 140737488351232) : Ev (fun k => zAO.f k l) (riseB l) := by
  unfold riseB
  have h0 := rtiers_l0 l hl l.length 0 (by omega)
  have hf : Ev (fun k => zAO.j0 k l true) false := Ev.step (f := fun _ => some false) (fun k => by simp [zAO.j0]) (Ev.now _)
  by_cases h1 : (l.length : Int) < 1
  · rw [if_pos h1]
    exact Ev.ifp (by omega) hf
  · rw [if_neg h1]
    refine Ev.ifn (by omega) (Ev.ite2 hf (Ev.ifp (by omega) ?_))
    refine Ev.step (fun k => by simp only [zAO.j0]; rfl) ?_
    exact Ev.ite2 (Ev.now _) h0
theorem kind_cases (c : Int) : (c < 1 ∨ c > 16) ∨ c = 1 ∨ c = 2 ∨ c = 3 ∨ c = 4 ∨ c = 5 ∨ c = 6 ∨ c = 7 ∨ c = 8 ∨ c = 9 ∨ c = 10 ∨ c = 11 ∨ c = 12 ∨ c = 13 ∨ c = 14 ∨ c = 15 ∨ c = 16 := by omega
def tkOf (n : Nd) : Int := if tk n.f0 ≥ 0 then tk n.f0 else n.f3
def tkR (n : Nd) : Int := if n.f0 < 1 ∨ n.f0 > 16 then -1 else tkOf n
theorem takes_f (n : Nd) (h : 1 ≤ n.f0 ∧ n.f0 ≤ 16) : tree_takes.f n.f0 n.f1 n.f2 n.f3 n.f4 n.f5 = some (tkOf n) := by
  unfold tree_takes.f tkOf
  rw [if_pos (by omega)]
theorem rtakes_ev (n : Nd) : Ev (fun k => zAH.f k n.f0 n.f1 n.f2 n.f3 n.f4 n.f5) (tkR n) := by
  refine ⟨10, fun k hk => ?_⟩
  obtain ⟨k, rfl⟩ : ∃ m, k = m + 10 := ⟨k - 10, by omega⟩
  obtain ⟨c, n1, n2, n3, n4, n5⟩ := n
  simp only [zAH.f, zAH.j0, zAH.j1, zAH.j2, zAH.j3, tkR, tkOf]
  rcases kind_cases c with h | rfl | rfl | rfl | rfl | rfl | rfl | rfl | rfl | rfl | rfl | rfl | rfl | rfl | rfl | rfl | rfl
  · have : c ≠ 1 ∧ c ≠ 2 ∧ c ≠ 3 ∧ c ≠ 4 ∧ c ≠ 5 ∧ c ≠ 6 ∧ c ≠ 7 ∧ c ≠ 8 ∧ c ≠ 9 ∧ c ≠ 10 ∧ c ≠ 11 ∧ c ≠ 12 ∧ c ≠ 13 ∧ c ≠ 14 ∧ c ≠ 15 ∧ c ≠ 16 := by omega
    rw [if_pos h]
    simp [this]
  all_goals simp [tk, tkL]
def mostB (c dims : Int) : Int := if mo c < 0 then wrap64 (dims - 1) else mo c
theorem rmost_ev (c dims : Int) (h : 1 ≤ c ∧ c ≤ 16) : Ev (fun k => zAU.f k c dims) (mostB c dims) := by
  refine ⟨10, fun k hk => ?_⟩
  obtain ⟨k, rfl⟩ : ∃ m, k = m + 10 := ⟨k - 10, by omega⟩
  simp only [zAU.f, zAU.j0, zAU.j1, mostB]
  rcases kind_cases c with h | rfl | rfl | rfl | rfl | rfl | rfl | rfl | rfl | rfl | rfl | rfl | rfl | rfl | rfl | rfl | rfl
  · omega
  all_goals simp [mo, moL]
def fieldsB (n : Nd) (dims : Int) : Bool :=
  !decide (n.f1 < 0) && (!decide (n.f1 > mostB n.f0 dims) && ((if op n.f0 = true then decide (n.f2 ≥ 1) && decide (n.f2 ≤ 6) else n.f2 == 0) && ((if tk n.f0 < 0 then decide (n.f3 ≥ 2) && decide (n.f3 ≤ 16) else n.f3 == 0) && (ti n.f0 || decide (¬ 0 < n.f4.length)))))
theorem rfields_ev (n : Nd) (dims : Int) (h : 1 ≤ n.f0 ∧ n.f0 ≤ 16) : Ev (fun k => zAR.f k n.f0 n.f1 n.f2 n.f3 n.f4 n.f5 dims) (fieldsB n dims) := by
  have hm := rmost_ev n.f0 dims h
  have key : ∀ b : Bool, Ev (fun k => zAR.j0 k b n.f0 n.f1 n.f2 n.f3 n.f4 n.f5) (!b && ((if op n.f0 = true then decide (n.f2 ≥ 1) && decide (n.f2 ≤ 6) else n.f2 == 0) && ((if tk n.f0 < 0 then decide (n.f3 ≥ 2) && decide (n.f3 ≤ 16) else n.f3 == 0) && (ti n.f0 || decide (¬ 0 < n.f4.length))))) := by
    intro b
    refine ⟨10, fun k hk => ?_⟩
    obtain ⟨k, rfl⟩ : ∃ m, k = m + 10 := ⟨k - 10, by omega⟩
    obtain ⟨c, n1, n2, n3, n4, n5⟩ := n
    have h' : 1 ≤ c ∧ c ≤ 16 := h
    simp only [zAR.j0, zAR.j1, zAR.j2]
    cases b
    · have e1 : ((n4.length : Int) == 0) = decide (¬ 0 < n4.length) := by
        by_cases q : n4.length = 0
        · simp [q]
        · rw [decide_eq_false (by omega)]
          simpa using q
      rw [e1]
      rcases kind_cases c with h | rfl | rfl | rfl | rfl | rfl | rfl | rfl | rfl | rfl | rfl | rfl | rfl | rfl | rfl | rfl | rfl
      · omega
      all_goals
        by_cases c1 : n2 < 1 <;> by_cases c2 : n2 > 6 <;> by_cases c3 : n2 = 0 <;> by_cases c4 : n3 < 2 <;> by_cases c5 : n3 > 16 <;> by_cases c6 : n3 = 0 <;> first | (exfalso; omega) | simp [op, opL, tk, tkL, ti, tiL, c1, c2, c3, c4, c5, c6]
        all_goals omega
    · simp
  unfold zAR.f fieldsB
  by_cases h1 : n.f1 < 0
  · refine Ev.ifp h1 (Ev.both (key true) ?_)
    simp [h1]
  · refine Ev.ifn h1 (Ev.bind hm ?_)
    refine Ev.both (key (decide (n.f1 > mostB n.f0 dims))) ?_
    simp [h1]
theorem bad_eq (n : Nd) (dims pile : Int) (h : 1 ≤ n.f0 ∧ n.f0 ≤ 16) : nodeBad n.f0 n.f1 n.f2 n.f3 n.f4.length dims pile = (!fieldsB n dims || decide (pile < tkOf n)) := by
  unfold nodeBad fieldsB tkOf mostB
  cases (decide (n.f1 < 0)) <;> cases (decide (n.f1 > if mo n.f0 < 0 then wrap64 (dims - 1) else mo n.f0)) <;> cases (if tk n.f0 < 0 then decide (n.f3 ≥ 2) && decide (n.f3 ≤ 16) else n.f3 == 0) <;> cases (if op n.f0 = true then decide (n.f2 ≥ 1) && decide (n.f2 ≤ 6) else n.f2 == 0) <;> cases (ti n.f0) <;> by_cases hq : 0 < n.f4.length <;> simp [hq]
def nodeErr (n : Nd) (dims pile : Int) : Int :=
  if n.f0 < 1 ∨ n.f0 > 16 then 50 else if nodeBad n.f0 n.f1 n.f2 n.f3 n.f4.length dims pile = true then 50 else if ti n.f0 = true then (if riseB n.f4 = true then 0 else 51) else 0
theorem node_ev (n : Nd) (hl : n.f4.length ≤ 140737488351232) (dims pile : Int) : Ev (fun k => tree_node.f k n.f0 n.f1 n.f2 n.f3 n.f4 n.f5 dims pile) (nodeErr n dims pile) := by
  unfold tree_node.f nodeErr
  refine Ev.ite2 (Ev.now _) (Ev.ite2 (Ev.now _) (Ev.ite2 ?_ (Ev.now _)))
  exact Ev.bind (rising_ev n.f4 hl) (Ev.now _)
theorem node_ok {n : Nd} {dims pile : Int} (h : nodeErr n dims pile = 0) : (1 ≤ n.f0 ∧ n.f0 ≤ 16) ∧ fieldsB n dims = true ∧ tkOf n ≤ pile ∧ 0 ≤ tkOf n := by
  unfold nodeErr at h
  by_cases h1 : n.f0 < 1 ∨ n.f0 > 16
  · rw [if_pos h1] at h; omega
  · rw [if_neg h1] at h
    have h2 : 1 ≤ n.f0 ∧ n.f0 ≤ 16 := by omega
    rw [bad_eq n dims pile h2] at h
    cases hf : fieldsB n dims with
    | false => simp [hf] at h
    | true =>
      by_cases h3 : pile < tkOf n
      · simp [h3] at h
      · refine ⟨h2, rfl, by omega, ?_⟩
        unfold tkOf
        split
        · assumption
        · rename_i h4
          unfold fieldsB at hf
          simp only [Bool.and_eq_true] at hf
          have h5 := hf.2.2.2.1
          rw [if_pos (by omega)] at h5
          simp at h5
          omega
def checkL (dims : Int) (tot : Nat) : List Nd → Nat → Int → Int × Int
  | [], _, pile => if pile = 1 then (0, 0) else ((tot : Int), 50)
  | n :: r, i, pile => if nodeErr n dims pile = 0 then checkL dims tot r (i + 1) (pile + (1 - tkOf n)) else ((i : Int), nodeErr n dims pile)
theorem check_l0 (a0 : ByteArray) (l1 : List Dm) (a2 : Int) (l3 : List Nd) (hl : l3.length ≤ 140737488351232) (ht : ∀ n ∈ l3, n.f4.length ≤ 140737488351232) (d : Nat) : ∀ (i : Nat) (pile : Int), i + d = l3.length → 0 ≤ pile → pile ≤ i →
    Ev (fun k => tree_Check.l0 k pile l3 (l3.length : Int) (i : Int) a0 l1 a2 l3) (checkL l1.length l3.length (l3.drop i) i pile) := by
  induction d with
  | zero =>
    intro i pile hi h0 h1
    rw [List.drop_of_length_le (by omega)]
    refine Ev.step (fun k => by simp only [tree_Check.l0]; rw [if_neg (by omega)]) ?_
    exact Ev.ite2 (Ev.now _) (Ev.now _)
  | succ d ih =>
    intro i pile hi h0 h1
    have h : i < l3.length := by omega
    rw [List.drop_eq_getElem_cons h]
    have hn := node_ev l3[i] (ht _ (List.getElem_mem h)) (l1.length : Int) pile
    refine Ev.step (fun k => by simp only [tree_Check.l0]; rw [if_pos (by omega), if_pos (by omega), if_pos (by omega), rdN l3 i h, w_up i (by omega)]) ?_
    refine Ev.bind hn ?_
    unfold checkL
    refine Ev.ite3 (fun he => ?_) (fun _ => Ev.now _)
    obtain ⟨hk, _, hp, hp0⟩ := node_ok he
    refine Ev.pre (takes_f _ hk) ?_
    rw [wrap_small (x := 1 - tkOf l3[i]) (by omega) (by omega), wrap_small (by omega) (by omega)]
    exact ih (i + 1) _ (by omega) (by omega) (by omega)
theorem ti_eq (c : Int) (h : 1 ≤ c ∧ c ≤ 16) : ti c = (c == 13 || c == 14) := by
  rcases kind_cases c with h | rfl | rfl | rfl | rfl | rfl | rfl | rfl | rfl | rfl | rfl | rfl | rfl | rfl | rfl | rfl | rfl
  · omega
  all_goals decide
theorem rcheck_j1 (a0 : ByteArray) (l1 : List Dm) (a2 : Int) (l3 : List Nd) (hl : l3.length ≤ 140737488351232) (n : Nd) (ht : n.f4.length ≤ 140737488351232) (i : Nat) (hi : i < l3.length) (pile t : Int) (h0 : 0 ≤ pile) (h1 : pile ≤ i) (b : Bool) (hb : b = false → (1 ≤ n.f0 ∧ n.f0 ≤ 16) ∧ 0 ≤ t ∧ t ≤ pile) (nx : Int × Int)
    (hn : b = false → (ti n.f0 = true → riseB n.f4 = true) → Ev (fun k => zAM.l0 k (pile + (1 - t)) ((i + 1 : Nat) : Int) a0 l1 a2 l3) nx) :
    Ev (fun k => zAM.j1 k pile (i : Int) t b a0 l1 a2 l3 n.f0 n.f1 n.f2 n.f3 n.f4 n.f5) (if b = true then ((i : Int), 50) else if ti n.f0 = true then (if riseB n.f4 = true then nx else ((i : Int), 51)) else nx) := by
  refine Ev.step (fun k => by simp only [zAM.j1]; rw [w_up i (by omega)]) ?_
  refine Ev.ite3 (fun _ => Ev.now _) (fun hf => ?_)
  have hf' : b = false := by simpa using hf
  obtain ⟨hk, t0, t1⟩ := hb hf'
  have e : wrap64 (wrap64 (pile - t) + 1) = pile + (1 - t) := by rw [wrap_small (x := pile - t) (by omega) (by omega), wrap_small (by omega) (by omega)]; omega
  simp only [e]
  rw [ti_eq _ hk]
  have hg := rtiers_ev n.f4 ht
  have hboth : Ev (fun k => (zAO.f k n.f4).bind fun t216 => if t216 = true then zAM.l0 k (pile + (1 - t)) ((i + 1 : Nat) : Int) a0 l1 a2 l3 else some ((i : Int), 51)) (if riseB n.f4 = true then nx else ((i : Int), 51)) :=
    Ev.bind hg (Ev.ite3 (fun hr => hn hf' (fun _ => hr)) (fun _ => Ev.now _))
  by_cases c1 : n.f0 = 13
  · simp only [c1, if_true, beq_self_eq_true, Bool.true_or]
    exact hboth
  · by_cases c2 : n.f0 = 14
    · simp only [c2, if_true, beq_self_eq_true, Bool.or_true, show ¬ ((14 : Int) = 13) from by decide, if_false]
      exact hboth
    · rw [if_neg (by simp [c1, c2])]
      refine Ev.ifn c1 (Ev.ifn c2 (hn hf' (fun h => ?_)))
      rw [ti_eq _ hk] at h
      simp [c1, c2] at h
theorem rcheck_l0 (a0 : ByteArray) (l1 : List Dm) (a2 : Int) (l3 : List Nd) (hl : l3.length ≤ 140737488351232) (ht : ∀ n ∈ l3, n.f4.length ≤ 140737488351232) (d : Nat) : ∀ (i : Nat) (pile : Int), i + d = l3.length → 0 ≤ pile → pile ≤ i →
    Ev (fun k => zAM.l0 k pile (i : Int) a0 l1 a2 l3) (checkL l1.length l3.length (l3.drop i) i pile) := by
  induction d with
  | zero =>
    intro i pile hi h0 h1
    rw [List.drop_of_length_le (by omega)]
    refine Ev.step (fun k => by simp only [zAM.l0]; rw [if_neg (by omega)]) ?_
    exact Ev.ite2 (Ev.now _) (Ev.now _)
  | succ d ih =>
    intro i pile hi h0 h1
    have h : i < l3.length := by omega
    rw [List.drop_eq_getElem_cons h]
    have htn := ht _ (List.getElem_mem h)
    have hik := ih (i + 1) (pile + (1 - tkOf l3[i])) (by omega)
    refine Ev.step (fun k => by simp only [zAM.l0]; rw [if_pos (by omega), if_pos (by omega), rdN l3 i h]) ?_
    generalize l3[i] = n at *
    unfold checkL
    refine Ev.bind (rtakes_ev n) ?_
    by_cases hk : n.f0 < 1 ∨ n.f0 > 16
    · have e1 : tkR n = -1 := by unfold tkR; rw [if_pos hk]
      have e2 : nodeErr n l1.length pile = 50 := by unfold nodeErr; rw [if_pos hk]
      rw [e1, e2]
      refine Ev.ifp (by omega) ?_
      have := rcheck_j1 a0 l1 a2 l3 hl n htn i h pile (-1) h0 h1 true (by simp) (0, 0) (by simp)
      exact this
    · have hk' : 1 ≤ n.f0 ∧ n.f0 ≤ 16 := by omega
      have e1 : tkR n = tkOf n := by unfold tkR; rw [if_neg hk]
      have e2 : nodeErr n l1.length pile = if (!fieldsB n l1.length || decide (pile < tkOf n)) = true then 50 else if ti n.f0 = true then (if riseB n.f4 = true then 0 else 51) else 0 := by
        unfold nodeErr; rw [if_neg hk, bad_eq n _ _ hk']
      have hfield : fieldsB n l1.length = true → 0 ≤ tkOf n := by
        intro hf
        by_cases h9 : pile < tkOf n
        · omega
        · unfold tkOf
          split
          · assumption
          · rename_i h4
            unfold fieldsB at hf
            simp only [Bool.and_eq_true] at hf
            have h5 := hf.2.2.2.1
            rw [if_pos (by omega)] at h5
            simp at h5
            omega
      rw [e1]
      have jt := fun (t : Int) => rcheck_j1 a0 l1 a2 l3 hl n htn i h pile t h0 h1 true (by simp) (0, 0) (by simp)
      simp only [if_true] at jt
      by_cases ht0 : tkOf n < 0
      · refine Ev.ifp ht0 (Ev.both (jt (tkOf n)) ?_)
        have : fieldsB n l1.length = false := by
          cases hf : fieldsB n l1.length with
          | false => rfl
          | true => have := hfield hf; omega
        rw [e2, this]
        simp
      · refine Ev.ifn ht0 (Ev.bind (rfields_ev n _ hk') ?_)
        cases hf : fieldsB n l1.length with
        | false =>
          refine Ev.ifn (by decide) (Ev.both (jt (tkOf n)) ?_)
          rw [e2, hf]
          simp
        | true =>
          refine Ev.ifp rfl ?_
          rw [e2, hf]
          have := rcheck_j1 a0 l1 a2 l3 hl n htn i h pile (tkOf n) h0 h1 (decide (pile < tkOf n)) (fun hb => ⟨hk', by omega, by simpa using hb⟩) _ (fun hb _ => hik (by have := of_decide_eq_false hb; omega) (by have := of_decide_eq_false hb; omega))
          refine Ev.both this ?_
          by_cases h9 : pile < tkOf n
          · simp [h9]
          · simp only [h9, decide_false, Bool.not_true, Bool.or_self, Bool.false_eq_true, if_false]
            by_cases h10 : ti n.f0 = true
            · by_cases h11 : riseB n.f4 = true <;> simp [h10, h11]
            · simp [h10]
def anyN (nm : ByteArray) (xs : List Dm) : Bool := xs.any fun e => e.f0.toList == nm.toList
def dimsS (pre : List Dm) : List Dm → Int
  | [] => 0
  | d :: r => if nameB (bs d.f0) = true then (if anyN d.f0 pre = true then 61 else if d.f1 < 1 ∨ d.f1 > 1000000000000 then 50 else dimsS (pre ++ [d]) r) else 61
def headE (a0 : ByteArray) (l1 : List Dm) (a2 : Int) : Int :=
  if nameB (bs a0) = true then (if (l1.length : Int) < 1 ∨ (l1.length : Int) > 4 then 100 else if dimsS [] l1 = 0 then (if a2 < 0 ∨ a2 > 4 then 50 else 0) else dimsS [] l1) else 61
theorem idxL_any (nm : ByteArray) (xs : List Dm) : ∀ n : Int, 0 ≤ n → (idxL nm xs n ≥ 0 ↔ anyN nm xs = true) := by
  induction xs with
  | nil => intro n hn; simp [idxL, anyN]
  | cons d r ih =>
    intro n hn
    rw [idxL]
    by_cases h : (d.f0.toList == nm.toList) = true
    · rw [if_pos h]
      simp only [anyN, List.any_cons, h, Bool.true_or, iff_true]
      exact hn
    · rw [if_neg h, ih (n + 1) (by omega)]
      simp only [anyN, List.any_cons]
      rw [show (d.f0.toList == nm.toList) = false by simpa using h, Bool.false_or]
theorem dimsL_eq (xs : List Dm) : ∀ (pre : List Dm), (∀ d ∈ xs, d.f0.size ≤ 140737488351232) → dimsL pre xs = some (dimsS pre xs) := by
  induction xs with
  | nil => intro pre h; rfl
  | cons d r ih =>
    intro pre h
    rw [dimsL, dimsS, name_f _ (h d (List.mem_cons_self))]
    simp only [Option.bind_some]
    by_cases h1 : nameB (bs d.f0) = true
    · rw [if_pos h1, if_pos h1]
      have h2 := idxL_any d.f0 pre 0 (by omega)
      by_cases h3 : anyN d.f0 pre = true
      · rw [if_pos h3, if_pos (h2.2 h3)]
      · rw [if_neg h3, if_neg (fun q => h3 (h2.1 q))]
        by_cases h4 : d.f1 < 1 ∨ d.f1 > 1000000000000
        · rw [if_pos h4, if_pos h4]
        · rw [if_neg h4, if_neg h4]
          exact ih _ (fun e he => h e (List.mem_cons_of_mem _ he))
    · rw [if_neg h1, if_neg h1]
theorem head_ev (a0 : ByteArray) (l1 : List Dm) (a2 : Int) (l3 : List Nd) (h0 : a0.size ≤ 140737488351232) (h1 : ∀ d ∈ l1, d.f0.size ≤ 140737488351232) : Ev (fun k => tree_head.f k a0 l1 a2 l3) (headE a0 l1 a2) := by
  unfold tree_head.f headE
  refine Ev.pre (name_f a0 h0) ?_
  refine Ev.ite2 (Ev.ite2 (Ev.now _) ?_) (Ev.now _)
  refine Ev.pre (dimsL_eq l1 [] h1) ?_
  unfold modeE
  exact Ev.ite2 (Ev.ite2 (Ev.now _) (Ev.now _)) (Ev.now _)
theorem rhead_l1 (a0 : ByteArray) (l1 : List Dm) (a2 : Int) (l3 : List Nd) (hl : l1.length ≤ 140737488351232) (i : Nat) (hi : i < l1.length) (nx : Int) (hn : Ev (fun k => zAQ.l0 k ((i + 1 : Nat) : Int) a0 l1 a2 l3) nx) (d : Nat) : ∀ j, j + d = i →
    Ev (fun k => zAQ.l1 k (i : Int) (j : Int) a0 l1 a2 l3) (if anyN l1[i].f0 ((l1.take i).drop j) = true then 61 else if l1[i].f1 < 1 ∨ l1[i].f1 > 1000000000000 then 50 else nx) := by
  induction d with
  | zero =>
    intro j hj
    rw [List.drop_of_length_le (by rw [List.length_take]; omega)]
    refine Ev.step (fun k => by simp only [zAQ.l1]; rw [if_neg (by omega), if_pos (by omega), if_pos (by omega), rdD l1 i hi, w_up i (by omega)]) ?_
    simp only [anyN, List.any_nil, Bool.false_eq_true, if_false]
    by_cases c1 : l1[i].f1 < 1
    · rw [if_pos (.inl c1)]
      exact Ev.ifp c1 (Ev.now _)
    · by_cases c2 : l1[i].f1 > 1000000000000
      · rw [if_pos (.inr c2)]
        exact Ev.ifn c1 (Ev.ifp c2 (Ev.now _))
      · rw [if_neg (by omega)]
        exact Ev.ifn c1 (Ev.ifn c2 hn)
  | succ d ih =>
    intro j hj
    have hj' : j < (l1.take i).length := by rw [List.length_take]; omega
    have e : (l1.take i).drop j = l1[j] :: (l1.take i).drop (j + 1) := by rw [List.drop_eq_getElem_cons hj', List.getElem_take]
    refine Ev.step (fun k => by simp only [zAQ.l1]; rw [if_pos (by omega), if_pos (by omega), if_pos (by omega), if_pos (by omega), if_pos (by omega), rdD l1 i hi, rdD l1 j (by omega), w_up j (by omega)]) ?_
    rw [e]
    by_cases c1 : l1[j].f0.toList = l1[i].f0.toList
    · refine Ev.ifp c1 (Ev.both (Ev.now _) ?_)
      simp [anyN, c1]
    · refine Ev.ifn c1 (Ev.both (ih (j + 1) (by omega)) ?_)
      simp [anyN, c1]
theorem mode_ev (a2 : Int) : Ev (fun _ => if a2 < 0 then some 50 else if a2 > 4 then some 50 else some (0 : Int)) (if a2 < 0 ∨ a2 > 4 then 50 else 0) := by
  by_cases c1 : a2 < 0
  · simp only [c1, true_or, if_true]; exact Ev.now _
  · by_cases c2 : a2 > 4
    · simp only [c1, c2, or_true, if_true, if_false]; exact Ev.now _
    · simp only [c1, c2, or_self, if_false]; exact Ev.now _
theorem rhead_l0 (a0 : ByteArray) (l1 : List Dm) (a2 : Int) (l3 : List Nd) (hl : l1.length ≤ 140737488351232) (h1 : ∀ d ∈ l1, d.f0.size ≤ 140737488351232) (d : Nat) : ∀ i, i + d = l1.length →
    Ev (fun k => zAQ.l0 k (i : Int) a0 l1 a2 l3) (if dimsS (l1.take i) (l1.drop i) = 0 then (if a2 < 0 ∨ a2 > 4 then 50 else 0) else dimsS (l1.take i) (l1.drop i)) := by
  induction d with
  | zero =>
    intro i hi
    rw [List.drop_of_length_le (by omega)]
    refine Ev.step (fun k => by simp only [zAQ.l0]; rw [if_neg (by omega)]) ?_
    rw [show dimsS (l1.take i) [] = 0 from rfl, if_pos (rfl : (0 : Int) = 0)]
    exact mode_ev a2
  | succ d ih =>
    intro i hi
    have h : i < l1.length := by omega
    rw [List.drop_eq_getElem_cons h]
    have hn := rname_f l1[i].f0 (h1 _ (List.getElem_mem h))
    have hnm : Ev (fun k => zAK.f k l1[i].f0) (nameB (bs l1[i].f0)) := ⟨_, fun k hk => hn k (show l1[i].f0.size + 20 < k from hk)⟩
    refine Ev.step (fun k => by simp only [zAQ.l0]; rw [if_pos (by omega), if_pos (by omega), rdD l1 i h]) ?_
    refine Ev.bind hnm ?_
    have hl1 := rhead_l1 a0 l1 a2 l3 hl i h _ (ih (i + 1) (by omega)) i 0 (by omega)
    rw [List.drop_zero] at hl1
    rw [dimsS]
    by_cases c1 : nameB (bs l1[i].f0) = true
    · rw [if_pos c1]
      refine Ev.ifp c1 (Ev.both hl1 ?_)
      rw [List.take_succ_eq_append_getElem h]
      by_cases c2 : anyN l1[i].f0 (l1.take i) = true
      · simp [c2]
      · rw [if_neg c2, if_neg c2]
        by_cases c3 : l1[i].f1 < 1 ∨ l1[i].f1 > 1000000000000
        · rw [if_pos c3, if_pos c3]; rfl
        · rw [if_neg c3, if_neg c3]
    · rw [if_neg c1]
      exact Ev.ifn c1 (Ev.now _)
theorem rhead_ev (a0 : ByteArray) (l1 : List Dm) (a2 : Int) (l3 : List Nd) (h0 : a0.size ≤ 140737488351232) (hl : l1.length ≤ 140737488351232) (h1 : ∀ d ∈ l1, d.f0.size ≤ 140737488351232) : Ev (fun k => zAQ.f k a0 l1 a2 l3) (headE a0 l1 a2) := by
  unfold zAQ.f headE
  have hn := rname_f a0 h0
  have hnm : Ev (fun k => zAK.f k a0) (nameB (bs a0)) := ⟨_, fun k hk => hn k (show a0.size + 20 < k from hk)⟩
  refine Ev.bind hnm (Ev.ite2 ?_ (Ev.now _))
  have hl0 := rhead_l0 a0 l1 a2 l3 hl h1 l1.length 0 (by omega)
  simp only [List.take_zero, List.drop_zero] at hl0
  by_cases c1 : (l1.length : Int) = 0
  · rw [if_pos (.inl (by omega))]
    refine Ev.ifp c1 (Ev.step (f := fun _ => some 100) (fun k => by simp [zAQ.j0]) (Ev.now _))
  · refine Ev.ifn c1 (Ev.step (fun k => by simp only [zAQ.j0]; rfl) ?_)
    by_cases c2 : (l1.length : Int) > 4
    · rw [if_pos (.inr c2)]
      exact Ev.ifp (by simpa using c2) (Ev.now _)
    · rw [if_neg (by omega)]
      exact Ev.ifn (by simpa using c2) hl0
structure PB (a0 : ByteArray) (l1 : List Dm) (l3 : List Nd) : Prop where
  name : a0.size ≤ 140737488351232
  dims : l1.length ≤ 140737488351232
  names : ∀ d ∈ l1, d.f0.size ≤ 140737488351232
  nodes : l3.length ≤ 140737488351232
  tiers : ∀ n ∈ l3, n.f4.length ≤ 140737488351232
def chk (a0 : ByteArray) (l1 : List Dm) (a2 : Int) (l3 : List Nd) : Int × Int :=
  if headE a0 l1 a2 = 0 then (if (l3.length : Int) > 1024 then (1024, 2) else checkL l1.length l3.length l3 0 0) else (-1, headE a0 l1 a2)
theorem check_ev {a0 : ByteArray} {l1 : List Dm} (a2 : Int) {l3 : List Nd} (h : PB a0 l1 l3) : Ev (fun k => tree_Check.f k a0 l1 a2 l3) (chk a0 l1 a2 l3) := by
  unfold tree_Check.f chk
  refine Ev.bind (head_ev a0 l1 a2 l3 h.name h.names) (Ev.ite2 (Ev.ite2 (Ev.now _) ?_) (Ev.now _))
  have := check_l0 a0 l1 a2 l3 h.nodes h.tiers l3.length 0 0 (by omega) (by omega) (by omega)
  exact this
theorem rcheck_ev {a0 : ByteArray} {l1 : List Dm} (a2 : Int) {l3 : List Nd} (h : PB a0 l1 l3) : Ev (fun k => zAM.f k a0 l1 a2 l3) (chk a0 l1 a2 l3) := by
  unfold zAM.f chk
  refine Ev.bind (rhead_ev a0 l1 a2 l3 h.name h.dims h.names) (Ev.ite2 (Ev.ite2 (Ev.now _) ?_) (Ev.now _))
  have := rcheck_l0 a0 l1 a2 l3 h.nodes h.tiers l3.length 0 0 (by omega) (by omega) (by omega)
  exact this
structure PB2 (a0 : ByteArray) (l1 : List Dm) (a2 : Int) (l3 : List Nd) : Prop where
  pb : PB a0 l1 l3
  dims : l1.length ≤ 5864062014634
  nodes : l3.length ≤ 2199023255488
  tiers : ∀ n ∈ l3, n.f4.length ≤ 8796093022208
  mode : -9223372036854775808 ≤ a2 ∧ a2 ≤ 9223372036854775807
end Go.Proofs.YthbnigjckjkmnaaDoor.S

namespace Go.Proofs.YthbnigjckjkmnaaDoor.S
open Go.RowKit Go.Proofs.YthbnigjckjkmnaaDoorW.PrintWords Go.Proofs.YthbnigjckjkmnaaDoorW.PrintLast Go.Proofs.YthbnigjckjkmnaaDoorW.PrintMore Go.Proofs.YthbnigjckjkmnaaDoor.Pure
theorem checkL_ok (dims : Int) (tot : Nat) (l : List Nd) : ∀ (i : Nat) (pile : Int), (checkL dims tot l i pile).2 = 0 → checkL dims tot l i pile = (0, 0) := by
  induction l with
  | nil =>
    intro i pile h
    unfold checkL at h ⊢
    split at h
    · rename_i hp; rw [if_pos hp]
    · cases h
  | cons n r ih =>
    intro i pile h
    unfold checkL at h ⊢
    split at h
    · rename_i hp; rw [if_pos hp]; exact ih _ _ h
    · rename_i hp; exact absurd h hp
theorem chk_ok {a0 : ByteArray} {l1 : List Dm} {a2 : Int} {l3 : List Nd} (h : (chk a0 l1 a2 l3).2 = 0) : headE a0 l1 a2 = 0 ∧ l3.length ≤ 1024 ∧ checkL l1.length l3.length l3 0 0 = (0, 0) ∧ chk a0 l1 a2 l3 = (0, 0) := by
  unfold chk at h ⊢
  split at h
  · rename_i h1
    split at h
    · cases h
    · rename_i h2
      have := checkL_ok _ _ _ _ _ h
      refine ⟨h1, by omega, this, ?_⟩
      rw [if_pos h1, if_neg h2, this]
  · rename_i h1
    exact absurd h h1
theorem checkL_step {dims : Int} {tot : Nat} {n : Nd} {r : List Nd} {i : Nat} {pile : Int} (h : checkL dims tot (n :: r) i pile = (0, 0)) :
    nodeErr n dims pile = 0 ∧ checkL dims tot r (i + 1) (pile + (1 - tkOf n)) = (0, 0) := by
  unfold checkL at h
  split at h
  · rename_i hp; exact ⟨hp, h⟩
  · rename_i hp
    simp only [Prod.mk.injEq] at h
    exact absurd h.2 hp
def frL : List Nd → Nat → List Int → List Int → List Int
  | [], _, acc, _ => acc
  | n :: r, i, acc, pile => if tkOf n > 0 then frL r (i + 1) (acc ++ [pile.getD ((pile.length : Int) - tkOf n).toNat 0]) (pile.take ((pile.length : Int) - tkOf n).toNat ++ [pile.getD ((pile.length : Int) - tkOf n).toNat 0]) else frL r (i + 1) (acc ++ [(i : Int)]) (pile ++ [(i : Int)])
theorem firsts_l0 (dims : Int) (l3 : List Nd) (hl : l3.length ≤ 1024) (d : Nat) : ∀ (i : Nat) (acc pile : List Int), i + d = l3.length → acc.length = i → pile.length ≤ i → checkL dims l3.length (l3.drop i) i pile.length = (0, 0) →
    Ev (fun k => tree_firsts.l0 k acc pile l3 (l3.length : Int) (i : Int)) (frL (l3.drop i) i acc pile) := by
  induction d with
  | zero =>
    intro i acc pile hi ha hp hc
    rw [List.drop_of_length_le (by omega)]
    exact Ev.step (f := fun _ => some acc) (fun k => by simp only [tree_firsts.l0]; rw [if_neg (by omega)]) (Ev.now _)
  | succ d ih =>
    intro i acc pile hi ha hp hc
    have h : i < l3.length := by omega
    rw [List.drop_eq_getElem_cons h] at hc ⊢
    obtain ⟨he, hc'⟩ := checkL_step hc
    obtain ⟨hk, _, hp1, hp0⟩ := node_ok he
    refine Ev.step (fun k => by simp only [tree_firsts.l0]; rw [if_pos (by omega), if_pos (by omega), if_pos (by omega), rdN l3 i h, w_up i (by omega)]) ?_
    refine Ev.pre (takes_f _ hk) ?_
    have hnext := fun acc' pile' => ih (i + 1) acc' pile' (by omega)
    generalize l3[i] = n at *
    unfold frL
    by_cases h0 : tkOf n > 0
    · rw [if_pos h0]
      obtain ⟨m, hm⟩ := Int.eq_ofNat_of_zero_le (show 0 ≤ (pile.length : Int) - tkOf n by omega)
      have hw : wrap64 (m : Int) = (m : Int) := w_len m (by omega)
      simp only [hm, hw]
      have hml : m < pile.length := by omega
      refine Ev.ifp h0 (Ev.ifp (by omega) (Ev.ifp (by omega) (Ev.ifp (by omega) ?_)))
      refine Ev.pre rfl ?_
      have htk : (pile.take m).length = m := by rw [List.length_take]; omega
      refine Ev.ifp (by rw [Int.toNat_natCast, htk]; omega) (Ev.ifp (by omega) ?_)
      simp only [Int.toNat_natCast]
      have hg : rd pile (m : Int) = pile.getD m 0 := by simp [rd]
      rw [hg]
      refine hnext _ _ (by simp; omega) (by simp; omega) ?_
      rw [← hc']
      congr 1
      simp only [List.length_append, htk, List.length_cons, List.length_nil]
      omega
    · rw [if_neg h0]
      have hz : tkOf n = 0 := by omega
      refine Ev.ifn h0 (Ev.ifp (by omega) (Ev.ifp (by omega) ?_))
      refine hnext _ _ (by simp; omega) (by simp; omega) ?_
      rw [← hc', hz]
      congr 1
      simp
def frs (l3 : List Nd) : List Int := frL l3 0 [] []
theorem firsts_ev {a0 : ByteArray} {l1 : List Dm} (a2 : Int) {l3 : List Nd} (h : PB a0 l1 l3) : Ev (fun k => tree_Firsts.f k a0 l1 a2 l3) (if (chk a0 l1 a2 l3).2 = 0 then (frs l3, 0) else ([], (chk a0 l1 a2 l3).2)) := by
  unfold tree_Firsts.f
  refine Ev.bind (check_ev a2 h) (Ev.ite3 (fun hc => ?_) (fun _ => Ev.now _))
  obtain ⟨_, hl, hc', _⟩ := chk_ok hc
  refine Ev.bind (g := fun k => tree_firsts.f k a0 l1 a2 l3) (a := frs l3) ?_ (Ev.now _)
  exact firsts_l0 (l1.length : Int) l3 hl l3.length 0 [] [] (by omega) rfl (by simp) hc'
def five : List Nd := [(⟨3, 0, 0, 0, [], 0⟩ : Nd), (⟨2, 3, 0, 0, [], 0⟩ : Nd), (⟨8, 0, 0, 0, [], 0⟩ : Nd), (⟨2, 5, 0, 0, [], 0⟩ : Nd), (⟨6, 0, 0, 0, [], 0⟩ : Nd)]
def fiveD : List Dm := [(⟨(⟨#[97]⟩ : ByteArray), 1⟩ : Dm)]
theorem five_chk : chk (⟨#[112]⟩ : ByteArray) fiveD 0 five = (0, 0) := by decide +kernel
theorem five_PB : PB (⟨#[112]⟩ : ByteArray) fiveD five := ⟨by decide, by decide, by intro d hd; simp [fiveD] at hd; subst hd; decide, by decide, by intro n hn; simp [five] at hn; rcases hn with rfl | rfl | rfl | rfl | rfl <;> decide⟩
end Go.Proofs.YthbnigjckjkmnaaDoor.S

namespace Go.Proofs.YthbnigjckjkmnaaDoor.S
open Go.RowKit Go.Proofs.YthbnigjckjkmnaaDoorW.PrintWords Go.Proofs.YthbnigjckjkmnaaDoorW.PrintLast Go.Proofs.YthbnigjckjkmnaaDoorW.PrintMore Go.Proofs.YthbnigjckjkmnaaDoor.Pure
def sameV : List Int → Int
  | [] => -1
  | a :: r => if r.all (· == a) = true then a else -1
theorem rsame_l0 (a : Int) (r : List Int) (hl : (a :: r).length ≤ 140737488351232) (d : Nat) : ∀ i, i + d = (a :: r).length → Ev (fun k => zAd.l0 k (a :: r) (i : Int)) (if ((a :: r).drop i).all (· == a) = true then a else -1) := by
  induction d with
  | zero =>
    intro i hi
    rw [List.drop_of_length_le (by omega)]
    exact Ev.step (f := fun _ => some a) (fun k => by simp only [zAd.l0]; rw [if_neg (by omega), if_pos (by simp)]; rfl) (Ev.now _)
  | succ d ih =>
    intro i hi
    have h : i < (a :: r).length := by omega
    rw [List.drop_eq_getElem_cons h, List.all_cons]
    refine Ev.step (fun k => by simp only [zAd.l0]; rw [if_pos (by omega), if_pos (by omega), if_pos (by simp), rdI _ i h, w_up i (by omega), show rd (a :: r) 0 = a from rfl]) ?_
    by_cases c : (a :: r)[i] = a
    · refine Ev.ifp c ?_
      rw [show ((a :: r)[i] == a) = true from beq_iff_eq.2 c, Bool.true_and]
      exact ih (i + 1) (by omega)
    · refine Ev.ifn c ?_
      rw [show ((a :: r)[i] == a) = false from beq_eq_false_iff_ne.2 c, Bool.false_and, if_neg (by decide)]
      exact Ev.now _
theorem rsame_ev (l : List Int) (h0 : 0 < l.length) (hl : l.length ≤ 140737488351232) : Ev (fun k => zAd.f k l) (sameV l) := by
  cases l with
  | nil => simp at h0
  | cons a r =>
    unfold zAd.f
    exact rsame_l0 a r hl r.length 1 (by simp; omega)
theorem one_l0 (n : Nd) (l6 : List Int) (l7 : List Bool) (j : Nat) (hj : j < l6.length) (hl : l6.length ≤ 140737488351232) (d : Nat) : ∀ i, i + d = (l6.drop j).length →
    Ev (fun k => zAk.l0 k (j : Int) (l6.drop j) ((l6.drop j).length : Int) (i : Int) n.f0 n.f1 n.f2 n.f3 n.f4 n.f5 l6 l7) (if ((l6.drop j).drop i).all (· == l6[j]) = true then l6[j] else -1) := by
  have hd : (l6.drop j).length ≤ l6.length := by rw [List.length_drop]; omega
  induction d with
  | zero =>
    intro i hi
    rw [List.drop_of_length_le (show (l6.drop j).length ≤ i by omega)]
    exact Ev.step (f := fun _ => some l6[j]) (fun k => by simp only [zAk.l0]; rw [if_neg (by omega), if_pos (by omega), if_pos (by omega), rdI _ j hj]) (Ev.now _)
  | succ d ih =>
    intro i hi
    have h : i < (l6.drop j).length := by omega
    rw [List.drop_eq_getElem_cons h, List.all_cons]
    refine Ev.step (fun k => by simp only [zAk.l0]; rw [if_pos (by omega), if_pos (by omega), if_pos (by omega), if_pos (by omega), if_pos (by omega), rdI _ i h, rdI _ j hj, w_up i (by omega)]) ?_
    by_cases c : (l6.drop j)[i] = l6[j]
    · refine Ev.ifp c ?_
      rw [show ((l6.drop j)[i] == l6[j]) = true from beq_iff_eq.2 c, Bool.true_and]
      exact ih (i + 1) (by omega)
    · refine Ev.ifn c ?_
      rw [show ((l6.drop j)[i] == l6[j]) = false from beq_eq_false_iff_ne.2 c, Bool.false_and, if_neg (by decide)]
      exact Ev.now _
theorem one_ev (n : Nd) (l6 : List Int) (l7 : List Bool) (j : Nat) (hj : j < l6.length) (hl : l6.length ≤ 140737488351232) : Ev (fun k => zAk.f k n.f0 n.f1 n.f2 n.f3 n.f4 n.f5 l6 l7 (j : Int)) (sameV (l6.drop j)) := by
  unfold zAk.f
  refine Ev.ifp (by omega) (Ev.ifp (by omega) ?_)
  rw [Int.toNat_natCast]
  have h := one_l0 n l6 l7 j hj hl (l6.drop j).length 0 (by omega)
  refine Ev.both h ?_
  rw [List.drop_zero, List.drop_eq_getElem_cons hj, List.all_cons, show (l6[j] == l6[j]) = true from beq_self_eq_true _, Bool.true_and]
  rfl
def prodV (a b : Int) : Int := if a = 0 then b else if b = 0 then a else if (a ≥ 2 ∧ b = 1) ∨ (b ≥ 2 ∧ a = 1) then 1 else -1
theorem rprod_f (a b : Int) : octroiref08_product.f a b = some (prodV a b) := by
  unfold octroiref08_product.f prodV
  by_cases h1 : a = 0
  · simp [h1]
  · by_cases h2 : b = 0
    · simp [h1, h2]
    · rw [if_neg h1, if_neg h2, if_neg h1, if_neg h2]
      by_cases h3 : a ≥ 2 <;> by_cases h4 : b = 1 <;> by_cases h5 : a = 1 <;> by_cases h6 : b ≥ 2 <;> simp [zAV.f, h3, h4, h5, h6] <;> omega
theorem prod_ev (n : Nd) (l6 : List Int) (l7 : List Bool) (h : 1 < l6.length) : Ev (fun k => zAg.f k n.f0 n.f1 n.f2 n.f3 n.f4 n.f5 l6 l7) (prodV (rd l6 0) (rd l6 1)) := by
  refine ⟨2, fun k hk => ?_⟩
  obtain ⟨m, rfl⟩ : ∃ m, k = m + 1 := ⟨k - 1, by omega⟩
  show zAg.f (m + 1) n.f0 n.f1 n.f2 n.f3 n.f4 n.f5 l6 l7 = _
  unfold zAg.f prodV
  rw [if_pos (by omega), if_pos (by omega)]
  generalize rd l6 0 = a
  generalize rd l6 1 = b
  by_cases h1 : a = 0
  · rw [if_pos h1, if_pos h1]
  · by_cases h2 : b = 0
    · rw [if_neg h1, if_pos h2, if_neg h1, if_pos h2]
    · rw [if_neg h1, if_neg h2, if_neg h1, if_neg h2]
      by_cases h3 : a ≥ 2 <;> by_cases h4 : b = 1 <;> by_cases h5 : a = 1 <;> by_cases h6 : b ≥ 2 <;> simp [units_count.f, zAg.j0, h3, h4, h5, h6] <;> omega
def tyv (n : Nd) (ks : List Int) : Int :=
  if n.f0 = 1 then 0 else if n.f0 = 2 then 1 else if n.f0 = 3 then wrap64 (2 + wrap64 (2 * n.f1)) else if n.f0 = 4 then wrap64 (3 + wrap64 (2 * n.f1))
  else if n.f0 = 8 then prodV (rd ks 0) (rd ks 1)
  else if n.f0 = 11 ∨ n.f0 = 12 then (if rd ks 0 ≥ 2 then rd ks 0 else -1)
  else if n.f0 = 13 ∨ n.f0 = 14 then (if rd ks 0 ≥ 2 then 1 else -1)
  else if n.f0 = 15 then (if rd ks 0 = 1 then 1 else -1)
  else if n.f0 = 16 then (if rd ks 0 ≥ 2 then sameV (ks.drop 1) else -1)
  else sameV ks
structure Kids (n : Nd) (ks : List Int) : Prop where
  k : 1 ≤ n.f0 ∧ n.f0 ≤ 16
  one : 5 ≤ n.f0 → 0 < ks.length
  two : n.f0 = 8 ∨ n.f0 = 16 → 1 < ks.length
  len : ks.length ≤ 140737488351232
theorem count_f (a : Int) : units_count.f a = some (decide (a ≥ 2)) := rfl
theorem dyn_ev {n : Nd} {ks : List Int} (fx : List Bool) (h : Kids n ks) : Ev (fun k => units_dyn.f k n.f0 n.f0 n.f1 n.f2 n.f3 n.f4 n.f5 ks fx) (tyv n ks) := by
  obtain ⟨⟨k1, k2⟩, o, t, hl⟩ := h
  unfold units_dyn.f tyv
  refine Ev.ite3 (fun _ => Ev.now _) (fun c1 => Ev.ite3 (fun _ => Ev.now _) (fun c2 => Ev.ite3 (fun _ => Ev.now _) (fun c3 => Ev.ite3 (fun _ => Ev.now _) (fun c4 => Ev.ite3 (fun c => prod_ev n ks fx (t (.inl c))) (fun c8 => Ev.ite3 (fun c => ?_) (fun c11 => Ev.ite3 (fun c => ?_) (fun c13 => Ev.ite3 (fun c => ?_) (fun c15 => Ev.ite3 (fun c => ?_) (fun c16 => ?_)))))))))
  · have h0 := o (by omega)
    unfold units_node_counted.f
    refine Ev.ifp (by omega) (Ev.pre (count_f _) ?_)
    by_cases q : rd ks 0 ≥ 2
    · exact Ev.ifp (decide_eq_true q) (Ev.both (Ev.now _) (if_pos q).symm)
    · exact Ev.ifn (by simpa using q) (Ev.both (Ev.now _) (if_neg q).symm)
  · have h0 := o (by omega)
    unfold units_node_priced.f
    refine Ev.ifp (by omega) (Ev.pre (count_f _) ?_)
    by_cases q : rd ks 0 ≥ 2
    · exact Ev.ifp (decide_eq_true q) (Ev.both (Ev.now _) (if_pos q).symm)
    · exact Ev.ifn (by simpa using q) (Ev.both (Ev.now _) (if_neg q).symm)
  · have h0 := o (by omega)
    unfold units_node_off.f
    exact Ev.ifp (by omega) (Ev.ite2 (Ev.now _) (Ev.now _))
  · have h0 := o (by omega)
    have h1 := t (.inr c)
    unfold units_node_test.f
    refine Ev.ifp (by omega) (Ev.pre (count_f _) ?_)
    by_cases q : rd ks 0 ≥ 2
    · refine Ev.ifp (decide_eq_true q) ?_
      rw [if_pos q]
      exact Ev.bind (one_ev n ks fx 1 h1 hl) (Ev.now _)
    · exact Ev.ifn (by simpa using q) (Ev.both (Ev.now _) (if_neg q).symm)
  · by_cases q : 5 ≤ n.f0 ∧ n.f0 ≤ 10
    · refine Ev.ifp q ?_
      unfold units_node_alike.f
      exact Ev.bind (one_ev n ks fx 0 (o (by omega)) hl) (Ev.now _)
    · omega
theorem rcount_f (a : Int) : zAV.f a = some (decide (a ≥ 2)) := rfl
theorem rtyped_ev {n : Nd} {ks : List Int} (h : Kids n ks) : Ev (fun k => zAJ.f k n.f0 n.f1 n.f2 n.f3 n.f4 n.f5 ks) (tyv n ks) := by
  obtain ⟨⟨k1, k2⟩, o, t, hl⟩ := h
  obtain ⟨n0, n1, n2, n3, n4, n5⟩ := n
  dsimp only at k1 k2 o t ⊢
  have alike : 5 ≤ n0 → Ev (fun k => zAJ.j0 k ks n0 true) (sameV ks) := fun h5 => by
    refine Ev.step (fun k => by simp only [zAJ.j0]; rw [if_pos trivial]) ?_
    exact Ev.bind (rsame_ev ks (o h5) hl) (Ev.now _)
  rcases kind_cases n0 with h | rfl | rfl | rfl | rfl | rfl | rfl | rfl | rfl | rfl | rfl | rfl | rfl | rfl | rfl | rfl | rfl
  · omega
  · exact Ev.now _
  · exact Ev.now _
  · exact Ev.now _
  · exact Ev.now _
  · exact alike (by omega)
  · exact alike (by omega)
  · exact alike (by omega)
  · have h1 := t (.inl rfl)
    have h0 := o (by omega)
    refine ⟨5, fun k hk => ?_⟩
    obtain ⟨m, rfl⟩ : ∃ m, k = m + 1 := ⟨k - 1, by omega⟩
    show zAJ.j0 (m + 1) ks 8 false = some (prodV (rd ks 0) (rd ks 1))
    simp only [zAJ.j0]
    rw [if_neg (by decide), if_pos trivial, if_pos (by omega), if_pos (by omega), rprod_f]
    rfl
  · exact alike (by omega)
  · exact alike (by omega)
  all_goals have h0 := o (by omega)
  · refine ⟨5, fun k hk => ?_⟩
    obtain ⟨m, rfl⟩ : ∃ m, k = m + 1 + 1 := ⟨k - 2, by omega⟩
    show zAJ.j0 (m + 1 + 1) ks 11 false = some (if rd ks 0 ≥ 2 then rd ks 0 else -1)
    simp only [zAJ.j0, zAJ.j1]
    rw [if_neg (by decide), if_neg (by decide), if_pos trivial, if_pos (by decide), if_pos (by omega), rcount_f]
    by_cases q : rd ks 0 ≥ 2 <;> simp [q]
  · refine ⟨5, fun k hk => ?_⟩
    obtain ⟨m, rfl⟩ : ∃ m, k = m + 1 + 1 := ⟨k - 2, by omega⟩
    show zAJ.j0 (m + 1 + 1) ks 12 false = some (if rd ks 0 ≥ 2 then rd ks 0 else -1)
    simp only [zAJ.j0, zAJ.j1]
    rw [if_neg (by decide), if_neg (by decide), if_neg (by decide), if_pos (by decide), if_pos (by omega), rcount_f]
    by_cases q : rd ks 0 ≥ 2 <;> simp [q]
  · refine ⟨5, fun k hk => ?_⟩
    obtain ⟨m, rfl⟩ : ∃ m, k = m + 1 + 1 + 1 := ⟨k - 3, by omega⟩
    show zAJ.j0 (m + 1 + 1 + 1) ks 13 false = some (if rd ks 0 ≥ 2 then 1 else -1)
    simp only [zAJ.j0, zAJ.j1, zAJ.j2]
    rw [if_neg (by decide), if_neg (by decide), if_neg (by decide), if_neg (by decide), if_pos trivial, if_pos (by decide), if_pos (by omega), rcount_f]
    by_cases q : rd ks 0 ≥ 2 <;> simp [q]
  · refine ⟨5, fun k hk => ?_⟩
    obtain ⟨m, rfl⟩ : ∃ m, k = m + 1 + 1 + 1 := ⟨k - 3, by omega⟩
    show zAJ.j0 (m + 1 + 1 + 1) ks 14 false = some (if rd ks 0 ≥ 2 then 1 else -1)
    simp only [zAJ.j0, zAJ.j1, zAJ.j2]
    rw [if_neg (by decide), if_neg (by decide), if_neg (by decide), if_neg (by decide), if_neg (by decide), if_pos (by decide), if_pos (by omega), rcount_f]
    by_cases q : rd ks 0 ≥ 2 <;> simp [q]
  · refine ⟨5, fun k hk => ?_⟩
    obtain ⟨m, rfl⟩ : ∃ m, k = m + 1 + 1 + 1 := ⟨k - 3, by omega⟩
    show zAJ.j0 (m + 1 + 1 + 1) ks 15 false = some (if rd ks 0 = 1 then 1 else -1)
    simp only [zAJ.j0, zAJ.j1, zAJ.j2]
    rw [if_neg (by decide), if_neg (by decide), if_neg (by decide), if_neg (by decide), if_neg (by decide), if_neg (by decide), if_pos trivial, if_pos (by omega)]
    by_cases q : rd ks 0 = 1 <;> simp [q]
  · have h1 := t (.inr rfl)
    have hs := rsame_ev (ks.drop 1) (by rw [List.length_drop]; omega) (by rw [List.length_drop]; omega)
    have key : Ev (fun k => zAJ.j2 k ks 16 false) (if rd ks 0 ≥ 2 then sameV (ks.drop 1) else -1) := by
      refine Ev.step (fun k => by simp only [zAJ.j2]; rw [if_neg (by decide), if_neg (by decide), if_pos trivial, if_pos (by omega)]) ?_
      refine Ev.pre (rcount_f _) ?_
      by_cases q : rd ks 0 ≥ 2
      · refine Ev.ifp (decide_eq_true q) (Ev.ifp (by omega) ?_)
        rw [if_pos q]
        exact Ev.bind hs (Ev.now _)
      · exact Ev.ifn (by simpa using q) (Ev.both (Ev.now _) (if_neg q).symm)
    refine Ev.step (g := fun k => zAJ.j0 k ks 16 false) (fun k => by simp only [zAJ.j0]; rw [if_neg (by decide), if_neg (by decide), if_neg (by decide)]) ?_
    refine Ev.step (g := fun k => zAJ.j1 k ks 16 ((16 : Int) == 12)) (fun k => by simp only [zAJ.j1]; rw [if_neg (by decide), if_neg (by decide)]) ?_
    exact key
end Go.Proofs.YthbnigjckjkmnaaDoor.S

namespace Go.Proofs.YthbnigjckjkmnaaDoor.S
open Go.RowKit Go.Proofs.YthbnigjckjkmnaaDoorW.PrintWords Go.Proofs.YthbnigjckjkmnaaDoorW.PrintLast Go.Proofs.YthbnigjckjkmnaaDoorW.PrintMore Go.Proofs.YthbnigjckjkmnaaDoor.Pure
def H : List Nd → Nat → Int
  | _, 0 => 0
  | [], _ + 1 => 0
  | n :: r, i + 1 => 1 - tkOf n + H r i
theorem H_zero (l : List Nd) : H l 0 = 0 := by cases l <;> rfl
theorem H_succ (l : List Nd) : ∀ (i : Nat) (h : i < l.length), H l (i + 1) = H l i + (1 - tkOf l[i]) := by
  induction l with
  | nil => intro i h; simp at h
  | cons n r ih =>
    intro i h
    cases i with
    | zero => simp [H, H_zero]
    | succ j =>
      have := ih j (by simpa using h)
      simp only [H, List.getElem_cons_succ] at this ⊢
      omega
structure Good (l : List Nd) (dims : Int) : Prop where
  ok : ∀ (i : Nat) (h : i < l.length), nodeErr l[i] dims (H l i) = 0
  one : H l l.length = 1
theorem good_of (dims : Int) (tot : Nat) (l : List Nd) : ∀ (r : List Nd) (i : Nat), l.drop i = r → i ≤ l.length → (∀ (t : Nat) (h : t < i) (h' : t < l.length), nodeErr l[t] dims (H l t) = 0) → checkL dims tot r i (H l i) = (0, 0) → Good l dims := by
  intro r
  induction r with
  | nil =>
    intro i hr hi ho hc
    have hl : i = l.length := by
      have := List.drop_eq_nil_iff.1 hr
      omega
    subst hl
    unfold checkL at hc
    split at hc
    · rename_i hp
      exact ⟨fun t h => ho t h h, hp⟩
    · simp at hc
  | cons n r ih =>
    intro i hr hi ho hc
    obtain ⟨h1, h2⟩ := checkL_step hc
    have hlt : i < l.length := by
      rcases Nat.lt_or_ge i l.length with h | h
      · exact h
      · rw [List.drop_of_length_le h] at hr; cases hr
    rw [List.drop_eq_getElem_cons hlt] at hr
    injection hr with e1 e2
    refine ih (i + 1) e2 hlt (fun t h h' => ?_) (by rw [H_succ l i hlt, e1]; exact h2)
    rcases Nat.lt_or_ge t i with q | q
    · exact ho t q h'
    · obtain rfl : t = i := by omega
      rw [e1]; exact h1
theorem good_chk {a0 : ByteArray} {l1 : List Dm} {a2 : Int} {l3 : List Nd} (h : (chk a0 l1 a2 l3).2 = 0) : Good l3 l1.length := by
  obtain ⟨_, _, hc, _⟩ := chk_ok h
  exact good_of l1.length l3.length l3 l3 0 rfl (by omega) (fun t h _ => absurd h (by omega)) (by rw [H_zero]; exact hc)
theorem H_bound {l : List Nd} {dims : Int} (g : Good l dims) : ∀ i, i ≤ l.length → 0 ≤ H l i ∧ H l i ≤ i := by
  intro i
  induction i with
  | zero => intro _; rw [H_zero]; omega
  | succ j ih =>
    intro h
    obtain ⟨h1, h2⟩ := ih (by omega)
    obtain ⟨_, _, h3, h4⟩ := node_ok (g.ok j h)
    rw [H_succ l j h]
    omega
def Starts (l : List Nd) (i j : Nat) : Prop := j ≤ i ∧ H l j = H l (i + 1) - 1 ∧ ∀ s, j < s → s ≤ i → H l (i + 1) - 1 < H l s
theorem frL_spec {l : List Nd} {dims : Int} (g : Good l dims) : ∀ (r : List Nd) (i : Nat) (acc pile : List Int), l.drop i = r → i ≤ l.length → acc.length = i → (pile.length : Int) = H l i →
    (∀ (p : Nat) (h : p < pile.length), ∃ j : Nat, pile[p] = (j : Int) ∧ j < i ∧ H l j = p ∧ ∀ t, j < t → t ≤ i → (p : Int) < H l t) →
    (∀ (t : Nat) (h : t < acc.length), ∃ j : Nat, acc[t] = (j : Int) ∧ Starts l t j) →
    (frL r i acc pile).length = l.length ∧ ∀ (t : Nat) (h : t < (frL r i acc pile).length), ∃ j : Nat, (frL r i acc pile)[t] = (j : Int) ∧ Starts l t j := by
  intro r
  induction r with
  | nil =>
    intro i acc pile hr hi ha hp hP hQ
    have hl : l.length ≤ i := List.drop_eq_nil_iff.1 hr
    exact ⟨by rw [frL]; omega, fun t h => hQ t (by rw [frL] at h; exact h)⟩
  | cons n r ih =>
    intro i acc pile hr hi ha hp hP hQ
    have hlt : i < l.length := by
      rcases Nat.lt_or_ge i l.length with h | h
      · exact h
      · rw [List.drop_of_length_le h] at hr; cases hr
    rw [List.drop_eq_getElem_cons hlt] at hr
    injection hr with e1 e2
    obtain ⟨_, _, h3, h4⟩ := node_ok (g.ok i hlt)
    have hs := H_succ l i hlt
    rw [e1] at h3 h4 hs
    rw [frL]
    by_cases h0 : tkOf n > 0
    · rw [if_pos h0]
      obtain ⟨m, hm⟩ := Int.eq_ofNat_of_zero_le (show 0 ≤ (pile.length : Int) - tkOf n by omega)
      rw [hm, Int.toNat_natCast]
      have hml : m < pile.length := by omega
      obtain ⟨j, q1, q2, q3, q4⟩ := hP m hml
      have hg : pile.getD m 0 = (j : Int) := by rw [List.getD_eq_getElem?_getD, List.getElem?_eq_getElem hml]; exact q1
      rw [hg]
      have htk : (pile.take m).length = m := by rw [List.length_take]; omega
      refine ih (i + 1) _ _ e2 hlt (by simp; omega) (by simp only [List.length_append, htk, List.length_cons, List.length_nil]; omega) ?_ ?_
      · intro p hp'
        have hp2 : p < m + 1 := by simp only [List.length_append, htk, List.length_cons, List.length_nil] at hp'; omega
        rcases Nat.lt_or_ge p m with c | c
        · obtain ⟨j', w1, w2, w3, w4⟩ := hP p (by omega)
          refine ⟨j', ?_, by omega, w3, fun t a b => ?_⟩
          · rw [List.getElem_append_left (by rw [htk]; exact c), List.getElem_take]; exact w1
          · rcases Nat.lt_or_ge i t with d | d
            · obtain rfl : t = i + 1 := by omega
              omega
            · exact w4 t a d
        · obtain rfl : p = m := by omega
          refine ⟨j, ?_, by omega, q3, fun t a b => ?_⟩
          · rw [List.getElem_append_right (by rw [htk]; exact Nat.le_refl _)]; simp [htk]
          · rcases Nat.lt_or_ge i t with d | d
            · obtain rfl : t = i + 1 := by omega
              omega
            · exact q4 t a d
      · intro t ht
        rcases Nat.lt_or_ge t acc.length with c | c
        · obtain ⟨j', w1, w2⟩ := hQ t c
          exact ⟨j', by rw [List.getElem_append_left c]; exact w1, w2⟩
        · obtain rfl : t = i := by simp at ht; omega
          refine ⟨j, by rw [List.getElem_append_right c]; simp, by omega, by omega, fun s a b => ?_⟩
          have := q4 s a b
          omega
    · rw [if_neg h0]
      have hz : tkOf n = 0 := by omega
      refine ih (i + 1) _ _ e2 hlt (by simp; omega) (by simp; omega) ?_ ?_
      · intro p hp'
        rcases Nat.lt_or_ge p pile.length with c | c
        · obtain ⟨j', w1, w2, w3, w4⟩ := hP p c
          refine ⟨j', by rw [List.getElem_append_left c]; exact w1, by omega, w3, fun t a b => ?_⟩
          rcases Nat.lt_or_ge i t with d | d
          · obtain rfl : t = i + 1 := by omega
            omega
          · exact w4 t a d
        · obtain rfl : p = pile.length := by simp at hp'; omega
          refine ⟨i, by rw [List.getElem_append_right c]; simp, by omega, by omega, fun t a b => ?_⟩
          obtain rfl : t = i + 1 := by omega
          omega
      · intro t ht
        rcases Nat.lt_or_ge t acc.length with c | c
        · obtain ⟨j', w1, w2⟩ := hQ t c
          exact ⟨j', by rw [List.getElem_append_left c]; exact w1, w2⟩
        · obtain rfl : t = i := by simp at ht; omega
          exact ⟨t, by rw [List.getElem_append_right c]; simp, by omega, by omega, fun s a b => absurd b (by omega)⟩
theorem frs_spec {l : List Nd} {dims : Int} (g : Good l dims) : (frs l).length = l.length ∧ ∀ (t : Nat) (h : t < (frs l).length), ∃ j : Nat, (frs l)[t] = (j : Int) ∧ Starts l t j :=
  frL_spec g l 0 [] [] rfl (by omega) rfl (by rw [H_zero]; rfl) (fun p h => absurd h (by simp)) (fun t h => absurd h (by simp))
def seg (l : List Nd) (i j : Nat) : List Nd := (l.take (i + 1)).drop j
theorem seg_len (l : List Nd) (i j : Nat) (h : i < l.length) : (seg l i j).length = i + 1 - j := by simp [seg]; omega
theorem seg_mem (l : List Nd) (i j : Nat) : ∀ n ∈ seg l i j, n ∈ l := fun n hn => List.mem_of_mem_take (List.mem_of_mem_drop hn)
theorem nodeErr_at {n : Nd} {dims pile : Int} (h : nodeErr n dims pile = 0) (q : Int) (hq : tkOf n ≤ q) : nodeErr n dims q = 0 := by
  obtain ⟨hk, hf, hp, hp0⟩ := node_ok h
  unfold nodeErr at h ⊢
  rw [if_neg (by omega), bad_eq n _ _ hk, hf, decide_eq_false (by omega)] at h ⊢
  exact h
theorem seg_checkL {l : List Nd} {dims : Int} (g : Good l dims) (tot : Nat) (i j : Nat) (hi : i < l.length) (hs : Starts l i j) (d : Nat) : ∀ t : Nat, t + d = i + 1 → j ≤ t → ∀ u : Nat,
    checkL dims tot ((l.take (i + 1)).drop t) u (H l t - H l j) = (0, 0) := by
  obtain ⟨s1, s2, s3⟩ := hs
  induction d with
  | zero =>
    intro t ht hj u
    obtain rfl : t = i + 1 := by omega
    rw [List.drop_of_length_le (by rw [List.length_take]; omega), checkL, if_pos (by omega)]
  | succ d ih =>
    intro t ht hj u
    have h : t < l.length := by omega
    have h' : t < (l.take (i + 1)).length := by rw [List.length_take]; omega
    have e := H_succ l t h
    have hup : H l j < H l (t + 1) := by
      rcases Nat.lt_or_ge t i with c | c
      · have := s3 (t + 1) (by omega) (by omega); omega
      · obtain rfl : t = i := by omega
        omega
    rw [List.drop_eq_getElem_cons h', List.getElem_take, checkL, if_pos (nodeErr_at (g.ok t h) _ (by omega))]
    have := ih (t + 1) (by omega) (by omega) (u + 1)
    rw [show H l t - H l j + (1 - tkOf l[t]) = H l (t + 1) - H l j by omega]
    exact this
theorem seg_chk {a0 : ByteArray} {l1 : List Dm} {a2 : Int} {l3 : List Nd} (hc : (chk a0 l1 a2 l3).2 = 0) (i j : Nat) (hi : i < l3.length) (hs : Starts l3 i j) : chk a0 l1 a2 (seg l3 i j) = (0, 0) := by
  have g := good_chk hc
  obtain ⟨hh, hl, _, _⟩ := chk_ok hc
  unfold chk
  have hlen := seg_len l3 i j hi
  rw [if_pos hh, if_neg (by omega)]
  have := seg_checkL g (seg l3 i j).length i j hi hs (i + 1 - j) j (by have := hs.1; omega) (by omega) 0
  rw [Int.sub_self] at this
  exact this
theorem pb_seg {a0 : ByteArray} {l1 : List Dm} {l3 : List Nd} (h : PB a0 l1 l3) (i j : Nat) (hi : i < l3.length) : PB a0 l1 (seg l3 i j) :=
  ⟨h.name, h.dims, h.names, by have := h.nodes; rw [seg_len _ _ _ hi]; omega, fun n hn => h.tiers n (seg_mem l3 i j n hn)⟩
end Go.Proofs.YthbnigjckjkmnaaDoor.S

namespace Go.Proofs.YthbnigjckjkmnaaDoor.S
open Go.RowKit Go.Proofs.YthbnigjckjkmnaaDoorW.PrintWords Go.Proofs.YthbnigjckjkmnaaDoorW.PrintLast Go.Proofs.YthbnigjckjkmnaaDoorW.PrintMore Go.Proofs.YthbnigjckjkmnaaDoor.Pure
theorem first_l0 (a0 : ByteArray) (l1 : List Dm) (a2 : Int) {l : List Nd} {dims : Int} (g : Good l dims) (hl : l.length ≤ 1024) (i j : Nat) (hi : i < l.length) (hs : Starts l i j) (d : Nat) : ∀ t : Nat, t ≤ i → j + d = t →
    Ev (fun k => zAX.l0 k (H l (t + 1) - H l (i + 1) + 1) (t : Int) a0 l1 a2 l) (j : Int) := by
  obtain ⟨s1, s2, s3⟩ := hs
  have hb := H_bound g
  induction d with
  | zero =>
    intro t ht hj
    obtain rfl : j = t := by omega
    have h : j < l.length := by omega
    obtain ⟨hk, _, h3, h4⟩ := node_ok (g.ok j h)
    have e := H_succ l j h
    have b1 := hb (j + 1) (by omega)
    have b2 := hb (i + 1) (by omega)
    have b3 := hb j (by omega)
    refine Ev.step (fun k => by simp only [zAX.l0]; rw [if_pos (by omega), if_pos (by omega), rdN l j h]) ?_
    refine Ev.bind (rtakes_ev l[j]) ?_
    have ek : tkR l[j] = tkOf l[j] := by unfold tkR; rw [if_neg (by omega)]
    rw [ek, wrap_small (x := H l (j + 1) - H l (i + 1) + 1 - 1) (by omega) (by omega), wrap_small (by omega) (by omega)]
    exact Ev.ifp (by omega) (Ev.now _)
  | succ d ih =>
    intro t ht hj
    have h : t < l.length := by omega
    obtain ⟨hk, _, h3, h4⟩ := node_ok (g.ok t h)
    have e := H_succ l t h
    have b1 := hb (t + 1) (by omega)
    have b2 := hb (i + 1) (by omega)
    have b3 := hb t (by omega)
    refine Ev.step (fun k => by simp only [zAX.l0]; rw [if_pos (by omega), if_pos (by omega), rdN l t h]) ?_
    refine Ev.bind (rtakes_ev l[t]) ?_
    have ek : tkR l[t] = tkOf l[t] := by unfold tkR; rw [if_neg (by omega)]
    rw [ek, wrap_small (x := H l (t + 1) - H l (i + 1) + 1 - 1) (by omega) (by omega), wrap_small (by omega) (by omega)]
    have hgt := s3 t (by omega) ht
    refine Ev.ifn (by omega) ?_
    have := ih (t - 1) (by omega) (by omega)
    rw [w_down t (by omega) (by omega), show H l (t + 1) - H l (i + 1) + 1 - 1 + tkOf l[t] = H l (t - 1 + 1) - H l (i + 1) + 1 by rw [show t - 1 + 1 = t by omega]; omega]
    exact this
theorem first_ev (a0 : ByteArray) (l1 : List Dm) (a2 : Int) {l : List Nd} {dims : Int} (g : Good l dims) (hl : l.length ≤ 1024) (i j : Nat) (hi : i < l.length) (hs : Starts l i j) : Ev (fun k => zAX.f k a0 l1 a2 l (i : Int)) (j : Int) := by
  unfold zAX.f
  have := first_l0 a0 l1 a2 g hl i j hi hs (i - j) i (by omega) (by have := hs.1; omega)
  rw [show H l (i + 1) - H l (i + 1) + 1 = 1 by omega] at this
  exact this
end Go.Proofs.YthbnigjckjkmnaaDoor.S

namespace Go.Proofs.YthbnigjckjkmnaaDoor.S
open Go.RowKit Go.Proofs.YthbnigjckjkmnaaDoorW.PrintWords Go.Proofs.YthbnigjckjkmnaaDoorW.PrintLast Go.Proofs.YthbnigjckjkmnaaDoorW.PrintMore Go.Proofs.YthbnigjckjkmnaaDoor.Pure
def isV (n : Nd) : Bool := n.f0 == 3 || n.f0 == 4
def cns (l : List Nd) : List Bool := (List.range l.length).map (fun t => !((seg l t ((frs l).getD t 0).toNat).any isV))
theorem cns_len (l : List Nd) : (cns l).length = l.length := by simp [cns]
theorem cns_at {l : List Nd} (i j : Nat) (h : i < l.length) (hf : (frs l).getD i 0 = (j : Int)) : (cns l)[i]'(by rw [cns_len]; exact h) = !((seg l i j).any isV) := by
  simp only [cns, List.getElem_map, List.getElem_range, hf, Int.toNat_natCast]
theorem frs_getD {l : List Nd} (i j : Nat) (h : i < (frs l).length) (q : (frs l)[i] = (j : Int)) : (frs l).getD i 0 = (j : Int) := by
  rw [List.getD_eq_getElem?_getD, List.getElem?_eq_getElem h]; exact q
theorem rconst_l1 (a0 : ByteArray) (l1 : List Dm) (a2 : Int) {l : List Nd} (hl : l.length ≤ 1024) (i : Nat) (hi : i < l.length) (acc : List Bool) (ha : acc.length ≤ 1024) {r : List Bool × Int} (d : Nat) : ∀ (t : Nat) (b : Bool), t + d = i + 1 →
    Ev (fun k => zAN.l0 k (acc ++ [b && !(((l.take (i + 1)).drop t).any isV)]) ((i + 1 : Nat) : Int) a0 l1 a2 l) r →
    Ev (fun k => zAN.l1 k acc (i : Int) b (t : Int) a0 l1 a2 l) r := by
  induction d with
  | zero =>
    intro t b ht hn
    rw [List.drop_of_length_le (by rw [List.length_take]; omega), List.any_nil, Bool.not_false, Bool.and_true] at hn
    refine Ev.step (f := fun k => zAN.l0 k (acc ++ [b]) ((i + 1 : Nat) : Int) a0 l1 a2 l) (fun k => ?_) hn
    simp only [zAN.l1]
    rw [if_neg (by omega), if_pos (by omega), w_up i (by omega)]
  | succ d ih =>
    intro t b ht hn
    have h : t < l.length := by omega
    have h' : t < (l.take (i + 1)).length := by rw [List.length_take]; omega
    rw [List.drop_eq_getElem_cons h', List.any_cons, List.getElem_take] at hn
    cases b with
    | false =>
      refine Ev.step (f := fun k => zAN.l1 k acc (i : Int) false ((t + 1 : Nat) : Int) a0 l1 a2 l) (fun k => ?_) (ih (t + 1) false (by omega) (by simpa using hn))
      simp only [zAN.l1]
      rw [if_pos (by omega), if_neg (by decide), w_up t (by omega)]
    | true =>
      refine Ev.step (fun k => by simp only [zAN.l1]; rw [if_pos (by omega), if_pos trivial, if_pos (by omega), if_pos (by omega), rdN l t h, w_up t (by omega)]) ?_
      by_cases c3 : l[t].f0 = 3
      · refine Ev.ifp c3 (ih (t + 1) false (by omega) ?_)
        have e : isV l[t] = true := by simp [isV, c3]
        rw [e] at hn
        simpa using hn
      · refine Ev.ifn c3 (ih (t + 1) _ (by omega) ?_)
        have e : isV l[t] = (l[t].f0 == 4) := by simp [isV, c3]
        rw [e] at hn
        rw [show (l[t].f0 != 4) = !(l[t].f0 == 4) from rfl]
        simpa using hn
theorem rconst_l0 (a0 : ByteArray) (l1 : List Dm) (a2 : Int) {l : List Nd} {dims : Int} (g : Good l dims) (hl : l.length ≤ 1024) (d : Nat) : ∀ i : Nat, i + d = l.length →
    Ev (fun k => zAN.l0 k ((cns l).take i) (i : Int) a0 l1 a2 l) (cns l, 0) := by
  obtain ⟨f1, f2⟩ := frs_spec g
  have hcl := cns_len l
  induction d with
  | zero =>
    intro i hi
    rw [List.take_of_length_le (by omega)]
    exact Ev.step (f := fun _ => some (cns l, 0)) (fun k => by simp only [zAN.l0]; rw [if_neg (by omega)]) (Ev.now _)
  | succ d ih =>
    intro i hi
    have h : i < l.length := by omega
    obtain ⟨j, q1, q2⟩ := f2 i (by omega)
    refine Ev.step (fun k => by simp only [zAN.l0]; rw [if_pos (by omega)]) ?_
    refine Ev.bind (first_ev a0 l1 a2 g hl i j h q2) ?_
    have hj := q2.1
    refine rconst_l1 a0 l1 a2 hl i h _ (by rw [List.length_take]; omega) (i + 1 - j) j true (by omega) ?_
    have := ih (i + 1) (by omega)
    rw [List.take_succ_eq_append_getElem (by omega), cns_at i j h (frs_getD i j (by omega) q1)] at this
    rw [Bool.true_and]
    exact this
theorem rconst_ev {a0 : ByteArray} {l1 : List Dm} (a2 : Int) {l3 : List Nd} (h : PB a0 l1 l3) : Ev (fun k => zAN.f k a0 l1 a2 l3) (if (chk a0 l1 a2 l3).2 = 0 then (cns l3, 0) else ([], (chk a0 l1 a2 l3).2)) := by
  unfold zAN.f
  refine Ev.bind (rcheck_ev a2 h) (Ev.ite3 (fun hc => ?_) (fun _ => Ev.now _))
  obtain ⟨_, hl, _, _⟩ := chk_ok hc
  exact rconst_l0 a0 l1 a2 (good_chk hc) hl l3.length 0 (by omega)
def Last (l : List Nd) (i : Nat) (x : Int) : Prop := -1 ≤ x ∧ x < i ∧ (∀ (t : Nat) (h : t < l.length), (t : Int) = x → isV l[t] = true) ∧ ∀ (t : Nat) (h : t < l.length), x < t → t < i → isV l[t] = false
theorem last_const {l : List Nd} (i j : Nat) (h : i < l.length) (hj : j ≤ i) (x : Int) (hx : Last l (i + 1) x) : decide (x < (j : Int)) = !((seg l i j).any isV) := by
  obtain ⟨x1, x2, x3, x4⟩ := hx
  by_cases c : x < (j : Int)
  · rw [decide_eq_true c]
    have : (seg l i j).any isV = false := by
      rw [List.any_eq_false]
      intro n hn
      obtain ⟨t, ht, e⟩ := List.getElem_of_mem hn
      rw [seg_len l i j h] at ht
      simp only [seg, List.getElem_drop, List.getElem_take] at e
      rw [← e, x4 (j + t) (by omega) (by omega) (by omega)]
      decide
    rw [this]; rfl
  · rw [decide_eq_false c]
    obtain ⟨t, rfl⟩ := Int.eq_ofNat_of_zero_le (show 0 ≤ x by omega)
    have : (seg l i j).any isV = true := by
      rw [List.any_eq_true]
      refine ⟨l[t], ?_, x3 t (by omega) rfl⟩
      have hs : t - j < (seg l i j).length := by rw [seg_len l i j h]; omega
      have : (seg l i j)[t - j] = l[t] := by
        simp only [seg, List.getElem_drop, List.getElem_take]
        congr 1
        omega
      rw [← this]
      exact List.getElem_mem hs
    rw [this]; rfl
theorem const_l0 {l : List Nd} {dims : Int} (g : Good l dims) (hl : l.length ≤ 1024) (d : Nat) : ∀ (i : Nat) (x : Int), i + d = l.length → Last l i x →
    Ev (fun k => zAj.l0 k (frs l) x ((cns l).take i ++ List.replicate (l.length - i) false) l (l.length : Int) (i : Int)) (cns l, 0) := by
  obtain ⟨f1, f2⟩ := frs_spec g
  have hcl := cns_len l
  induction d with
  | zero =>
    intro i x hi hx
    rw [List.take_of_length_le (by omega), show l.length - i = 0 by omega, List.replicate_zero, List.append_nil]
    exact Ev.step (f := fun _ => some (cns l, 0)) (fun k => by simp only [zAj.l0]; rw [if_neg (by omega)]) (Ev.now _)
  | succ d ih =>
    intro i x hi hx
    have h : i < l.length := by omega
    obtain ⟨j, q1, q2⟩ := f2 i (by omega)
    have hlen : ((cns l).take i ++ List.replicate (l.length - i) false).length = l.length := by simp [hcl]; omega
    have hF : rd (frs l) (i : Int) = (j : Int) := by rw [rdI (frs l) i (by omega)]; exact q1
    have hset : ∀ b : Bool, b = (!((seg l i j).any isV)) → ((cns l).take i ++ List.replicate (l.length - i) false).set i b = (cns l).take (i + 1) ++ List.replicate (l.length - (i + 1)) false := by
      intro b hb
      rw [show l.length - i = (l.length - (i + 1)) + 1 by omega, List.replicate_succ, List.set_append_right _ _ (by rw [List.length_take]; omega)]
      rw [show i - ((cns l).take i).length = 0 by rw [List.length_take]; omega, List.set_cons_zero, List.take_succ_eq_append_getElem (by omega), cns_at i j h (frs_getD i j (by omega) q1), hb, List.append_assoc]
      rfl
    obtain ⟨x1, x2, x3, x4⟩ := hx
    have go : ∀ y : Int, Last l (i + 1) y → Ev (fun k => zAj.l0 k (frs l) y (((cns l).take i ++ List.replicate (l.length - i) false).set i (decide (y < (j : Int)))) l (l.length : Int) ((i + 1 : Nat) : Int)) (cns l, 0) := by
      intro y hy
      rw [hset _ (last_const i j h q2.1 y hy)]
      exact ih (i + 1) y (by omega) hy
    have lv : isV l[i] = true → Last l (i + 1) (i : Int) := fun hv => ⟨by omega, by omega, (fun t ht e => by
      obtain rfl : t = i := by omega
      exact hv), (fun t ht a b => by omega)⟩
    refine Ev.step (fun k => by simp only [zAj.l0]; rw [if_pos (by omega), if_pos (by omega), if_pos (by omega), rdN l i h, w_up i (by omega), hF, Int.toNat_natCast, hlen]) ?_
    by_cases c3 : l[i].f0 = 3
    · exact Ev.ifp c3 (Ev.ifp (by omega) (Ev.ifp (by omega) (go _ (lv (by simp [isV, c3])))))
    · refine Ev.ifn c3 ?_
      by_cases c4 : l[i].f0 = 4
      · exact Ev.ifp c4 (Ev.ifp (by omega) (Ev.ifp (by omega) (go _ (lv (by simp [isV, c4])))))
      · refine Ev.ifn c4 (Ev.ifp (by omega) (Ev.ifp (by omega) (go _ ⟨x1, by omega, x3, fun t ht a b => ?_⟩)))
        rcases Nat.lt_or_ge t i with q | q
        · exact x4 t ht a q
        · obtain rfl : t = i := by omega
          simp [isV, c3, c4]
theorem const_ev {a0 : ByteArray} {l1 : List Dm} (a2 : Int) {l3 : List Nd} (h : PB a0 l1 l3) : Ev (fun k => zAj.f k a0 l1 a2 l3) (if (chk a0 l1 a2 l3).2 = 0 then (cns l3, 0) else ([], (chk a0 l1 a2 l3).2)) := by
  unfold zAj.f
  have hf := firsts_ev a2 h
  by_cases hc : (chk a0 l1 a2 l3).2 = 0
  · rw [if_pos hc] at hf ⊢
    have g := good_chk hc
    obtain ⟨_, hl, _, _⟩ := chk_ok hc
    obtain ⟨f1, f2⟩ := frs_spec g
    refine Ev.bind hf ?_
    dsimp only
    rw [f1, Int.toNat_natCast]
    refine Ev.ifp rfl (Ev.ifp (by omega) (Ev.ifp (by omega) ?_))
    exact const_l0 g hl l3.length 0 (-1) (by omega) ⟨by omega, by omega, fun t ht e => by omega, fun t ht a b => by omega⟩
  · rw [if_neg hc] at hf ⊢
    exact Ev.bind hf (Ev.ifn hc (Ev.now _))
end Go.Proofs.YthbnigjckjkmnaaDoor.S

namespace Go.Proofs.YthbnigjckjkmnaaDoor.S
open Go.RowKit Go.Proofs.YthbnigjckjkmnaaDoorW.PrintWords Go.Proofs.YthbnigjckjkmnaaDoorW.PrintLast Go.Proofs.YthbnigjckjkmnaaDoorW.PrintMore Go.Proofs.YthbnigjckjkmnaaDoor.Pure
def kids {α : Type} (n : Nd) (pl : List α) : List α := pl.drop (pl.length - (tkOf n).toNat)
def rest {α : Type} (n : Nd) (pl : List α) : List α := pl.take (pl.length - (tkOf n).toNat)
def fixV (n : Nd) (fs : List Bool) : Bool := fs.all id && !isV n
def tyR : List Nd → Nat → List Int → List Int → List Bool → List Int × Int × Int
  | [], _, out, pl, _ => if rd pl 0 = 1 then (out, 0, 0) else ([], wrap64 ((out.length : Int) - 1), 80)
  | n :: r, i, out, pl, fx =>
    if tyv n (kids n pl) = -1 then ([], (i : Int), 80)
    else if n.f0 = 8 ∧ rdOf false (kids n fx) 0 = false ∧ rdOf false (kids n fx) 1 = false then ([], (i : Int), 81)
    else tyR r (i + 1) (out ++ [tyv n (kids n pl)]) (rest n pl ++ [tyv n (kids n pl)]) (rest n fx ++ [fixV n (kids n fx)])
def Ch (l : List Nd) : Nat → List Nat → Prop
  | j, [] => j = 0
  | j, p :: r => j = p + 1 ∧ ∃ f, Starts l p f ∧ Ch l f r
theorem Ch.lt {l : List Nd} : ∀ (rs : List Nat) (j : Nat), Ch l j rs → ∀ p ∈ rs, p < j
  | [], _, _ => fun p hp => by cases hp
  | q :: r, j, h => by
    obtain ⟨e, f, hs, hc⟩ := h
    have hq := hs.1
    intro p hp
    rcases List.mem_cons.1 hp with rfl | hp
    · omega
    · have := Ch.lt r f hc p hp
      omega
theorem starts_one {l : List Nd} {i j j' : Nat} (h : Starts l i j) (h' : Starts l i j') : j = j' := by
  obtain ⟨a1, a2, a3⟩ := h
  obtain ⟨b1, b2, b3⟩ := h'
  rcases Nat.lt_trichotomy j j' with q | q | q
  · have := a3 j' q b1; omega
  · exact q
  · have := b3 j q a1; omega
theorem Ch.pop {l : List Nd} {C : Nat → Bool} (hC : ∀ p f, p < l.length → Starts l p f → C p = !((seg l p f).any isV)) : ∀ (k : Nat) (rs : List Nat) (i : Nat), Ch l i rs → i ≤ l.length → k ≤ rs.length →
    ∃ j, Ch l j (rs.drop k) ∧ j ≤ i ∧ H l j = H l i - k ∧ (∀ s, j < s → s ≤ i → H l j < H l s) ∧ ((l.take i).drop j).any isV = (rs.take k).any (fun p => !C p)
  | 0, rs, i, h, hi, hk => ⟨i, h, Nat.le_refl _, by omega, fun s a b => by omega, by rw [List.drop_of_length_le (by rw [List.length_take]; omega)]; rfl⟩
  | k + 1, [], i, h, hi, hk => by simp at hk
  | k + 1, p :: r, i, h, hi, hk => by
    obtain ⟨e, f, hs, hc⟩ := h
    obtain ⟨s1, s2, s3⟩ := id hs
    subst e
    obtain ⟨j, j1, j2, j3, j4, j5⟩ := Ch.pop hC k r f hc (by omega) (by simpa using hk)
    refine ⟨j, j1, by omega, by omega, fun s a b => ?_, ?_⟩
    · rcases Nat.lt_or_ge f s with q | q
      · rcases Nat.lt_or_ge p s with q' | q'
        · obtain rfl : s = p + 1 := by omega
          omega
        · have := s3 s q q'; omega
      · exact j4 s a q
    · have hcut : (l.take (p + 1)).drop j = (l.take f).drop j ++ seg l p f := by
        have e1 : l.take (p + 1) = l.take f ++ seg l p f := by
          rw [← List.take_append_drop f (l.take (p + 1)), List.take_take, Nat.min_eq_left (by omega)]
          rfl
        rw [e1, List.drop_append_of_le_length (by rw [List.length_take]; omega)]
      rw [hcut, List.any_append, j5, List.take_succ_cons, List.any_cons, hC p f (by omega) hs, Bool.not_not, Bool.or_comm]
def C (l : List Nd) (p : Nat) : Bool := (cns l).getD p false
theorem cns_of {l : List Nd} {dims : Int} (g : Good l dims) (p f : Nat) (h : p < l.length) (hs : Starts l p f) : C l p = !((seg l p f).any isV) := by
  obtain ⟨f1, f2⟩ := frs_spec g
  obtain ⟨j, q1, q2⟩ := f2 p (by omega)
  obtain rfl := starts_one hs q2
  unfold C
  rw [List.getD_eq_getElem?_getD, List.getElem?_eq_getElem (by rw [cns_len]; exact h), Option.getD_some]
  exact cns_at p f h (frs_getD p f (by omega) q1)
structure UInv (l : List Nd) (i : Nat) (out pl : List Int) (fx : List Bool) (rs : List Nat) : Prop where
  ch : Ch l i rs
  pl : pl = (rs.map (fun p => out.getD p 0)).reverse
  fx : fx = (rs.map (C l)).reverse
  out : out.length = i
theorem kids_rev {α : Type} (n : Nd) (rs : List Nat) (f : Nat → α) (h : (tkOf n).toNat ≤ rs.length) : kids n (rs.map f).reverse = ((rs.take (tkOf n).toNat).map f).reverse ∧ rest n (rs.map f).reverse = ((rs.drop (tkOf n).toNat).map f).reverse := by
  unfold kids rest
  rw [List.drop_reverse, List.take_reverse]
  simp only [List.length_reverse, List.length_map]
  rw [show rs.length - (rs.length - (tkOf n).toNat) = (tkOf n).toNat by omega, List.map_take, List.map_drop]
  exact ⟨rfl, rfl⟩
theorem UInv.step {l : List Nd} {dims : Int} (g : Good l dims) {i : Nat} {out pl : List Int} {fx : List Bool} {rs : List Nat} (h : UInv l i out pl fx rs) (hi : i < l.length) (hk : (tkOf l[i]).toNat ≤ rs.length) (h0 : 0 ≤ tkOf l[i]) (t : Int) :
    C l i = fixV l[i] (kids l[i] fx) ∧ UInv l (i + 1) (out ++ [t]) (rest l[i] pl ++ [t]) (rest l[i] fx ++ [fixV l[i] (kids l[i] fx)]) (i :: rs.drop (tkOf l[i]).toNat) := by
  obtain ⟨h1, h2, h3, h4⟩ := h
  obtain ⟨j, j1, j2, j3, j4, j5⟩ := Ch.pop (C := C l) (fun p f a b => cns_of g p f a b) (tkOf l[i]).toNat rs i h1 (by omega) hk
  have hH := H_succ l i hi
  have hs : Starts l i j := ⟨j2, by omega, fun s a b => by have := j4 s a b; omega⟩
  have hc : C l i = fixV l[i] (kids l[i] fx) := by
    rw [cns_of g i j hi hs, h3, (kids_rev l[i] rs (C l) hk).1]
    unfold fixV
    have e : seg l i j = (l.take i).drop j ++ [l[i]] := by
      unfold seg
      rw [List.take_succ_eq_append_getElem hi, List.drop_append_of_le_length (by rw [List.length_take]; omega)]
    rw [e, List.any_append, j5, List.any_cons, List.any_nil, Bool.or_false, Bool.not_or]
    congr 1
    rw [List.all_reverse, List.all_map, List.all_eq_not_any_not]
    rfl
  refine ⟨hc, ⟨rfl, j, hs, j1⟩, ?_, ?_, by simp [h4]⟩
  · rw [h2, (kids_rev l[i] rs _ hk).2, List.map_cons, List.reverse_cons]
    congr 1
    · congr 1
      refine List.map_congr_left fun p hp => ?_
      have := Ch.lt rs i h1 p (List.mem_of_mem_drop hp)
      simp only [List.getD_eq_getElem?_getD]
      rw [List.getElem?_append_left (by omega)]
    · simp only [List.getD_eq_getElem?_getD]
      rw [List.getElem?_append_right (by omega), h4, Nat.sub_self]
      rfl
  · rw [List.map_cons, List.reverse_cons, ← hc, h3, (kids_rev l[i] rs _ hk).2]
theorem takes_k {n : Nd} (h : 1 ≤ n.f0 ∧ n.f0 ≤ 16) {dims : Int} (hf : fieldsB n dims = true) :
    (kidsOf n.f0 < 0 → tkOf n = n.f3) ∧ (0 ≤ kidsOf n.f0 → tkOf n = kidsOf n.f0) ∧ (5 ≤ n.f0 → 0 < tkOf n) ∧ (n.f0 = 8 ∨ n.f0 = 16 → 1 < tkOf n) ∧ 0 ≤ tkOf n ∧ tkOf n ≤ 16 ∧ (n.f0 = 8 → tkOf n = 2) := by
  have h3 : tk n.f0 < 0 → n.f3 ≥ 2 ∧ n.f3 ≤ 16 := fun hq => by
    unfold fieldsB at hf
    simp only [Bool.and_eq_true] at hf
    have h5 := hf.2.2.2.1
    rw [if_pos hq] at h5
    simpa using h5
  obtain ⟨n0, n1, n2, n3, n4, n5⟩ := n
  dsimp only at h h3
  clear hf
  unfold tkOf
  dsimp only
  rcases kind_cases n0 with q | rfl | rfl | rfl | rfl | rfl | rfl | rfl | rfl | rfl | rfl | rfl | rfl | rfl | rfl | rfl | rfl
  · omega
  all_goals simp [tk, tkL, kidsOf] at h3 ⊢
  all_goals omega
theorem kids_ok {n : Nd} {dims : Int} {pl : List Int} (h : nodeErr n dims pl.length = 0) (hl : pl.length ≤ 1024) : Kids n (kids n pl) := by
  obtain ⟨hk, hf, h3, h4⟩ := node_ok h
  obtain ⟨_, _, h5, h6, _, _, _⟩ := takes_k hk hf
  have hlen : ((kids n pl).length : Int) = tkOf n := by unfold kids; rw [List.length_drop]; omega
  exact ⟨hk, fun q => by have := h5 q; omega, fun q => by have := h6 q; omega, by omega⟩
theorem rules_f {n : Nd} (h : 1 ≤ n.f0 ∧ n.f0 ≤ 16) : units_rules.f n.f0 = some (n.f0, kidsOf n.f0) := by
  unfold units_rules.f
  rw [if_pos h]
theorem kids_rd (n : Nd) (fx : List Bool) (z : Nat) (h : (tkOf n).toNat ≤ fx.length) : rdOf false (kids n fx) (z : Int) = rdOf false fx ((fx.length - (tkOf n).toNat + z : Nat) : Int) := by
  unfold kids rdOf
  rw [Int.toNat_natCast, Int.toNat_natCast, List.getD_eq_getElem?_getD, List.getD_eq_getElem?_getD, List.getElem?_drop]
end Go.Proofs.YthbnigjckjkmnaaDoor.S

namespace Go.Proofs.YthbnigjckjkmnaaDoor.S
open Go.RowKit Go.Proofs.YthbnigjckjkmnaaDoorW.PrintWords Go.Proofs.YthbnigjckjkmnaaDoorW.PrintLast Go.Proofs.YthbnigjckjkmnaaDoorW.PrintMore Go.Proofs.YthbnigjckjkmnaaDoor.Pure
theorem tyR_cons (n : Nd) (r : List Nd) (i : Nat) (out pl : List Int) (fx : List Bool) : tyR (n :: r) i out pl fx = if tyv n (kids n pl) = -1 then ([], (i : Int), 80) else if n.f0 = 8 ∧ rdOf false (kids n fx) 0 = false ∧ rdOf false (kids n fx) 1 = false then ([], (i : Int), 81) else tyR r (i + 1) (out ++ [tyv n (kids n pl)]) (rest n pl ++ [tyv n (kids n pl)]) (rest n fx ++ [fixV n (kids n fx)]) := rfl
theorem types_l0 {l : List Nd} {dims : Int} {tot : Nat} (g : Good l dims) (hl : l.length ≤ 1024) (d : Nat) : ∀ (i : Nat) (out pl : List Int) (fx : List Bool) (rs : List Nat), i + d = l.length → UInv l i out pl fx rs → pl.length ≤ i → checkL dims tot (l.drop i) i pl.length = (0, 0) →
    Ev (fun k => zAL.l0 k (cns l) out pl fx l (l.length : Int) (i : Int)) (tyR (l.drop i) i out pl fx) := by
  have hcl := cns_len l
  induction d with
  | zero =>
    intro i out pl fx rs hi hv hp hc
    rw [List.drop_of_length_le (by omega)] at hc ⊢
    have h1 : pl.length = 1 := by
      rw [checkL] at hc
      split at hc
      · omega
      · simp at hc
    refine Ev.step (fun k => by simp only [zAL.l0]; rw [if_neg (by omega)]) ?_
    exact Ev.ifp (by omega) (Ev.ite2 (Ev.now _) (Ev.now _))
  | succ d ih =>
    intro i out pl fx rs hi hv hp hc
    have h : i < l.length := by omega
    rw [List.drop_eq_getElem_cons h] at hc ⊢
    obtain ⟨h1, h2⟩ := checkL_step hc
    obtain ⟨hk, hf, h3, h4⟩ := node_ok h1
    obtain ⟨t1, t2, _, _, _, t6, t7⟩ := takes_k hk hf
    have hkids := kids_ok h1 (by omega)
    have hfl : fx.length = pl.length := by rw [hv.pl, hv.fx]; simp
    have hrl : rs.length = pl.length := by rw [hv.pl]; simp
    have ho := hv.out
    obtain ⟨s1, s2⟩ := hv.step g h (by omega) h4 (tyv l[i] (kids l[i] pl))
    generalize hn : l[i] = n at *
    obtain ⟨at_, hat⟩ : ∃ a : Nat, a = pl.length - (tkOf n).toNat := ⟨_, rfl⟩
    have hw : wrap64 ((pl.length : Int) - tkOf n) = (at_ : Int) := by rw [wrap_small (by omega) (by omega)]; omega
    have ek : kids n pl = pl.drop at_ := by unfold kids; rw [hat]
    have er : rest n pl = pl.take at_ := by unfold rest; rw [hat]
    have ekf : kids n fx = fx.drop at_ := by unfold kids; rw [hat, hfl]
    have erf : rest n fx = fx.take at_ := by unfold rest; rw [hat, hfl]
    have ec : rdOf false (cns l) (i : Int) = fixV n (kids n fx) := s1
    have hlen2 : ((rest n pl ++ [tyv n (kids n pl)]).length : Int) = pl.length + (1 - tkOf n) := by rw [er, List.length_append, List.length_take]; simp; omega
    have nx := ih (i + 1) _ _ _ _ (by omega) s2 (by omega) (by rw [hlen2]; exact h2)
    have key : Ev (fun k => zAL.j1 k (cns l) out pl fx (i : Int) n.f0 (tkOf n) l (l.length : Int) (i : Int) n.f0 n.f1 n.f2 n.f3 n.f4 n.f5) (tyR (n :: l.drop (i + 1)) i out pl fx) := by
      rw [tyR_cons]
      refine Ev.step (fun k => by simp only [zAL.j1]; rw [hw, if_pos (by omega), if_pos (by omega), if_pos (by omega), Int.toNat_natCast, ← ek, ← ekf, w_up at_ (by omega), w_up i (by omega)]) ?_
      refine Ev.bind (dyn_ev (kids n fx) hkids) ?_
      rw [← er, ← erf, ec]
      obtain ⟨t, ht⟩ : ∃ t, t = tyv n (kids n pl) := ⟨_, rfl⟩
      rw [← ht] at nx ⊢
      refine Ev.ite3 (fun _ => Ev.now _) (fun ct => ?_)
      have hrp : (rest n pl).length ≤ pl.length := by rw [er, List.length_take]; omega
      have hrf : (rest n fx).length ≤ pl.length := by rw [erf, List.length_take]; omega
      by_cases c8 : n.f0 = 8
      · have hk2 := t7 c8
        have q0 : rdOf false fx (at_ : Int) = rdOf false (kids n fx) 0 := by
          rw [show (0 : Int) = ((0 : Nat) : Int) from rfl, kids_rd n fx 0 (by omega), hat, hfl]; rfl
        have q1 : rdOf false fx ((at_ + 1 : Nat) : Int) = rdOf false (kids n fx) 1 := by
          rw [show (1 : Int) = ((1 : Nat) : Int) from rfl, kids_rd n fx 1 (by omega), hat, hfl]
        refine Ev.ifp c8 (Ev.ifp (by omega) ?_)
        rw [q0, q1]
        by_cases c0 : rdOf false (kids n fx) 0 = true
        · rw [if_neg (fun hh => by rw [c0] at hh; exact absurd hh.2.1 (by decide))]
          refine Ev.ifp c0 (Ev.ifp (by omega) (Ev.pre rfl (Ev.ifp (by omega) (Ev.pre rfl (Ev.ifp (by omega) (Ev.ifp (by omega) (Ev.ifp (by omega) nx)))))))
        · refine Ev.ifn c0 (Ev.ifp (by omega) (Ev.ifp (by omega) ?_))
          by_cases c1 : rdOf false (kids n fx) 1 = true
          · rw [if_neg (fun hh => by rw [c1] at hh; exact absurd hh.2.2 (by decide))]
            refine Ev.ifp c1 (Ev.ifp (by omega) (Ev.pre rfl (Ev.ifp (by omega) (Ev.pre rfl (Ev.ifp (by omega) (Ev.ifp (by omega) (Ev.ifp (by omega) nx)))))))
          · rw [if_pos ⟨c8, by simpa using c0, by simpa using c1⟩]
            exact Ev.ifn c1 (Ev.now _)
      · rw [if_neg (fun hh => c8 hh.1)]
        exact Ev.ifn c8 (Ev.ifp (by omega) (Ev.pre rfl (Ev.ifp (by omega) (Ev.pre rfl (Ev.ifp (by omega) (Ev.ifp (by omega) (Ev.ifp (by omega) nx)))))))
    refine Ev.step (fun k => by simp only [zAL.l0]; rw [if_pos (by omega), if_pos (by omega), if_pos (by omega), rdN l i h, hn, rules_f hk]) ?_
    refine Ev.pre rfl ?_
    by_cases c : kidsOf n.f0 < 0
    · refine Ev.ifp c ?_
      rw [t1 c] at key
      exact key
    · refine Ev.ifn c ?_
      rw [t2 (by omega)] at key
      exact key
def tyA (a0 : ByteArray) (l1 : List Dm) (a2 : Int) (l3 : List Nd) : List Int × Int × Int := if (chk a0 l1 a2 l3).2 = 0 then tyR l3 0 [] [] [] else ([], (chk a0 l1 a2 l3).1, (chk a0 l1 a2 l3).2)
theorem uinv_nil (l : List Nd) : UInv l 0 [] [] [] [] := ⟨rfl, rfl, rfl, rfl⟩
theorem types_ev {a0 : ByteArray} {l1 : List Dm} (a2 : Int) {l3 : List Nd} (h : PB a0 l1 l3) : Ev (fun k => zAL.f k a0 l1 a2 l3) (tyA a0 l1 a2 l3) := by
  unfold zAL.f tyA
  refine Ev.bind (check_ev a2 h) (Ev.ite3 (fun hc => ?_) (fun _ => Ev.now _))
  have hk := const_ev a2 h
  rw [if_pos hc] at hk
  obtain ⟨_, hl, hc', _⟩ := chk_ok hc
  refine Ev.bind hk ?_
  have := types_l0 (tot := l3.length) (good_chk hc) hl l3.length 0 [] [] [] [] (by omega) (uinv_nil l3) (by simp) hc'
  exact this
theorem rtypes_l1 (a0 : ByteArray) (l1 : List Dm) (a2 : Int) {l : List Nd} {dims : Int} (g : Good l dims) (hl : l.length ≤ 1024) (i : Nat) (hi : i < l.length) (out : List Int) (ho : out.length = i) {R : List Int × Int × Int} : ∀ (m : Nat) (j : Nat) (rs : List Nat) (ks wh : List Int), Ch l j rs → m ≤ rs.length → j ≤ i → ks.length + m ≤ 4096 → wh.length + m ≤ 4096 → m ≤ 1024 →
    (∀ z : Int, Ev (fun k => zAP.l1 k (cns l) out (i : Int) (((rs.take m).map (fun p => out.getD p 0)).reverse ++ ks) (wh ++ (rs.take m).map (fun (p : Nat) => (p : Int))) z 0 a0 l1 a2 l) R) →
    Ev (fun k => zAP.l1 k (cns l) out (i : Int) ks wh (wrap64 ((j : Int) - 1)) (m : Int) a0 l1 a2 l) R
  | 0, j, rs, ks, wh, hc, hm, hj, k1, k2, k3, hn => by simpa using hn (wrap64 ((j : Int) - 1))
  | m + 1, j, [], ks, wh, hc, hm, hj, k1, k2, k3, hn => by simp at hm
  | m + 1, j, p :: r, ks, wh, hc, hm, hj, k1, k2, k3, hn => by
    obtain ⟨e, f, hs, hc⟩ := hc
    subst e
    have hf := hs.1
    have hw : wrap64 (((p + 1 : Nat) : Int) - 1) = (p : Int) := by rw [wrap_small (by omega) (by omega)]; omega
    have hwm : wrap64 (((m + 1 : Nat) : Int) - 1) = (m : Int) := by rw [wrap_small (by omega) (by omega)]; omega
    have er : rd out (p : Int) = out.getD p 0 := rfl
    rw [hw]
    refine Ev.step (fun k => by simp only [zAP.l1]; rw [if_pos (by omega), if_pos (by omega), if_pos (by omega), hwm, er]) ?_
    refine Ev.pre rfl (Ev.ifp (by simp; omega) (Ev.ifp (by omega) ?_))
    refine Ev.bind (first_ev a0 l1 a2 g hl p f (by omega) hs) ?_
    refine rtypes_l1 a0 l1 a2 g hl i hi out ho m f r _ _ hc (by simpa using hm) (by omega) (by simp; omega) (by simp; omega) (by omega) (fun z => ?_)
    have := hn z
    simpa using this
theorem rtypes_l0 (a0 : ByteArray) (l1 : List Dm) (a2 : Int) {l : List Nd} {dims : Int} {tot : Nat} (g : Good l dims) (hl : l.length ≤ 1024) (d : Nat) : ∀ (i : Nat) (out pl : List Int) (fx : List Bool) (rs : List Nat), i + d = l.length → UInv l i out pl fx rs → pl.length ≤ i → checkL dims tot (l.drop i) i pl.length = (0, 0) →
    Ev (fun k => zAP.l0 k (cns l) out (i : Int) a0 l1 a2 l) (tyR (l.drop i) i out pl fx) := by
  have hcl := cns_len l
  induction d with
  | zero =>
    intro i out pl fx rs hi hv hp hc
    rw [List.drop_of_length_le (by omega)] at hc ⊢
    have h1 : pl.length = 1 := by
      rw [checkL] at hc
      split at hc
      · omega
      · simp at hc
    have hrl : rs.length = pl.length := by rw [hv.pl]; simp
    have ho := hv.out
    obtain ⟨p, rfl⟩ := List.length_eq_one_iff.1 (show rs.length = 1 by omega)
    obtain ⟨e, _, _, _⟩ := hv.ch
    have hp0 : pl = [out.getD p 0] := by rw [hv.pl]; rfl
    have hw : wrap64 ((out.length : Int) - 1) = (p : Int) := by rw [wrap_small (by omega) (by omega)]; omega
    have hrd : rd out (p : Int) = rd pl 0 := by rw [hp0]; rfl
    refine Ev.step (fun k => by simp only [zAP.l0]; rw [if_neg (by omega), hw, if_pos (by omega), if_pos (by omega), hrd]) ?_
    unfold tyR
    rw [hw]
    exact Ev.ite2 (Ev.now _) (Ev.now _)
  | succ d ih =>
    intro i out pl fx rs hi hv hp hc
    have h : i < l.length := by omega
    rw [List.drop_eq_getElem_cons h] at hc ⊢
    obtain ⟨h1, h2⟩ := checkL_step hc
    obtain ⟨hk, hf, h3, h4⟩ := node_ok h1
    obtain ⟨_, _, _, _, _, t6, t7⟩ := takes_k hk hf
    have hkids := kids_ok h1 (by omega)
    have hrl : rs.length = pl.length := by rw [hv.pl]; simp
    have ho := hv.out
    obtain ⟨s1, s2⟩ := hv.step g h (by omega) h4 (tyv l[i] (kids l[i] pl))
    have hkp : kids l[i] pl = ((rs.take (tkOf l[i]).toNat).map (fun p => out.getD p 0)).reverse := by rw [hv.pl]; exact (kids_rev l[i] rs _ (by omega)).1
    have hkf : kids l[i] fx = ((rs.take (tkOf l[i]).toNat).map (C l)).reverse := by rw [hv.fx]; exact (kids_rev l[i] rs _ (by omega)).1
    have hlen2 : ((rest l[i] pl ++ [tyv l[i] (kids l[i] pl)]).length : Int) = pl.length + (1 - tkOf l[i]) := by unfold rest; rw [List.length_append, List.length_take]; simp; omega
    have nx := ih (i + 1) _ _ _ _ (by omega) s2 (by omega) (by rw [hlen2]; exact h2)
    refine Ev.step (fun k => by simp only [zAP.l0]; rw [if_pos (by omega), if_pos (by omega), rdN l i h]) ?_
    refine Ev.bind (rtakes_ev l[i]) ?_
    have ekR : tkR l[i] = ((tkOf l[i]).toNat : Int) := by unfold tkR; rw [if_neg (by omega)]; omega
    rw [ekR]
    refine rtypes_l1 a0 l1 a2 g hl i h out ho (tkOf l[i]).toNat i rs [] [] hv.ch (by omega) (Nat.le_refl _) (by simp; omega) (by simp; omega) (by omega) (fun z => ?_)
    rw [List.append_nil, List.nil_append, ← hkp, tyR_cons]
    refine Ev.step (fun k => by simp only [zAP.l1]; rw [if_neg (by omega), if_pos (by omega), if_pos (by omega), rdN l i h, w_up i (by omega)]) ?_
    refine Ev.bind (rtyped_ev hkids) ?_
    obtain ⟨t, ht⟩ : ∃ t, t = tyv l[i] (kids l[i] pl) := ⟨_, rfl⟩
    rw [← ht] at nx ⊢
    refine Ev.ite3 (fun _ => Ev.now _) (fun ct => ?_)
    by_cases c8 : l[i].f0 = 8
    · have hk2 := t7 c8
      have hlt := Ch.lt rs i hv.ch
      obtain ⟨p, q, r, rfl⟩ : ∃ p q r, rs = p :: q :: r := by
        cases rs with
        | nil => simp at hrl; omega
        | cons p r1 => cases r1 with
          | nil => simp at hrl; omega
          | cons q r => exact ⟨p, q, r, rfl⟩
      have hp' := hlt p (by simp)
      have hq' := hlt q (by simp)
      rw [hk2] at hkf ⊢
      have q0 : rdOf false (kids l[i] fx) 0 = rdOf false (cns l) (q : Int) := by rw [hkf]; rfl
      have q1 : rdOf false (kids l[i] fx) 1 = rdOf false (cns l) (p : Int) := by rw [hkf]; rfl
      have w0 : rd (((p :: q :: r).take (2 : Int).toNat).map (fun (p : Nat) => (p : Int))) 0 = (p : Int) := rfl
      have w1 : rd (((p :: q :: r).take (2 : Int).toNat).map (fun (p : Nat) => (p : Int))) 1 = (q : Int) := rfl
      have wl : (((p :: q :: r).take (2 : Int).toNat).map (fun (p : Nat) => (p : Int))).length = 2 := rfl
      rw [w0, w1, wl, q0, q1]
      refine Ev.ifp c8 (Ev.ifp (by omega) (Ev.ifp (by omega) (Ev.ifp (by omega) ?_)))
      by_cases c0 : rdOf false (cns l) (p : Int) = true
      · rw [if_neg (fun hh => by rw [c0] at hh; exact absurd hh.2.2 (by decide))]
        exact Ev.ifp c0 (Ev.ifp (by omega) nx)
      · refine Ev.ifn c0 (Ev.ifp (by omega) (Ev.ifp (by omega) (Ev.ifp (by omega) ?_)))
        by_cases c1 : rdOf false (cns l) (q : Int) = true
        · rw [if_neg (fun hh => by rw [c1] at hh; exact absurd hh.2.1 (by decide))]
          exact Ev.ifp c1 (Ev.ifp (by omega) nx)
        · rw [if_pos ⟨c8, by simpa using c1, by simpa using c0⟩]
          exact Ev.ifn c1 (Ev.now _)
    · rw [if_neg (fun hh => c8 hh.1)]
      exact Ev.ifn c8 (Ev.ifp (by omega) nx)
theorem rtypes_ev {a0 : ByteArray} {l1 : List Dm} (a2 : Int) {l3 : List Nd} (h : PB a0 l1 l3) : Ev (fun k => zAP.f k a0 l1 a2 l3) (tyA a0 l1 a2 l3) := by
  unfold zAP.f tyA
  refine Ev.bind (rcheck_ev a2 h) (Ev.ite3 (fun hc => ?_) (fun _ => Ev.now _))
  have hk := rconst_ev a2 h
  rw [if_pos hc] at hk
  obtain ⟨_, hl, hc', _⟩ := chk_ok hc
  refine Ev.bind hk ?_
  have := rtypes_l0 a0 l1 a2 (tot := l3.length) (good_chk hc) hl l3.length 0 [] [] [] [] (by omega) (uinv_nil l3) (by simp) hc'
  exact this
end Go.Proofs.YthbnigjckjkmnaaDoor.S

namespace Go.Proofs.YthbnigjckjkmnaaDoor.S
open Go.RowKit Go.Proofs.YthbnigjckjkmnaaDoorW.PrintWords Go.Proofs.YthbnigjckjkmnaaDoorW.PrintLast Go.Proofs.YthbnigjckjkmnaaDoorW.PrintMore Go.Proofs.YthbnigjckjkmnaaDoor.Pure
theorem ints8_l0 (xs ys : List Int) (hl : xs.length ≤ 140737488351232) (he : xs.length = ys.length) (d : Nat) : ∀ i, i + d = xs.length → Ev (fun k => zAb.l0 k xs ys (i : Int)) (decide (xs.drop i = ys.drop i)) := by
  induction d with
  | zero =>
    intro i hi
    rw [List.drop_of_length_le (by omega), List.drop_of_length_le (by omega)]
    exact Ev.step (f := fun _ => some true) (fun k => by simp only [zAb.l0]; rw [if_neg (by omega)]) (Ev.now _)
  | succ d ih =>
    intro i hi
    have h : i < xs.length := by omega
    have h' : i < ys.length := by omega
    refine Ev.step (fun k => by simp only [zAb.l0]; rw [if_pos (by omega), if_pos (by omega), if_pos (by omega), rdI xs i h, rdI ys i h', w_up i (by omega)]) ?_
    rw [List.drop_eq_getElem_cons h, List.drop_eq_getElem_cons h']
    by_cases c : xs[i] = ys[i]
    · refine Ev.ifp c (Ev.both (ih (i + 1) (by omega)) ?_)
      simp only [List.cons.injEq, c, true_and]
    · refine Ev.ifn c (Ev.both (Ev.now _) ?_)
      simp only [List.cons.injEq, c, false_and, decide_false]
theorem ints8_ev (xs ys : List Int) (hl : xs.length ≤ 140737488351232) : Ev (fun k => zAb.f k xs ys) (decide (xs = ys)) := by
  unfold zAb.f
  by_cases he : xs.length = ys.length
  · refine Ev.ifp (by omega) ?_
    have := ints8_l0 xs ys hl he xs.length 0 (by omega)
    simpa using this
  · refine Ev.ifn (by omega) (Ev.both (Ev.now _) ?_)
    have : xs ≠ ys := fun e => he (by rw [e])
    simp [this]
theorem five_ty : tyA (⟨#[112]⟩ : ByteArray) fiveD 0 five = ([2, 1, 1, 1, 1], 0, 0) := by decide +kernel
theorem one_ty : tyA (⟨#[112]⟩ : ByteArray) fiveD 0 (five.take 1) = ([], 0, 80) := by decide +kernel
theorem one_PB : PB (⟨#[112]⟩ : ByteArray) fiveD (five.take 1) := ⟨five_PB.1, five_PB.2, five_PB.3, by decide, fun n hn => five_PB.tiers n (List.mem_of_mem_take hn)⟩
theorem awake8_ev : Ev (fun k => octroilaw08_awake.f k) true := by
  unfold octroilaw08_awake.f
  have h1 := types_ev 0 five_PB
  have h2 := types_ev 0 one_PB
  rw [five_ty] at h1
  rw [one_ty] at h2
  refine Ev.pre rfl (Ev.pre rfl (Ev.bind h1 (Ev.ifp (by decide) (Ev.bind h2 ?_))))
  refine Ev.ifp rfl (Ev.ifp rfl (Ev.bind (ints8_ev _ _ (by decide)) ?_))
  exact Ev.ifp (by decide) (Ev.ifp rfl (Ev.now _))
theorem tyR_len : ∀ (r : List Nd) (i : Nat) (out pl : List Int) (fx : List Bool), (tyR r i out pl fx).1.length ≤ out.length + r.length ∧ ((tyR r i out pl fx).2.2 = 0 → (tyR r i out pl fx).1.length = out.length + r.length ∧ (tyR r i out pl fx).2.1 = 0)
  | [], i, out, pl, fx => by
    unfold tyR
    split <;> simp
  | n :: r, i, out, pl, fx => by
    rw [tyR_cons]
    split
    · simp
    · split
      · simp
      · have := tyR_len r (i + 1) (out ++ [tyv n (kids n pl)]) (rest n pl ++ [tyv n (kids n pl)]) (rest n fx ++ [fixV n (kids n fx)])
        simp only [List.length_append, List.length_cons, List.length_nil] at this ⊢
        omega
theorem tyA_len {a0 : ByteArray} {l1 : List Dm} {a2 : Int} {l3 : List Nd} : (tyA a0 l1 a2 l3).1.length ≤ 1024 := by
  unfold tyA
  split
  · rename_i hc
    have := (tyR_len l3 0 [] [] []).1
    have := (chk_ok hc).2.1
    simp at *
    omega
  · simp
end Go.Proofs.YthbnigjckjkmnaaDoor.S

namespace Go.Proofs.YthbnigjckjkmnaaDoor.S
open Go.RowKit Go.Proofs.YthbnigjckjkmnaaDoorW.PrintWords Go.Proofs.YthbnigjckjkmnaaDoorW.PrintLast Go.Proofs.YthbnigjckjkmnaaDoorW.PrintMore Go.Proofs.YthbnigjckjkmnaaDoor.Pure
theorem UnitsTypes (a0 : ByteArray) (l1 : List Dm) (a2 : Int) (l3 : List Nd) (h : PB2 a0 l1 a2 l3) :
    ∃ k, octroilaw08_UnitsTypes.f k a0 l1 a2 l3 = some true := by
  refine Ev.rounds (g := fun k => octroilaw08_UnitsTypes.f k a0 l1 a2 l3) ?_
  unfold octroilaw08_UnitsTypes.f
  have hl : (tyA a0 l1 a2 l3).1.length ≤ 1024 := tyA_len
  refine Ev.bind awake8_ev (Ev.ifp rfl (Ev.bind (types_ev a2 h.pb) (Ev.bind (rtypes_ev a2 h.pb) (Ev.ifp rfl (Ev.ifp rfl (Ev.bind (ints8_ev _ _ (by omega)) ?_))))))
  exact Ev.both (Ev.now _) (decide_eq_true rfl)
end Go.Proofs.YthbnigjckjkmnaaDoor.S
