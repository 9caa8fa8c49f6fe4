/- ScanNames in plain words: what is a word, and what is a name. -/
import Derived.Test.YtfkikmiajldojaaSfOctroilaw04ScanNames
import Derived.Test.YtfkikmiajldojaaScanAwake
import Derived.Test.YtfkikmiajldojaaScanRef
import Derived.Test.YtfkikmiajldojaaScanMore
set_option linter.unusedVariables false
set_option linter.unusedSimpArgs false
namespace Go.Proofs.Ytfkikmiajldojaa.S
open Go.RowKit Go.Proofs.YtfkikmiajldojaaW.PrintWords Go.Proofs.YtfkikmiajldojaaW.PrintLast Go.Proofs.YtfkikmiajldojaaW.PrintMore Go.Proofs.Ytfkikmiajldojaa.Pure

/-! ### words in a row, with a blank ahead of and behind each -/
def flatW : List (List UInt8) → List UInt8
  | [] => []
  | w :: ws => w ++ 32 :: flatW ws

theorem contains_cons (b : UInt8) (l n : List UInt8) : Lib.contains (b :: l) n = (n.isPrefixOf (b :: l) || Lib.contains l n) := by
  have hge := Lib.index_ge l n
  have hi : Lib.index (b :: l) n = (if n.isPrefixOf (b :: l) then 0 else if Lib.index l n == -1 then -1 else Lib.index l n + 1) := rfl
  rw [Bool.eq_iff_iff]
  unfold Lib.contains
  rw [Bool.or_eq_true, decide_eq_true_iff, decide_eq_true_iff, hi]
  by_cases hp : n.isPrefixOf (b :: l) = true
  · rw [if_pos hp]; simp [hp]
  · rw [if_neg hp]
    by_cases hx : Lib.index l n = -1
    · rw [hx]; simp [hp]
    · have : (Lib.index l n == -1) = false := by simpa using hx
      rw [this]
      simp only [Bool.false_eq_true, if_false]
      constructor
      · intro _; exact .inr (by omega)
      · intro _; omega

theorem runL_yes {p : Int → Bool} {c : UInt8} {r : List UInt8} (h : p (c.toNat : Int) = true) : runL p (c :: r) = runL p r + 1 := if_pos h
theorem runL_no {p : Int → Bool} {c : UInt8} {r : List UInt8} (h : ¬ p (c.toNat : Int) = true) : runL p (c :: r) = 0 := if_neg h

theorem pre_words (s w r : List UInt8) (hs : ∀ c ∈ s, c ≠ 32) (hw : ∀ c ∈ w, c ≠ 32) : (s ++ [32]).isPrefixOf (w ++ 32 :: r) = decide (s = w) := by
  induction s generalizing w with
  | nil =>
    cases w with
    | nil => simp [List.isPrefixOf]
    | cons b w =>
      have := hw b (by simp)
      simp [List.isPrefixOf, this]
      exact fun h => this h.symm
  | cons a s ih =>
    cases w with
    | nil =>
      have := hs a (by simp)
      simp [List.isPrefixOf, this]
    | cons b w =>
      have h1 := ih w (fun c hc => hs c (by simp [hc])) (fun c hc => hw c (by simp [hc]))
      simp only [List.cons_append, List.isPrefixOf, h1]
      by_cases hab : a = b
      · subst hab; simp
      · simp [hab]

theorem skip_word (w t n : List UInt8) (hw : ∀ c ∈ w, c ≠ 32) : Lib.contains (w ++ t) (32 :: n) = Lib.contains t (32 :: n) := by
  induction w with
  | nil => rfl
  | cons b w ih =>
    have hb := hw b (by simp)
    rw [List.cons_append, contains_cons, ih (fun c hc => hw c (by simp [hc]))]
    have : (32 :: n).isPrefixOf (b :: (w ++ t)) = false := by
      simp [List.isPrefixOf]
      exact fun h => absurd h.symm hb
    rw [this, Bool.false_or]

theorem contains_words (s : List UInt8) (ws : List (List UInt8)) (hs : ∀ c ∈ s, c ≠ 32) (hw : ∀ w ∈ ws, ∀ c ∈ w, c ≠ 32) :
    Lib.contains (32 :: flatW ws) (32 :: (s ++ [32])) = decide (s ∈ ws) := by
  induction ws with
  | nil =>
    rw [flatW, contains_cons]
    have h1 : (32 :: (s ++ [32])).isPrefixOf [32] = false := by
      cases s <;> simp [List.isPrefixOf]
    have h2 : Lib.contains [] (32 :: (s ++ [32])) = false := rfl
    rw [h1, h2]
    simp
  | cons w ws ih =>
    have h1 : (32 :: (s ++ [32])).isPrefixOf (32 :: (w ++ 32 :: flatW ws)) = decide (s = w) := by
      rw [List.isPrefixOf, pre_words s w _ hs (hw w (by simp))]
      simp
    rw [flatW, contains_cons, h1, skip_word w _ _ (hw w (by simp)), ih (fun v hv => hw v (by simp [hv]))]
    simp [Bool.decide_or]

def wordsL : List (List UInt8) := [[112, 108, 97, 110], [114, 111, 117, 110, 100], [98, 121], [98, 108, 111, 99, 107, 115], [109, 105, 110], [109, 97, 120], [111, 118, 101, 114], [117, 112, 116, 111], [103, 114, 97, 100, 117, 97, 116, 101, 100], [118, 111, 108, 117, 109, 101], [111, 102, 102], [105, 102], [102, 108, 111, 111, 114], [99, 101, 105, 108], [122, 101, 114, 111], [104, 97, 108, 102], [101, 118, 101, 110]]

theorem words_letters : ∀ w ∈ wordsL, w ≠ [] ∧ runL isLetter w = w.length := by decide
theorem words_blank : ∀ w ∈ wordsL, ∀ c ∈ w, c ≠ 32 := by decide

theorem runL_all (p : Int → Bool) (l : List UInt8) (h : runL p l = l.length) : ∀ c ∈ l, p (c.toNat : Int) = true := by
  have := runL_take_all p l
  rw [h, List.take_length] at this
  exact this

theorem word_f (s : ByteArray) (hs : s.size ≤ 140737488351232) : scan_Word.f s = some (decide (bs s ∈ wordsL)) := by
  unfold scan_Word.f
  rw [ByteArray.toList_eq]
  by_cases h0 : bs s = []
  · rw [if_pos h0]
    have : ¬ (bs s ∈ wordsL) := fun h => (words_letters _ h).1 h0
    rw [decide_eq_false this]
  · rw [if_neg h0]
    have hlen : ((⟨#[32]⟩ : ByteArray) ++ s).size = 1 + s.size := by rw [ByteArray.size_append]; rfl
    unfold scan_run_letter.f
    rw [if_pos (by omega), Option.bind_some]
    by_cases hr : runL isLetter (bs s) = s.size
    · rw [if_pos (by exact congrArg Int.ofNat hr), if_pos (by omega), if_pos (by omega)]
      unfold strings_Contains.f
      rw [if_pos (by decide), Option.bind_some]
      congr 1
      have hbs : (((⟨#[32]⟩ : ByteArray) ++ s) ++ (⟨#[32]⟩ : ByteArray)).data.toList = 32 :: (bs s ++ [32]) := by
        rw [ByteArray.data_append, ByteArray.data_append, Array.toList_append, Array.toList_append]
        rfl
      rw [hbs]
      exact contains_words (bs s) wordsL (fun c hc h => by
        have := runL_all isLetter (bs s) (by rw [hr, bs_len]) c hc
        subst h
        exact absurd this (by decide)) words_blank
    · rw [if_neg (by intro h; exact hr (Int.ofNat.inj h))]
      have : ¬ (bs s ∈ wordsL) := fun h => hr (by rw [(words_letters _ h).2, bs_len])
      rw [decide_eq_false this]

theorem rword_l0 (s : ByteArray) (L : List ByteArray) (hL : L.length ≤ 100) (d : Nat) : ∀ (k i : Nat), i ≤ L.length → L.length - i ≤ d → d < k →
    octroiref04_Word.l0 k s L (i : Int) = some (decide (bs s ∈ (L.drop i).map bs)) := by
  induction d with
  | zero =>
    intro k i h0 h1 hk
    obtain ⟨k, rfl⟩ : ∃ m, k = m + 1 := ⟨k - 1, by omega⟩
    simp only [octroiref04_Word.l0]
    rw [if_neg (by omega), List.drop_of_length_le (by omega)]
    simp
  | succ d ih =>
    intro k i h0 h1 hk
    obtain ⟨k, rfl⟩ : ∃ m, k = m + 1 := ⟨k - 1, by omega⟩
    rcases Nat.lt_or_ge i L.length with hlt | hge
    · have hnext := ih k (i + 1) (by omega) (by omega) (by omega)
      have hw : wrap64 ((i : Int) + 1) = ((i + 1 : Nat) : Int) := by rw [wrap_small (by omega) (by omega)]; omega
      have hrd : rdOf ByteArray.empty L (i : Int) = L[i] := by
        rw [rdOf, Int.toNat_natCast, List.getD_eq_getElem?_getD, List.getElem?_eq_getElem hlt]; rfl
      simp only [octroiref04_Word.l0]
      rw [if_pos (Int.ofNat_lt.2 hlt), if_pos (Int.natCast_nonneg _), hrd, hw, hnext, ByteArray.toList_eq, ByteArray.toList_eq]
      rw [List.drop_eq_getElem_cons hlt, List.map_cons]
      by_cases he : bs L[i] = bs s
      · rw [if_pos he, decide_eq_true (by simp [he])]
      · rw [if_neg he]
        congr 1
        have : ¬ bs s = bs L[i] := fun h => he h.symm
        simp [this]
    · simp only [octroiref04_Word.l0]
      rw [if_neg (by omega), List.drop_of_length_le (by omega)]
      simp

theorem rword_f (s : ByteArray) (k : Nat) (hk : 17 < k) : octroiref04_Word.f k s = some (decide (bs s ∈ wordsL)) := by
  unfold octroiref04_Word.f octroiref04_words.f
  rw [Option.bind_some]
  exact rword_l0 s _ (by decide) 17 k 0 (by decide) (by decide) hk

/-! ### names -/
def nameB (l : List UInt8) : Bool := decide (0 < l.length) && decide (l.length ≤ 32) && (match l with | [] => false | c :: _ => isLetter (c.toNat : Int)) && decide (runL isInner l = l.length) && !decide (l ∈ wordsL)

theorem name_f (s : ByteArray) (hs : s.size ≤ 140737488351232) : scan_Name.f s = some (nameB (bs s)) := by
  have hbl := bs_len s
  unfold scan_Name.f nameB
  rw [ByteArray.toList_eq]
  by_cases h0 : bs s = []
  · rw [if_pos h0, h0]; rfl
  · have hpos : 0 < s.size := by rw [← hbl]; exact List.length_pos_iff.2 h0
    rw [if_neg h0, hbl, decide_eq_true hpos, Bool.true_and]
    by_cases h32 : s.size ≤ 32
    · have hb := bt_nat s 0 hpos
      obtain ⟨r, hr, _⟩ := bt_drop s 0 hpos
      rw [List.drop_zero] at hr
      have hb' : bt s 0 = (((bs s)[0]'(by rw [hbl]; exact hpos)).toNat : Int) := hb
      rw [if_pos (by omega), if_pos (by omega), letter_f, Option.bind_some, decide_eq_true h32, Bool.true_and, hb']
      have hm : (match bs s with | [] => false | c :: _ => isLetter (c.toNat : Int)) = isLetter (((bs s)[0]'(by rw [hbl]; exact hpos)).toNat : Int) := by
        generalize (bs s)[0]'(by rw [hbl]; exact hpos) = c at hr ⊢
        rw [hr]
      rw [hm]
      cases hl : isLetter (((bs s)[0]'(by rw [hbl]; exact hpos)).toNat : Int) with
      | false => rw [if_neg (by decide)]; simp
      | true =>
        rw [if_pos rfl, word_f s hs]
        unfold scan_run_inner.f
        rw [if_pos (by omega), Option.bind_some, Option.bind_some, Bool.true_and]
        by_cases hr : runL isInner (bs s) = s.size
        · rw [if_pos (by exact congrArg Int.ofNat hr), decide_eq_true hr, Bool.true_and]
        · rw [if_neg (by intro h; exact hr (Int.ofNat.inj h)), decide_eq_false hr]; rfl
    · rw [if_neg (by omega), decide_eq_false h32]; simp

theorem rname_l0 (s : ByteArray) (hs : s.size ≤ 140737488351232) (d : Nat) : ∀ (k i : Nat), i ≤ s.size → s.size - i ≤ d → d < k →
    octroiref04_Name.l0 k s (i : Int) = some (decide (runL isInner ((bs s).drop i) = s.size - i)) := by
  induction d with
  | zero =>
    intro k i h0 h1 hk
    obtain ⟨k, rfl⟩ : ∃ m, k = m + 1 := ⟨k - 1, by omega⟩
    simp only [octroiref04_Name.l0]
    rw [if_neg (by omega), List.drop_of_length_le (by rw [bs_len]; omega), decide_eq_true (by simp [runL]; omega)]
  | succ d ih =>
    intro k i h0 h1 hk
    obtain ⟨k, rfl⟩ : ∃ m, k = m + 1 := ⟨k - 1, by omega⟩
    rcases Nat.lt_or_ge i s.size with hlt | hge
    · have hnext := ih k (i + 1) (by omega) (by omega) (by omega)
      have hb := bt_nat s i hlt
      obtain ⟨r, hr, hr2⟩ := bt_drop s i hlt
      generalize hc : (bs s)[i]'(by rw [bs_len]; exact hlt) = c at hb hr
      have hd : decide (runL isInner ((bs s).drop i) = s.size - i) = (isInner (c.toNat : Int) && decide (runL isInner ((bs s).drop (i + 1)) = s.size - (i + 1))) := by
        rw [hr, ← hr2]
        by_cases hi : isInner (c.toNat : Int) = true
        · rw [runL_yes hi, hi, Bool.true_and]
          by_cases h : runL isInner r = s.size - (i + 1)
          · rw [decide_eq_true h, decide_eq_true (by omega)]
          · rw [decide_eq_false h, decide_eq_false (by omega)]
        · rw [runL_no hi, decide_eq_false (by omega)]
          have : isInner (c.toNat : Int) = false := by simpa using hi
          rw [this, Bool.false_and]
      have hw : wrap64 ((i : Int) + 1) = ((i + 1 : Nat) : Int) := by rw [wrap_small (by omega) (by omega)]; omega
      rw [hd]
      simp only [octroiref04_Name.l0]
      rw [if_pos (Int.ofNat_lt.2 hlt), if_pos (Int.natCast_nonneg _), hb, hw, hnext, rLetter_f, Option.bind_some, rDigit_f, Option.bind_some]
      unfold isInner
      by_cases h1 : isLetter (c.toNat : Int) = true
      · rw [if_pos h1, h1]; simp
      · have h1' : isLetter (c.toNat : Int) = false := by simpa using h1
        rw [if_neg h1, h1', Bool.false_or]
        by_cases h2 : isDigit (c.toNat : Int) = true
        · rw [if_pos h2, h2]; simp
        · have h2' : isDigit (c.toNat : Int) = false := by simpa using h2
          rw [if_neg h2, h2', Bool.false_or]
          by_cases h3 : (c.toNat : Int) = 95
          · rw [if_pos h3, h3]; simp
          · have : ((c.toNat : Int) == 95) = false := by simpa using h3
            rw [if_neg h3, this, Bool.false_and]
    · simp only [octroiref04_Name.l0]
      rw [if_neg (by omega), List.drop_of_length_le (by rw [bs_len]; omega), decide_eq_true (by simp [runL]; omega)]

theorem rname_f (s : ByteArray) (hs : s.size ≤ 140737488351232) (k : Nat) (hk : s.size + 20 < k) : octroiref04_Name.f k s = some (nameB (bs s)) := by
  have hbl := bs_len s
  obtain ⟨k, rfl⟩ : ∃ m, k = m + 1 := ⟨k - 1, by omega⟩
  unfold octroiref04_Name.f
  by_cases h0 : s.size = 0
  · have hn : bs s = [] := List.eq_nil_of_length_eq_zero (by rw [hbl]; exact h0)
    rw [if_pos (by omega), hn]
    simp only [octroiref04_Name.j0]
    rfl
  have hpos : 0 < s.size := by omega
  unfold nameB
  rw [if_neg (by omega), hbl, decide_eq_true hpos, Bool.true_and]
  by_cases h32 : s.size ≤ 32
  · have hb := bt_nat s 0 hpos
    obtain ⟨r, hr, _⟩ := bt_drop s 0 hpos
    rw [List.drop_zero] at hr
    have hb' : bt s 0 = (((bs s)[0]'(by rw [hbl]; exact hpos)).toNat : Int) := hb
    rw [if_neg (by omega), if_pos (by omega), rLetter_f, Option.bind_some, decide_eq_true h32, Bool.true_and, hb']
    have hm : (match bs s with | [] => false | c :: _ => isLetter (c.toNat : Int)) = isLetter (((bs s)[0]'(by rw [hbl]; exact hpos)).toNat : Int) := by
      generalize (bs s)[0]'(by rw [hbl]; exact hpos) = c at hr ⊢
      rw [hr]
    rw [hm]
    generalize (bs s)[0]'(by rw [hbl]; exact hpos) = c at hr ⊢
    cases hl : isLetter (c.toNat : Int) with
    | false => rw [if_neg (by decide)]; simp only [octroiref04_Name.j0]; simp
    | true =>
      rw [if_pos rfl, rword_f s (k + 1) (by omega), Option.bind_some, Bool.true_and]
      simp only [octroiref04_Name.j0]
      by_cases hw : bs s ∈ wordsL
      · rw [decide_eq_true hw]; simp
      · rw [decide_eq_false hw, if_neg (by decide)]
        have h1 := rname_l0 s hs s.size k 1 (by omega) (by omega) (by omega)
        have h2 : (octroiref04_Name.l0 k s 1) = octroiref04_Name.l0 k s ((1 : Nat) : Int) := rfl
        rw [h2, h1]
        have hin : isInner (c.toNat : Int) = true := isInner_of_letter hl
        have hr1 : (bs s).drop 1 = r := by rw [hr]; rfl
        rw [hr1, hr, runL_yes hin]
        congr 1
        by_cases h : runL isInner r = s.size - 1
        · rw [decide_eq_true h, decide_eq_true (by omega)]; rfl
        · rw [decide_eq_false h, decide_eq_false (by omega)]; rfl
  · rw [if_pos (by omega), decide_eq_false h32]
    simp only [octroiref04_Name.j0]
    simp

/-! ### the law -/
theorem names_l0 (L : List ByteArray) (hL : L.length ≤ 140737488351232) (M : Nat) (hM : ∀ s ∈ L, s.size ≤ M) (hM2 : M ≤ 140737488351232) (d : Nat) : ∀ (k i : Nat), i ≤ L.length → L.length - i ≤ d → d + M + 20 < k →
    octroilaw04_ScanNames.l0 k L (i : Int) = some true := by
  induction d with
  | zero =>
    intro k i h0 h1 hk
    obtain ⟨k, rfl⟩ : ∃ m, k = m + 1 := ⟨k - 1, by omega⟩
    simp only [octroilaw04_ScanNames.l0]
    rw [if_neg (by omega)]
  | succ d ih =>
    intro k i h0 h1 hk
    obtain ⟨k, rfl⟩ : ∃ m, k = m + 1 := ⟨k - 1, by omega⟩
    rcases Nat.lt_or_ge i L.length with hlt | hge
    · have hnext := ih k (i + 1) (by omega) (by omega) (by omega)
      have hrd : rdOf ByteArray.empty L (i : Int) = L[i] := by
        rw [rdOf, Int.toNat_natCast, List.getD_eq_getElem?_getD, List.getElem?_eq_getElem hlt]; rfl
      have hsz := hM L[i] (List.getElem_mem hlt)
      have q1 := word_f L[i] (by omega)
      have q2 := rword_f L[i] k (by omega)
      have q3 := name_f L[i] (by omega)
      have q4 := rname_f L[i] (by omega) k (by omega)
      have hw : wrap64 ((i : Int) + 1) = ((i + 1 : Nat) : Int) := by rw [wrap_small (by omega) (by omega)]; omega
      simp only [octroilaw04_ScanNames.l0]
      rw [if_pos (Int.ofNat_lt.2 hlt), if_pos (Int.natCast_nonneg _), hrd, hw, hnext, q1, q2, q3, q4]
      simp
    · simp only [octroilaw04_ScanNames.l0]
      rw [if_neg (by omega)]

theorem ScanNames : ∀ (l0 : List ByteArray), l0.length ≤ 140737488351232 → (∀ s ∈ l0, s.size ≤ 140737488351232) → ∃ k, octroilaw04_ScanNames.f k l0 = some true := by
  intro L hL hM
  obtain ⟨K0, h0⟩ := awake_on
  obtain ⟨k, hk0, hk1⟩ : ∃ k, K0 ≤ k ∧ L.length + 140737488351232 + 20 < k := ⟨K0 + (L.length + 140737488351232 + 21), by omega, by omega⟩
  refine ⟨k, ?_⟩
  unfold octroilaw04_ScanNames.f
  rw [h0 _ hk0, Option.bind_some, if_pos rfl]
  exact names_l0 L hL _ hM (Nat.le_refl _) L.length k 0 (by omega) (by omega) hk1
end Go.Proofs.Ytfkikmiajldojaa.S
