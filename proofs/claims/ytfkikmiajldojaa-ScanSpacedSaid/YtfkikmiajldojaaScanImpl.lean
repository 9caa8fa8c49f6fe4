/- What the program's Scan, Word and Name answer, in the plain words: the printed functions of package scan come to the plain scan of the text's bytes. -/
import Derived.Test.YtfkikmiajldojaaSfScanScan
import Derived.Test.YtfkikmiajldojaaScanPure
set_option linter.unusedVariables false
set_option linter.unusedSimpArgs false
namespace Go.Proofs.Ytfkikmiajldojaa.S
open Go.RowKit Go.Proofs.YtfkikmiajldojaaW.PrintWords Go.Proofs.YtfkikmiajldojaaW.PrintLast Go.Proofs.YtfkikmiajldojaaW.PrintMore Go.Proofs.Ytfkikmiajldojaa.Pure

/-- A text's bytes. -/
abbrev bs (s : ByteArray) : List UInt8 := s.data.toList
theorem bs_len (s : ByteArray) : (bs s).length = s.size := by rw [bs, Array.length_toList]; rfl
theorem bt_nat (s : ByteArray) (i : Nat) (h : i < s.size) : bt s (i : Int) = (((bs s)[i]'(by rw [bs_len]; exact h)).toNat : Int) := by
  unfold bt
  rw [dif_pos (by simpa using h)]
  rfl
theorem bt_drop (s : ByteArray) (i : Nat) (h : i < s.size) : ∃ r, (bs s).drop i = (bs s)[i]'(by rw [bs_len]; exact h) :: r ∧ r = (bs s).drop (i + 1) :=
  ⟨_, List.drop_eq_getElem_cons (by rw [bs_len]; exact h), rfl⟩
theorem bs_extract (s : ByteArray) (a b : Nat) : bs (s.extract a b) = ((bs s).take b).drop a := by
  simp [bs, ByteArray.data_extract, Array.toList_extract, List.extract_eq_take_drop, List.drop_take]
theorem bs_from (s : ByteArray) (a : Nat) : bs (s.extract a s.size) = (bs s).drop a := by
  rw [bs_extract, List.take_of_length_le (by rw [bs_len]; omega)]
theorem bs_upto (s : ByteArray) (b : Nat) : bs (s.extract 0 b) = (bs s).take b := by rw [bs_extract]; rfl
theorem wrap_small {x : Int} (h0 : -9223372036854775808 ≤ x) (h1 : x ≤ 9223372036854775807) : wrap64 x = x := by unfold wrap64; omega

theorem gap_true (l : List UInt8) : gapL true l = runL notNl l + gapL false (l.drop (runL notNl l)) := by
  induction l with
  | nil => simp [gapL, runL]
  | cons c r ih =>
    by_cases h : c = 10
    · subst h
      simp [gapL, runL, notNl, isBlank]
    · have hc : (c.toNat : Int) ≠ 10 := fun e => h (UInt8.toNat_inj.1 (by simpa using (by omega : c.toNat = 10)))
      have hb : (c != 10) = true := by simp [h]
      have hn : notNl (c.toNat : Int) = true := by simp [notNl, hc]
      simp only [gapL, runL, hb, hn, if_true, ih]
      rw [List.drop_succ_cons]
      omega

theorem size_from (s : ByteArray) (a : Nat) (h : a ≤ s.size) : (s.extract a s.size).size = s.size - a := by
  rw [← bs_len, bs_from, List.length_drop, bs_len]

theorem gap_l0 (s : ByteArray) (hs : s.size ≤ 140737488351232) (d : Nat) : ∀ (k i : Nat), i ≤ s.size → s.size - i ≤ d → 2 * d + 1 < k →
    scan_gap.l0 k s i = some ((i + gapL false ((bs s).drop i) : Nat) : Int) := by
  induction d with
  | zero =>
    intro k i h0 h1 hk
    obtain ⟨k, rfl⟩ : ∃ m, k = m + 1 := ⟨k - 1, by omega⟩
    have hi : (bs s).drop i = [] := List.drop_eq_nil_of_le (by rw [bs_len]; omega)
    simp only [scan_gap.l0]
    rw [if_neg (by omega), hi]
    simp [gapL]
  | succ d ih =>
    intro k i h0 h1 hk
    obtain ⟨k, rfl⟩ : ∃ m, k = m + 2 := ⟨k - 2, by omega⟩
    rcases Nat.lt_or_ge i s.size with hlt | hge
    · obtain ⟨r, hr, hr'⟩ := bt_drop s i hlt
      have hb := bt_nat s i hlt
      have hnext : scan_gap.l0 k s (wrap64 ((i : Int) + 1)) = some ((i + 1 + gapL false ((bs s).drop (i + 1)) : Nat) : Int) := by
        have := ih k (i + 1) (by omega) (by omega) (by omega)
        rw [wrap_small (by omega) (by omega)]
        exact_mod_cast this
      generalize (bs s)[i]'(by rw [bs_len]; exact hlt) = c at hr hb
      have hcase : ∀ n : Nat, n < 256 → ((c.toNat : Int) = n ↔ c = UInt8.ofNat n) := fun n hn => by
        constructor
        · intro e
          exact UInt8.toNat_inj.1 (by simp [Nat.mod_eq_of_lt hn]; omega)
        · rintro rfl
          simp [Nat.mod_eq_of_lt hn]
      simp only [scan_gap.l0, scan_gap.j1]
      rw [if_pos (by omega), if_pos (by omega), hb, hr]
      by_cases e1 : c = 32
      · subst e1
        simp only [gapL]
        simp [isBlank, hnext, hr']
        omega
      by_cases e2 : c = 9
      · subst e2
        simp only [gapL]
        simp [isBlank, hnext, hr']
        omega
      by_cases e3 : c = 10
      · subst e3
        simp only [gapL]
        simp [isBlank, hnext, hr']
        omega
      by_cases e4 : c = 13
      · subst e4
        simp only [gapL]
        simp [isBlank, hnext, hr']
        omega
      have f1 : ¬ (c.toNat : Int) = 32 := fun e => e1 ((hcase 32 (by omega)).1 e)
      have f2 : ¬ (c.toNat : Int) = 9 := fun e => e2 ((hcase 9 (by omega)).1 e)
      have f3 : ¬ (c.toNat : Int) = 10 := fun e => e3 ((hcase 10 (by omega)).1 e)
      have f4 : ((c.toNat : Int) == 13) = false := by simpa using fun e => e4 ((hcase 13 (by omega)).1 (by exact_mod_cast e))
      rw [if_neg f1, if_neg f2, if_neg f3, f4]
      simp only [Bool.false_eq_true, if_false]
      by_cases e5 : c = 35
      · subst e5
        have hrun : scan_run_gap_1.f (s.extract (i : Int).toNat s.size) = some ((runL notNl (35 :: r) : Nat) : Int) := by
          unfold scan_run_gap_1.f
          rw [Int.toNat_natCast, if_pos (by rw [size_from s i h0]; omega)]
          have : (s.extract i s.size).data.toList = 35 :: r := by rw [← hr]; exact bs_from s i
          rw [this]
        have hle := runL_le notNl (35 :: r)
        have hlen : (35 :: r : List UInt8).length = s.size - i := by rw [← hr, List.length_drop, bs_len]
        have hpos : 0 < runL notNl (35 :: r) := runL_pos (by decide)
        rw [if_pos (by decide), if_pos (by omega), if_pos (by omega), hrun]
        simp only [Option.bind_some]
        rw [wrap_small (by omega) (by omega)]
        have := ih k (i + runL notNl (35 :: r)) (by omega) (by omega) (by omega)
        have hg := gap_true (35 :: r)
        have h35 : gapL false (35 :: r) = gapL true (35 :: r) := by simp [gapL]
        rw [h35, hg]
        rw [show ((i : Int) + (runL notNl (35 :: r) : Nat)) = ((i + runL notNl (35 :: r) : Nat) : Int) by omega, this]
        rw [← hr, List.drop_drop]
        simp only [Nat.add_assoc]
      · have f5 : ¬ (c.toNat : Int) = 35 := fun e => e5 ((hcase 35 (by omega)).1 e)
        rw [if_neg f5]
        have : gapL false (c :: r) = 0 := by
          simp only [gapL]
          simp [isBlank, e1, e2, e3, e4, e5]
        rw [this]
        simp
    · obtain rfl : i = s.size := by omega
      have hi : (bs s).drop s.size = [] := List.drop_eq_nil_of_le (by rw [bs_len]; omega)
      simp only [scan_gap.l0]
      rw [if_neg (by omega), hi]
      simp [gapL]

theorem gap_f (s : ByteArray) (hs : s.size ≤ 140737488351232) (k : Nat) (hk : 2 * s.size + 1 < k) : scan_gap.f k s = some ((gapL false (bs s) : Nat) : Int) := by
  have := gap_l0 s hs s.size k 0 (by omega) (by omega) hk
  unfold scan_gap.f
  simpa using this

/-! ### numbers -/
def numF (n : Nat) (l : List UInt8) : Nat := l.foldl (fun n c => 10 * n + (c.toNat - 48)) n
theorem numF_ge (n : Nat) (l : List UInt8) : n ≤ numF n l := by
  induction l generalizing n with
  | nil => exact Nat.le_refl _
  | cons c r ih => exact Nat.le_trans (by omega) (ih (10 * n + (c.toNat - 48)))
theorem numL_eq (l : List UInt8) : numL l = numF 0 l := rfl

theorem number_l0 (s : ByteArray) (hs : s.size ≤ 140737488351232) (hd : ∀ c ∈ bs s, isDigit (c.toNat : Int) = true) (d : Nat) : ∀ (k i n : Nat), i ≤ s.size → s.size - i ≤ d → d < k → n ≤ 1000000000000 →
    scan_number.l0 k s (n : Int) (s.size : Int) i = some (if numF n ((bs s).drop i) > 1000000000000 then ((0 : Int), false) else (((numF n ((bs s).drop i) : Nat) : Int), true)) := by
  induction d with
  | zero =>
    intro k i n h0 h1 hk hn
    obtain ⟨k, rfl⟩ : ∃ m, k = m + 1 := ⟨k - 1, by omega⟩
    have hi : (bs s).drop i = [] := List.drop_eq_nil_of_le (by rw [bs_len]; omega)
    simp only [scan_number.l0]
    rw [if_neg (by omega), hi]
    have e : numF n [] = n := rfl
    rw [e, if_neg (by omega)]
  | succ d ih =>
    intro k i n h0 h1 hk hn
    obtain ⟨k, rfl⟩ : ∃ m, k = m + 1 := ⟨k - 1, by omega⟩
    rcases Nat.lt_or_ge i s.size with hlt | hge
    · obtain ⟨r, hr, hr'⟩ := bt_drop s i hlt
      have hb := bt_nat s i hlt
      have hdig := hd _ (List.getElem_mem (l := bs s) (n := i) (by rw [bs_len]; exact hlt))
      generalize (bs s)[i]'(by rw [bs_len]; exact hlt) = c at hr hb hdig
      simp [isDigit] at hdig
      simp only [scan_number.l0]
      rw [if_pos (by omega), if_pos (by omega), if_pos (by omega), hb, hr]
      have hm : ((c.toNat : Int) - 48) % 256 = ((c.toNat - 48 : Nat) : Int) := by omega
      have hw : wrap64 (wrap64 (10 * (n : Int)) + ((c.toNat : Int) - 48) % 256) = ((10 * n + (c.toNat - 48) : Nat) : Int) := by
        have hc : c.toNat < 256 := c.toNat_lt
        rw [hm, wrap_small (x := 10 * (n : Int)) (by omega) (by omega), wrap_small (by omega) (by omega)]
        omega
      rw [hw]
      have hstep : numF n (c :: r) = numF (10 * n + (c.toNat - 48)) r := rfl
      have hge := numF_ge (10 * n + (c.toNat - 48)) r
      rw [hstep]
      clear hm hw hdig hb hstep hn
      generalize 10 * n + (c.toNat - 48) = m at hge ⊢
      by_cases hbig : m > 1000000000000
      · rw [if_pos (by omega), if_pos (by omega)]
      · have hi1 : wrap64 ((i : Int) + 1) = ((i + 1 : Nat) : Int) := by rw [wrap_small (by omega) (by omega)]; omega
        rw [if_neg (by omega), hi1, hr']
        exact ih k (i + 1) m (by omega) (by omega) (by omega) (by omega)
    · obtain rfl : i = s.size := by omega
      have hi : (bs s).drop s.size = [] := List.drop_eq_nil_of_le (by rw [bs_len]; omega)
      simp only [scan_number.l0]
      rw [if_neg (by omega), hi]
      have e : numF n [] = n := rfl
      rw [e, if_neg (by omega)]

theorem number_f (s : ByteArray) (hs : s.size ≤ 140737488351232) (hd : ∀ c ∈ bs s, isDigit (c.toNat : Int) = true) (k : Nat) (hk : s.size < k) :
    scan_number.f k s = some (if numL (bs s) > 1000000000000 then ((0 : Int), false) else (((numL (bs s) : Nat) : Int), true)) := by
  have := number_l0 s hs hd s.size k 0 0 (by omega) (by omega) hk (by omega)
  unfold scan_number.f
  simpa [numL_eq] using this

theorem runL_take_all (p : Int → Bool) (l : List UInt8) : ∀ c ∈ l.take (runL p l), p (c.toNat : Int) = true := by
  induction l with
  | nil => intro c hc; simp at hc
  | cons a r ih =>
    intro c hc
    by_cases h : p (a.toNat : Int) = true
    · simp only [runL, h, if_true, List.take_succ_cons, List.mem_cons] at hc
      rcases hc with rfl | hc
      · exact h
      · exact ih c hc
    · simp [runL, h] at hc

/-! ### one token -/
theorem ext_bs {a b : ByteArray} (h : bs a = bs b) : a = b := by
  cases a; cases b
  simp only [bs] at h
  rw [Array.toList_inj.1 h]
theorem take_bs (s : ByteArray) (n : Nat) : s.extract 0 n = ⟨((bs s).take n).toArray⟩ := ext_bs (by rw [bs_upto])
theorem pair_contains (c : UInt8) : Lib.contains [32, 60, 61, 32, 62, 61, 32, 61, 61, 32, 33, 61, 32] [32, c, 61, 32] = isPair c := by
  unfold Lib.contains isPair
  by_cases h1 : c = 60
  · subst h1; decide
  by_cases h2 : c = 62
  · subst h2; decide
  by_cases h3 : c = 61
  · subst h3; decide
  by_cases h4 : c = 33
  · subst h4; decide
  simp [Lib.index, List.isPrefixOf, h1, h2, h3, h4]
theorem indexByte_mem (l : List UInt8) (c : UInt8) : (0 ≤ Lib.indexByte l c) ↔ c ∈ l := by
  induction l with
  | nil => simp [Lib.indexByte]
  | cons b r ih =>
    have := Lib.indexByte_ge r c
    by_cases h : b = c
    · simp [Lib.indexByte, h]
    · by_cases h1 : Lib.indexByte r c = -1
      · simp [Lib.indexByte, h, h1] at ih ⊢
        exact ⟨fun e => h e.symm, ih⟩
      · have h2 : 0 ≤ Lib.indexByte r c := by omega
        simp [Lib.indexByte, h, h1]
        constructor
        · intro _; exact .inr (ih.1 h2)
        · intro _; omega

theorem letter_f (c : Int) : scan_letter.f c = some (isLetter c) := by
  unfold scan_letter.f isLetter
  by_cases h : c ≥ 97
  · rw [if_pos h]; simp [show (97 : Int) ≤ c from h]
  · rw [if_neg h]; simp [show ¬ (97 : Int) ≤ c from h]
theorem digit_f (c : Int) : scan_digit.f c = some (isDigit c) := by
  unfold scan_digit.f isDigit
  by_cases h : c ≥ 48
  · rw [if_pos h]; simp [show (48 : Int) ≤ c from h]
  · rw [if_neg h]; simp [show ¬ (48 : Int) ≤ c from h]

/-- What scan.one answers of a text that is not empty. -/
def oneR (l : List UInt8) : Int × Int × ByteArray × Int × Int × Int × Int :=
  match tokL l with
  | .ok c => (c.kind, (c.num : Int), ⟨c.text.toArray⟩, 0, 0, (c.len : Int), 0)
  | .error e => (0, 0, ⟨#[]⟩, 0, 0, 0, e)

theorem one_f (s : ByteArray) (hs : s.size ≤ 140737488351232) (h0 : 0 < s.size) (k : Nat) (hk : s.size + 1 < k) : scan_one.f k s = some (oneR (bs s)) := by
  obtain ⟨k, rfl⟩ : ∃ m, k = m + 1 := ⟨k - 1, by omega⟩
  have hb := bt_nat s 0 h0
  obtain ⟨c, r, hcr⟩ : ∃ c r, bs s = c :: r := by
    cases h : bs s with
    | nil => have := bs_len s; rw [h] at this; simp at this; omega
    | cons c r => exact ⟨c, r, rfl⟩
  have hb0 : bt s 0 = (c.toNat : Int) := by
    rw [show (0 : Int) = ((0 : Nat) : Int) from rfl, hb]
    simp [hcr]
  have hlen : r.length + 1 = s.size := by rw [← bs_len, hcr]; rfl
  unfold scan_one.f
  rw [if_pos (by omega), hb0, letter_f]
  simp only [Option.bind_some]
  by_cases hl : isLetter (c.toNat : Int) = true
  · rw [if_pos hl]
    have hrun : scan_run_inner.f s = some ((runL isInner (c :: r) : Nat) : Int) := by
      unfold scan_run_inner.f
      rw [if_pos (by omega), show s.data.toList = c :: r from hcr]
    have hle := runL_le isInner (c :: r)
    simp only [List.length_cons] at hle
    rw [hrun]
    simp only [Option.bind_some]
    by_cases h32 : runL isInner (c :: r) > 32
    · have e : oneR (bs s) = (0, 0, ⟨#[]⟩, 0, 0, 0, 2) := by
        rw [hcr]
        simp only [oneR, tokL, hl, if_true]
        rw [if_pos h32]
      rw [e, if_pos (by omega)]
    · have e : oneR (bs s) = (1, 0, ⟨((c :: r).take (runL isInner (c :: r))).toArray⟩, 0, 0, ((runL isInner (c :: r) : Nat) : Int), 0) := by
        rw [hcr]
        simp only [oneR, tokL, hl, if_true]
        rw [if_neg h32]
        rfl
      rw [e, if_neg (by omega), if_pos (by omega), if_pos (by omega), Int.toNat_natCast, take_bs, hcr]
  · rw [if_neg hl, digit_f]
    simp only [Option.bind_some]
    by_cases hd : isDigit (c.toNat : Int) = true
    · rw [if_pos hd]
      have hrun : scan_run_digit.f s = some ((runL isDigit (c :: r) : Nat) : Int) := by
        unfold scan_run_digit.f
        rw [if_pos (by omega), show s.data.toList = c :: r from hcr]
      have hle := runL_le isDigit (c :: r)
      simp only [List.length_cons] at hle
      have hpos : 0 < runL isDigit (c :: r) := runL_pos hd
      rw [hrun]
      simp only [Option.bind_some]
      have hsz : (s.extract 0 (runL isDigit (c :: r))).size ≤ s.size := by
        rw [← bs_len, bs_upto, List.length_take, bs_len]; omega
      have hnum := number_f (s.extract 0 (runL isDigit (c :: r))) (by omega) (by rw [bs_upto, hcr]; exact runL_take_all _ _) (k + 1) (by omega)
      rw [if_pos (by omega), if_pos (by omega), Int.toNat_natCast, hnum, bs_upto, hcr]
      simp only [Option.bind_some]
      have hl' : isLetter (c.toNat : Int) = false := by simpa using hl
      generalize hN : numL ((c :: r).take (runL isDigit (c :: r))) = N
      by_cases hbig : N > 1000000000000
      · have e : oneR (c :: r) = (0, 0, ⟨#[]⟩, 0, 0, 0, 30) := by
          simp only [oneR, tokL, hl', hd, if_true, hN, Bool.false_eq_true, if_false]
          rw [if_pos hbig]
        rw [e, if_pos hbig]
        rfl
      · have e : oneR (c :: r) = (2, (N : Int), ⟨#[]⟩, 0, 0, ((runL isDigit (c :: r) : Nat) : Int), 0) := by
          simp only [oneR, tokL, hl', hd, if_true, hN, Bool.false_eq_true, if_false]
          rw [if_neg hbig]
        rw [e, if_neg hbig]
        rfl
    · rw [if_neg hd]
      have hIB : strings_IndexByte.f (⟨#[40, 41, 123, 125, 44, 58, 43, 45, 42, 36, 61, 60, 62]⟩ : ByteArray) (c.toNat : Int) = some (Lib.indexByte [40, 41, 123, 125, 44, 58, 43, 45, 42, 36, 61, 60, 62] c) := by
        have := c.toNat_lt
        unfold strings_IndexByte.f
        rw [if_pos (by omega)]
        simp
      have hj : ∀ b : Bool, (b = true → 2 ≤ s.size) → scan_one.j0 (k + 1) s (c.toNat : Int) b = some (if b then (3, 0, ⟨((c :: r).take 2).toArray⟩, 0, 0, 2, 0) else if isOne c then (3, 0, ⟨[c].toArray⟩, 0, 0, 1, 0) else (0, 0, ⟨#[]⟩, 0, 0, 0, 40)) := by
        intro b hb2
        simp only [scan_one.j0]
        cases b with
        | true =>
          have := hb2 rfl
          rw [if_pos rfl, if_pos (by omega), if_pos (by omega), take_bs, hcr]
          rfl
        | false =>
          rw [if_neg (by simp), hIB]
          simp only [Option.bind_some]
          have hm := indexByte_mem [40, 41, 123, 125, 44, 58, 43, 45, 42, 36, 61, 60, 62] c
          by_cases ho : isOne c = true
          · have hmem : c ∈ ([40, 41, 123, 125, 44, 58, 43, 45, 42, 36, 61, 60, 62] : List UInt8) := by simpa [isOne] using ho
            rw [if_pos (hm.2 hmem), if_pos (by omega), if_pos (by omega), take_bs, hcr]
            simp [ho]
          · have hmem : ¬ c ∈ ([40, 41, 123, 125, 44, 58, 43, 45, 42, 36, 61, 60, 62] : List UInt8) := by simpa [isOne] using ho
            rw [if_neg (fun h => hmem (hm.1 h))]
            simp [ho]
      have e : oneR (bs s) = if (isPair c && r.head? == some 61) then (3, 0, ⟨((c :: r).take 2).toArray⟩, 0, 0, 2, 0) else if isOne c then (3, 0, ⟨[c].toArray⟩, 0, 0, 1, 0) else (0, 0, ⟨#[]⟩, 0, 0, 0, 40) := by
        rw [hcr]
        have hl' : isLetter (c.toNat : Int) = false := by simpa using hl
        have hd' : isDigit (c.toNat : Int) = false := by simpa using hd
        simp only [oneR, tokL, hl', hd', Bool.false_eq_true, if_false]
        cases h1 : (isPair c && r.head? == some 61) with
        | true => rfl
        | false => cases h2 : isOne c with
          | true => rfl
          | false => rfl
      rw [e]
      by_cases h1 : 1 < s.size
      · obtain ⟨d, r', rfl⟩ : ∃ d r', r = d :: r' := by
          cases r with
          | nil => simp at hlen; omega
          | cons d r' => exact ⟨d, r', rfl⟩
        have hb1 : bt s 1 = (d.toNat : Int) := by
          rw [show (1 : Int) = ((1 : Nat) : Int) from rfl, bt_nat s 1 h1]
          simp [hcr]
        rw [if_pos (by omega), if_pos (by omega), hb1]
        by_cases h61 : d = 61
        · subst h61
          have hsz : (s.extract 0 2).size = 2 := by rw [← bs_len, bs_upto, List.length_take, bs_len]; omega
          have hsz2 : ((⟨#[32]⟩ : ByteArray) ++ (s.extract 0 2)).size = 3 := by rw [ByteArray.size_append, hsz]; rfl
          have hbs : bs (((⟨#[32]⟩ : ByteArray) ++ (s.extract 0 2)) ++ (⟨#[32]⟩ : ByteArray)) = [32, c, 61, 32] := by
            have h3 : bs (s.extract 0 2) = [c, 61] := by rw [bs_upto, hcr]; rfl
            simp only [bs] at h3 ⊢
            rw [ByteArray.data_append, ByteArray.data_append, Array.toList_append, Array.toList_append, h3]
            rfl
          have hct : strings_Contains.f (⟨#[32, 60, 61, 32, 62, 61, 32, 61, 61, 32, 33, 61, 32]⟩ : ByteArray) (((⟨#[32]⟩ : ByteArray) ++ (s.extract 0 2)) ++ (⟨#[32]⟩ : ByteArray)) = some (isPair c) := by
            unfold strings_Contains.f
            rw [if_pos (by decide), show (((⟨#[32]⟩ : ByteArray) ++ (s.extract 0 2)) ++ (⟨#[32]⟩ : ByteArray)).data.toList = [32, c, 61, 32] from hbs, ← pair_contains c]
          rw [if_pos (by decide), if_pos (by omega), if_pos (by omega), if_pos (by omega), if_pos (by omega), hct]
          simp only [Option.bind_some]
          rw [hj _ (fun _ => by omega)]
          simp
        · have : ¬ (d.toNat : Int) = 61 := fun e => h61 (UInt8.toNat_inj.1 (by simpa using (by omega : d.toNat = 61)))
          rw [if_neg this, hj _ (fun h => by cases h)]
          simp [h61]
      · obtain rfl : r = [] := List.eq_nil_of_length_eq_zero (by omega)
        rw [if_neg (by omega), hj _ (fun h => by cases h)]
        simp

/-! ### the whole text -/
abbrev S := S32
def toS (t : Tk) : S := ⟨t.kind, (t.num : Int), ⟨t.text.toArray⟩, (t.start : Int), (t.stop : Int)⟩
def resOf (acc : List S) (ts : List Tk) : Option (Nat × Int) → List S × Int × Int
  | none => (acc ++ ts.map toS, 0, 0)
  | some (p, e) => ([], (p : Int), e)

theorem tokL_err {l : List UInt8} {e : Int} (h : tokL l = .error e) : e = 2 ∨ e = 30 ∨ e = 40 := by
  cases l with
  | nil => simp [tokL] at h; simp [h]
  | cons a r =>
    simp only [tokL] at h
    repeat' split at h
    all_goals first | (cases h; done) | (cases h; simp)

theorem scan_l0 (s : ByteArray) (hs : s.size ≤ 8192) {i : Nat} {l : List UInt8} {ts : List Tk} {e : Option (Nat × Int)} (h : Sc i l ts e) :
    l = (bs s).drop i → i ≤ s.size → ∀ acc : List S, acc.length ≤ i → ∃ K, ∀ k, K ≤ k → scan_Scan.l0 k s acc ((i + gapL false l : Nat) : Int) = some (resOf acc ts e) := by
  induction h with
  | @fin i l h =>
    intro hl hi acc hacc
    have hlen : l.length = s.size - i := by rw [hl, List.length_drop, bs_len]
    refine ⟨1, fun k hk => ?_⟩
    obtain ⟨k, rfl⟩ : ∃ m, k = m + 1 := ⟨k - 1, by omega⟩
    simp only [scan_Scan.l0]
    rw [if_neg (by omega), if_pos (by omega)]
    simp only [resOf, List.map_cons, List.map_nil, toS]
    rw [show i + l.length = s.size by omega]
    rfl
  | @bad i l e h ht =>
    intro hl hi acc hacc
    have hlen : l.length = s.size - i := by rw [hl, List.length_drop, bs_len]
    have hd : (bs s).drop (i + gapL false l) = l.drop (gapL false l) := by rw [hl, List.drop_drop]
    refine ⟨s.size + 3, fun k hk => ?_⟩
    obtain ⟨k, rfl⟩ : ∃ m, k = m + 1 := ⟨k - 1, by omega⟩
    have hsz := size_from s (i + gapL false l) (by omega)
    have hone := one_f (s.extract (i + gapL false l) s.size) (by omega) (by omega) k (by omega)
    simp only [scan_Scan.l0]
    rw [if_pos (by omega), if_pos (by omega), if_pos (by omega), Int.toNat_natCast, hone, bs_from, hd]
    simp only [Option.bind_some, oneR, ht]
    have := tokL_err ht
    rw [if_neg (by omega)]
    rfl
  | @tok i l c ts e h ht hs' ih =>
    intro hl hi acc hacc
    have hlen : l.length = s.size - i := by rw [hl, List.length_drop, bs_len]
    have hd : (bs s).drop (i + gapL false l) = l.drop (gapL false l) := by rw [hl, List.drop_drop]
    have hc := tokL_len ht
    rw [List.length_drop] at hc
    obtain ⟨K, hK⟩ := ih (by rw [hl, List.drop_drop]; congr 1; omega) (by omega) (acc ++ [toS ⟨c.kind, c.num, c.text, i + gapL false l, i + gapL false l + c.len⟩]) (by simp; omega)
    refine ⟨K + 2 * s.size + 5, fun k hk => ?_⟩
    obtain ⟨k, rfl⟩ : ∃ m, k = m + 1 := ⟨k - 1, by omega⟩
    have hsz := size_from s (i + gapL false l) (by omega)
    have hsz2 := size_from s (i + gapL false l + c.len) (by omega)
    have hone := one_f (s.extract (i + gapL false l) s.size) (by omega) (by omega) k (by omega)
    have hgap := gap_f (s.extract (i + gapL false l + c.len) s.size) (by omega) k (by omega)
    have hd2 : (bs s).drop (i + gapL false l + c.len) = l.drop (gapL false l + c.len) := by rw [hl, List.drop_drop]; congr 1; omega
    have hg2 := gapL_le false (l.drop (gapL false l + c.len))
    rw [List.length_drop] at hg2
    simp only [scan_Scan.l0]
    rw [if_pos (by omega), if_pos (by omega), if_pos (by omega), Int.toNat_natCast, hone, bs_from, hd]
    simp only [Option.bind_some, oneR, ht, if_true]
    rw [if_pos (by omega), show wrap64 (((i + gapL false l : Nat) : Int) + (c.len : Int)) = ((i + gapL false l + c.len : Nat) : Int) by rw [wrap_small (by omega) (by omega)]; omega]
    rw [if_pos (by omega), if_pos (by omega), Int.toNat_natCast, hgap, bs_from, hd2]
    simp only [Option.bind_some]
    rw [show wrap64 (((i + gapL false l + c.len : Nat) : Int) + ((gapL false (l.drop (gapL false l + c.len)) : Nat) : Int)) = ((i + gapL false l + c.len + gapL false (l.drop (gapL false l + c.len)) : Nat) : Int) by rw [wrap_small (by omega) (by omega)]; omega]
    have := hK k (by omega)
    simp only [toS] at this ⊢
    rw [this]
    cases e with
    | none => simp [resOf, toS]
    | some p => obtain ⟨p, e⟩ := p; simp [resOf]

/-- What Scan answers: of a text that is too long, and of another one. -/
def scanR (s : ByteArray) (ts : List Tk) (e : Option (Nat × Int)) : List S × Int × Int := if s.size > 8192 then ([], 8192, 2) else resOf [] ts e

theorem scan_f (s : ByteArray) (hs : s.size ≤ 140737488351232) {ts : List Tk} {e : Option (Nat × Int)} (h : Sc 0 (bs s) ts e) : ∃ K, ∀ k, K ≤ k → scan_Scan.f k s = some (scanR s ts e) := by
  unfold scanR
  by_cases hb : s.size > 8192
  · refine ⟨0, fun k _ => ?_⟩
    unfold scan_Scan.f
    rw [if_pos (by omega), if_pos hb]
  · obtain ⟨K, hK⟩ := scan_l0 s (by omega) h rfl (by omega) [] (by simp)
    refine ⟨K + 2 * s.size + 2, fun k hk => ?_⟩
    unfold scan_Scan.f
    rw [if_neg (by omega), if_neg hb, gap_f s hs k (by omega)]
    simp only [Option.bind_some]
    have := hK k (by omega)
    simpa using this
end Go.Proofs.Ytfkikmiajldojaa.S
