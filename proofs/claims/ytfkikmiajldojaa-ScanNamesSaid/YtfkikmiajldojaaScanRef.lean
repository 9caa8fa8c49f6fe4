/- What the reference's Scan answers, in the plain words: the same plain scan of the text's bytes. -/
import Derived.Test.YtfkikmiajldojaaSfOctroiref04Scan
import Derived.Test.YtfkikmiajldojaaScanImpl
set_option linter.unusedVariables false
set_option linter.unusedSimpArgs false
namespace Go.Proofs.Ytfkikmiajldojaa.S
open Go.RowKit Go.Proofs.YtfkikmiajldojaaW.PrintWords Go.Proofs.YtfkikmiajldojaaW.PrintLast Go.Proofs.YtfkikmiajldojaaW.PrintMore Go.Proofs.Ytfkikmiajldojaa.Pure

theorem u8_eq {c : UInt8} {n : Nat} (hn : n < 256) : (c.toNat : Int) = (n : Int) ↔ c = UInt8.ofNat n := by
  constructor
  · intro e
    exact UInt8.toNat_inj.1 (by simp [Nat.mod_eq_of_lt hn]; omega)
  · rintro rfl
    simp [Nat.mod_eq_of_lt hn]

theorem behind_both (s : ByteArray) (hs : s.size ≤ 140737488351232) (d : Nat) : ∀ (i : Nat), i ≤ s.size → s.size - i ≤ d →
    (∀ k, 3 * d + 2 < k → octroiref04_behind.l1 k s i = some ((i + gapL true ((bs s).drop i) : Nat) : Int)) ∧
    (∀ k, 3 * d + 3 < k → octroiref04_behind.l0 k s i = some ((i + gapL false ((bs s).drop i) : Nat) : Int)) := by
  induction d with
  | zero =>
    intro i h0 h1
    have hi : (bs s).drop i = [] := List.drop_eq_nil_of_le (by rw [bs_len]; omega)
    have hl0 : ∀ k, 0 < k → octroiref04_behind.l0 k s i = some ((i + gapL false ((bs s).drop i) : Nat) : Int) := by
      intro k hk
      obtain ⟨k, rfl⟩ : ∃ m, k = m + 1 := ⟨k - 1, by omega⟩
      simp only [octroiref04_behind.l0]
      rw [if_neg (by omega), hi]
      simp [gapL]
    refine ⟨fun k hk => ?_, fun k hk => hl0 k (by omega)⟩
    obtain ⟨k, rfl⟩ : ∃ m, k = m + 1 := ⟨k - 1, by omega⟩
    simp only [octroiref04_behind.l1]
    rw [if_neg (by omega), hl0 k (by omega), hi]
    simp [gapL]
  | succ d ih =>
    intro i h0 h1
    rcases Nat.lt_or_ge i s.size with hlt | hge
    · obtain ⟨r, hr, hr'⟩ := bt_drop s i hlt
      have hb := bt_nat s i hlt
      generalize (bs s)[i]'(by rw [bs_len]; exact hlt) = c at hr hb
      obtain ⟨ih1, ih0⟩ := ih (i + 1) (by omega) (by omega)
      have hw : wrap64 ((i : Int) + 1) = ((i + 1 : Nat) : Int) := by rw [wrap_small (by omega) (by omega)]; omega
      have L1 : ∀ k, 3 * (d + 1) + 2 < k → octroiref04_behind.l1 k s i = some ((i + gapL true ((bs s).drop i) : Nat) : Int) := by
        intro k hk
        obtain ⟨k, rfl⟩ : ∃ m, k = m + 1 := ⟨k - 1, by omega⟩
        rw [hr]
        simp only [octroiref04_behind.l1]
        rw [if_pos (by omega), if_pos (by omega), hb]
        by_cases e : c = 10
        · subst e
          obtain ⟨k, rfl⟩ : ∃ m, k = m + 1 := ⟨k - 1, by omega⟩
          have hb10 : bt s (i : Int) = 10 := hb
          simp only [octroiref04_behind.l0]
          rw [if_pos (by decide), if_pos (by omega), if_pos (by omega), hb10, if_neg (by decide), if_neg (by decide), if_neg (by decide), if_pos (by decide), hw, ih0 k (by omega)]
          simp [gapL, hr']
          omega
        · have f : ¬ (c.toNat : Int) = 10 := fun h => e ((u8_eq (n := 10) (by omega)).1 h)
          have hb' : (c != 10) = true := by simp [e]
          rw [if_neg f, hw, ih1 k (by omega)]
          simp only [gapL, hr', hb']
          congr 2
          omega
      refine ⟨L1, fun k hk => ?_⟩
      obtain ⟨k, rfl⟩ : ∃ m, k = m + 1 := ⟨k - 1, by omega⟩
      simp only [octroiref04_behind.l0]
      rw [if_pos (by omega), if_pos (by omega), hb]
      by_cases e0 : c = 35
      · subst e0
        rw [if_pos (by decide), L1 k (by omega), hr]
        simp [gapL]
      have f0 : ¬ (c.toNat : Int) = 35 := fun h => e0 ((u8_eq (n := 35) (by omega)).1 h)
      rw [if_neg f0, hr]
      by_cases e1 : c = 32
      · subst e1
        rw [if_pos (by decide), hw, ih0 k (by omega)]
        simp [gapL, isBlank, hr']
        omega
      have f1 : ¬ (c.toNat : Int) = 32 := fun h => e1 ((u8_eq (n := 32) (by omega)).1 h)
      rw [if_neg f1]
      by_cases e2 : c = 9
      · subst e2
        rw [if_pos (by decide), hw, ih0 k (by omega)]
        simp [gapL, isBlank, hr']
        omega
      have f2 : ¬ (c.toNat : Int) = 9 := fun h => e2 ((u8_eq (n := 9) (by omega)).1 h)
      rw [if_neg f2]
      by_cases e3 : c = 10
      · subst e3
        rw [if_pos (by decide), hw, ih0 k (by omega)]
        simp [gapL, isBlank, hr']
        omega
      have f3 : ¬ (c.toNat : Int) = 10 := fun h => e3 ((u8_eq (n := 10) (by omega)).1 h)
      rw [if_neg f3]
      by_cases e4 : c = 13
      · subst e4
        rw [if_pos (by decide), hw, ih0 k (by omega)]
        simp [gapL, isBlank, hr']
        omega
      have f4 : ¬ (c.toNat : Int) = 13 := fun h => e4 ((u8_eq (n := 13) (by omega)).1 h)
      rw [if_neg f4]
      simp [gapL, isBlank, e0, e1, e2, e3, e4]
    · obtain rfl : i = s.size := by omega
      obtain ⟨ih1, ih0⟩ := ih s.size (by omega) (by omega)
      exact ⟨fun k hk => ih1 k (by omega), fun k hk => ih0 k (by omega)⟩

theorem behind_f (s : ByteArray) (hs : s.size ≤ 140737488351232) (i : Nat) (hi : i ≤ s.size) (k : Nat) (hk : 3 * s.size + 3 < k) :
    octroiref04_behind.f k s i = some ((i + gapL false ((bs s).drop i) : Nat) : Int) := by
  unfold octroiref04_behind.f
  exact (behind_both s hs s.size i hi (by omega)).2 k hk

theorem rLetter_f (c : Int) : octroiref04_Letter.f c = some (isLetter c) := by
  unfold octroiref04_Letter.f isLetter
  by_cases h : c ≥ 97
  · rw [if_pos h]; simp [show (97 : Int) ≤ c from h]
  · rw [if_neg h]; simp [show ¬ (97 : Int) ≤ c from h]
theorem rDigit_f (c : Int) : octroiref04_Digit.f c = some (isDigit c) := by
  unfold octroiref04_Digit.f isDigit
  by_cases h : c ≥ 48
  · rw [if_pos h]; simp [show (48 : Int) ≤ c from h]
  · rw [if_neg h]; simp [show ¬ (48 : Int) ≤ c from h]

theorem runL_stop (p : Int → Bool) (s : ByteArray) (i : Nat) (h : i < s.size) : runL p ((bs s).drop i) = if p (bt s i) = true then runL p ((bs s).drop (i + 1)) + 1 else 0 := by
  obtain ⟨r, hr, hr'⟩ := bt_drop s i h
  rw [hr, bt_nat s i h, hr']
  rfl

/-- What the name's loop comes to, from the place where it stops. -/
def nameR (s : ByteArray) (p : Nat) (a b : Int) (txt : ByteArray) (dd : Int) (j : Nat) : Int × Int × ByteArray × Int × Int × Int :=
  if j - p > 32 then (a, b, txt, dd, (j : Int), 2) else (1, b, s.extract p j, dd, (j : Int), 0)

/-- The name's loop of the reference. -/
theorem rName_l0 (s : ByteArray) (hs : s.size ≤ 140737488351232) (p : Nat) (a b : Int) (txt : ByteArray) (dd : Int) (d : Nat) : ∀ (k i : Nat), p ≤ i → i ≤ s.size → s.size - i ≤ d → d < k →
    octroiref04_token.l0 k s p a b txt dd i = some (nameR s p a b txt dd (i + runL isInner ((bs s).drop i))) := by
  have stop : ∀ (i : Nat), p ≤ i → i ≤ s.size → (if (wrap64 ((i : Int) - p)) > 32 then (some (a, b, txt, dd, (i : Int), 2)) else (if 0 ≤ (p : Int) then (if (p : Int) ≤ i then (if (i : Int) ≤ (s.size : Int) then (some (1, b, s.extract (p : Int).toNat (i : Int).toNat, dd, (i : Int), 0)) else (none)) else (none)) else (none))) = some (nameR s p a b txt dd i) := by
    intro i hp h0
    unfold nameR
    rw [wrap_small (by omega) (by omega)]
    by_cases h : i - p > 32
    · rw [if_pos (by omega), if_pos h]
    · rw [if_neg (by omega), if_neg h, if_pos (by omega), if_pos (by omega), if_pos (by omega)]
      rfl
  induction d with
  | zero =>
    intro k i hp h0 h1 hk
    obtain ⟨k, rfl⟩ : ∃ m, k = m + 1 := ⟨k - 1, by omega⟩
    have hi : (bs s).drop i = [] := List.drop_eq_nil_of_le (by rw [bs_len]; omega)
    simp only [octroiref04_token.l0]
    rw [if_neg (by omega), hi, stop i hp h0]
    rfl
  | succ d ih =>
    intro k i hp h0 h1 hk
    obtain ⟨k, rfl⟩ : ∃ m, k = m + 1 := ⟨k - 1, by omega⟩
    rcases Nat.lt_or_ge i s.size with hlt | hge
    · have hstop := runL_stop isInner s i hlt
      have hw : wrap64 ((i : Int) + 1) = ((i + 1 : Nat) : Int) := by rw [wrap_small (by omega) (by omega)]; omega
      have hnext := ih k (i + 1) (by omega) (by omega) (by omega) (by omega)
      simp only [octroiref04_token.l0]
      rw [if_pos (by omega), if_pos (by omega), rLetter_f, rDigit_f]
      simp only [Option.bind_some]
      by_cases hin : isInner (bt s i) = true
      · rw [hin] at hstop
        simp only [if_true] at hstop
        rw [hstop, hw, hnext, show i + (runL isInner ((bs s).drop (i + 1)) + 1) = i + 1 + runL isInner ((bs s).drop (i + 1)) by omega]
        unfold isInner at hin
        by_cases g1 : isLetter (bt s i) = true
        · rw [if_pos g1]
        · by_cases g2 : isDigit (bt s i) = true
          · rw [if_neg g1, if_pos g2]
          · have g3 : bt s i = 95 := by simpa [g1, g2] using hin
            rw [if_neg g1, if_neg g2, if_pos g3]
      · have hin' : isInner (bt s i) = false := by simpa using hin
        rw [hin'] at hstop
        simp only [Bool.false_eq_true, if_false] at hstop
        rw [hstop]
        unfold isInner at hin'
        simp only [Bool.or_eq_false_iff] at hin'
        obtain ⟨⟨g1, g2⟩, g3⟩ := hin'
        have g3' : ¬ bt s i = 95 := by simpa using g3
        rw [g1, g2]
        simp only [Bool.false_eq_true, if_false]
        rw [if_neg g3', stop i hp h0]
        rfl
    · exact ih (k + 1) i hp h0 (by omega) (by omega)

/-- What the number's loop comes to: x: what is left of the token where the number is too great. -/
def numR (N : Nat) (txt : ByteArray) (dd : Int) (j : Nat) (x : Int × Int × ByteArray × Int × Int) : Int × Int × ByteArray × Int × Int × Int :=
  if N > 1000000000000 then (x.1, x.2.1, x.2.2.1, x.2.2.2.1, x.2.2.2.2, 30) else (2, (N : Int), txt, dd, (j : Int), 0)

theorem ref_step (n c : Nat) (hn : n ≤ 1000000000000) (h0 : 48 ≤ c) (h1 : c ≤ 57) : wrap64 (wrap64 (wrap64 (10 * (n : Int)) + wrap64 (c : Int)) - 48) = ((10 * n + (c - 48) : Nat) : Int) := by
  obtain ⟨d, rfl⟩ : ∃ d, c = 48 + d := ⟨c - 48, by omega⟩
  rw [wrap_small (x := 10 * (n : Int)) (by omega) (by omega), wrap_small (x := ((48 + d : Nat) : Int)) (by omega) (by omega), wrap_small (x := 10 * (n : Int) + ((48 + d : Nat) : Int)) (by omega) (by omega), wrap_small (by omega) (by omega), Nat.add_sub_cancel_left]
  omega

/-- The number's loop of the reference. -/
theorem rNum_l1 (s : ByteArray) (hs : s.size ≤ 140737488351232) (a : Int) (txt : ByteArray) (dd : Int) (d : Nat) : ∀ (k i n : Nat), i ≤ s.size → s.size - i ≤ d → 2 * d + 1 < k → n ≤ 1000000000000 →
    ∃ x, octroiref04_token.l1 k s a n txt dd i = some (numR (numF n (((bs s).drop i).take (runL isDigit ((bs s).drop i)))) txt dd (i + runL isDigit ((bs s).drop i)) x) := by
  have small : ∀ (n j : Nat) (x : Int × Int × ByteArray × Int × Int), n ≤ 1000000000000 → numR n txt dd j x = (2, (n : Int), txt, dd, (j : Int), 0) := fun n j x hn => by
    unfold numR; rw [if_neg (by omega)]
  have big : ∀ (n j : Nat) (x : Int × Int × ByteArray × Int × Int), n > 1000000000000 → numR n txt dd j x = (x.1, x.2.1, x.2.2.1, x.2.2.2.1, x.2.2.2.2, 30) := fun n j x hn => by
    unfold numR; rw [if_pos hn]
  induction d with
  | zero =>
    intro k i n h0 h1 hk hn
    obtain ⟨k, rfl⟩ : ∃ m, k = m + 2 := ⟨k - 2, by omega⟩
    have hi : (bs s).drop i = [] := List.drop_eq_nil_of_le (by rw [bs_len]; omega)
    refine ⟨(0, 0, txt, 0, 0), ?_⟩
    have e : numF n [] = n := rfl
    simp only [octroiref04_token.l1, octroiref04_token.j2]
    rw [if_neg (by omega), if_neg (by simp), hi]
    simp only [runL, List.take_nil, Nat.add_zero]
    rw [e, small n i _ hn]
  | succ d ih =>
    intro k i n h0 h1 hk hn
    obtain ⟨k, rfl⟩ : ∃ m, k = m + 2 := ⟨k - 2, by omega⟩
    rcases Nat.lt_or_ge i s.size with hlt | hge
    · have hstop := runL_stop isDigit s i hlt
      obtain ⟨r, hr, hr'⟩ := bt_drop s i hlt
      have hb := bt_nat s i hlt
      generalize (bs s)[i]'(by rw [bs_len]; exact hlt) = c at hr hb
      have hw : wrap64 ((i : Int) + 1) = ((i + 1 : Nat) : Int) := by rw [wrap_small (by omega) (by omega)]; omega
      have q1 : (i : Int) < s.size := Int.ofNat_lt.2 hlt
      have q2 : 0 ≤ (i : Int) := Int.natCast_nonneg _
      simp only [octroiref04_token.l1, octroiref04_token.j2]
      rw [if_pos q1, if_pos q2, rDigit_f]
      simp only [Option.bind_some]
      by_cases hd : isDigit (bt s i) = true
      · rw [hd] at hstop
        simp only [if_true] at hstop
        rw [if_pos hd, if_pos q2, if_pos q1, hstop, hr]
        rw [hb] at hd ⊢
        have hd' : 48 ≤ c.toNat ∧ c.toNat ≤ 57 := by
          clear hw hn h1 hs hk q1 q2
          simp [isDigit] at hd
          omega
        have hv := ref_step n c.toNat hn hd'.1 hd'.2
        rw [hv, List.take_succ_cons, hr']
        have hstep : ∀ l, numF n (c :: l) = numF (10 * n + (c.toNat - 48)) l := fun l => rfl
        have hge := numF_ge (10 * n + (c.toNat - 48)) (((bs s).drop (i + 1)).take (runL isDigit ((bs s).drop (i + 1))))
        rw [hstep]
        have hw' := hw
        have hd1 : s.size - (i + 1) ≤ d := by clear hn hs hw hw' hv hge hd' hb; omega
        have hk1 : 2 * d + 1 < k := by clear hn hs hw hw' hv hge hd' hb; omega
        clear hv hd hd' hb hstep hn hstop hw h1 hk hs q1 q2
        generalize 10 * n + (c.toNat - 48) = m at hge ⊢
        by_cases hbig : m > 1000000000000
        · refine ⟨(a, (m : Int), txt, dd, (i : Int)), ?_⟩
          rw [if_pos (by omega), big _ _ _ (by omega)]
        · obtain ⟨x, hx⟩ := ih k (i + 1) m hlt hd1 hk1 (by omega)
          refine ⟨x, ?_⟩
          rw [if_neg (by omega), hw', hx, show i + (runL isDigit ((bs s).drop (i + 1)) + 1) = i + 1 + runL isDigit ((bs s).drop (i + 1)) by omega]
      · have hd' : isDigit (bt s i) = false := by simpa using hd
        rw [hd'] at hstop
        simp only [Bool.false_eq_true, if_false] at hstop
        refine ⟨(0, 0, txt, 0, 0), ?_⟩
        have e : numF n [] = n := rfl
        rw [hd', hstop, if_neg (by simp)]
        simp only [List.take_zero, Nat.add_zero]
        rw [e, small n i _ hn]
    · obtain ⟨x, hx⟩ := ih (k + 2) i n h0 (by omega) (by omega) hn
      exact ⟨x, hx⟩

theorem rMark_l0 (x5 : Int) (s : ByteArray) (hs : s.size ≤ 140737488351232) (d : Nat) : ∀ (k i : Nat), i ≤ s.size → s.size - i ≤ d → d < k →
    octroiref04_mark.l0 k x5 s i = some (if (((bs s).drop i).any fun c => (c.toNat : Int) == x5) = true then 1 else 0) := by
  induction d with
  | zero =>
    intro k i h0 h1 hk
    obtain ⟨k, rfl⟩ : ∃ m, k = m + 1 := ⟨k - 1, by omega⟩
    have hi : (bs s).drop i = [] := List.drop_eq_nil_of_le (by rw [bs_len]; omega)
    simp only [octroiref04_mark.l0]
    rw [if_neg (by omega), hi]
    simp
  | succ d ih =>
    intro k i h0 h1 hk
    obtain ⟨k, rfl⟩ : ∃ m, k = m + 1 := ⟨k - 1, by omega⟩
    rcases Nat.lt_or_ge i s.size with hlt | hge
    · obtain ⟨r, hr, hr'⟩ := bt_drop s i hlt
      have hb := bt_nat s i hlt
      generalize (bs s)[i]'(by rw [bs_len]; exact hlt) = c at hr hb
      have hw : wrap64 ((i : Int) + 1) = ((i + 1 : Nat) : Int) := by rw [wrap_small (by omega) (by omega)]; omega
      have hnext := ih k (i + 1) (by omega) (by omega) (by omega)
      simp only [octroiref04_mark.l0]
      rw [if_pos (by omega), if_pos (by omega), hb, hr]
      by_cases e : (c.toNat : Int) = x5
      · rw [if_pos e]
        simp [e]
      · rw [if_neg e, hw, hnext, hr']
        simp [e]
    · exact ih (k + 1) i h0 (by omega) (by omega)

theorem one_any (c : UInt8) : ((bs (⟨#[40, 41, 123, 125, 44, 58, 43, 45, 42, 36, 61, 60, 62]⟩ : ByteArray)).any fun x => (x.toNat : Int) == (c.toNat : Int)) = isOne c := by
  have h : (fun x : UInt8 => ((x.toNat : Int) == (c.toNat : Int))) = (fun x => c == x) := by
    funext x
    by_cases e : x = c
    · subst e; simp
    · have h1 : ¬ (x.toNat : Int) = (c.toNat : Int) := fun h => e (UInt8.toNat_inj.1 (by omega))
      have h2 : ¬ c = x := fun h => e h.symm
      rw [beq_eq_false_iff_ne.2 h1, beq_eq_false_iff_ne.2 h2]
  rw [h]
  unfold isOne
  rw [List.contains_eq_any_beq]

theorem rMark_f (s : ByteArray) (hs : s.size ≤ 140737488351232) (i : Nat) (hi : i < s.size) (c : UInt8) (r : List UInt8) (hr : (bs s).drop i = c :: r) (k : Nat) (hk : 15 < k) :
    octroiref04_mark.f k s i = some (if (isPair c && r.head? == some 61) then 2 else if isOne c then 1 else 0) := by
  obtain ⟨k, rfl⟩ : ∃ m, k = m + 1 := ⟨k - 1, by omega⟩
  have hb : bt s i = (c.toNat : Int) := by
    obtain ⟨r', h, _⟩ := bt_drop s i hi
    rw [bt_nat s i hi]
    rw [hr] at h
    injection h with h _
    rw [h]
  have hj : ∀ b : Bool, octroiref04_mark.j0 (k + 1) (c.toNat : Int) b = some (if b then 2 else if isOne c then 1 else 0) := by
    intro b
    simp only [octroiref04_mark.j0]
    cases b with
    | true => simp
    | false =>
      have := rMark_l0 (c.toNat : Int) (⟨#[40, 41, 123, 125, 44, 58, 43, 45, 42, 36, 61, 60, 62]⟩ : ByteArray) (by decide) 13 k 0 (by decide) (by decide) (by omega)
      rw [if_neg (by simp)]
      rw [show (0 : Int) = ((0 : Nat) : Int) from rfl, this, List.drop_zero, one_any]
      simp
  have hlen : r.length + 1 = s.size - i := by rw [← bs_len, ← List.length_drop, hr]; rfl
  unfold octroiref04_mark.f
  rw [if_pos (by omega), if_pos (by omega), wrap_small (by omega) (by omega), wrap_small (by omega) (by omega), hb]
  by_cases h1 : i + 1 < s.size
  · obtain ⟨d, r', rfl⟩ : ∃ d r', r = d :: r' := by
      cases r with
      | nil => simp at hlen; omega
      | cons d r' => exact ⟨d, r', rfl⟩
    have hb1 : bt s (((i + 1 : Nat)) : Int) = (d.toNat : Int) := by
      obtain ⟨r1, h, _⟩ := bt_drop s (i + 1) h1
      rw [bt_nat s (i + 1) h1]
      have h2 : (bs s).drop (i + 1) = d :: r' := by rw [← List.drop_drop, hr]; rfl
      rw [h2] at h
      injection h with h _
      rw [h]
    rw [if_pos (by omega), if_pos (by omega), if_pos (by omega), show (i : Int) + 1 = ((i + 1 : Nat) : Int) by omega, hb1]
    by_cases h61 : d = 61
    · subst h61
      rw [if_pos (by decide)]
      by_cases e1 : c = 60
      · subst e1; rw [if_pos (by decide), hj]; simp [isPair]
      have f1 : ¬ (c.toNat : Int) = 60 := fun h => e1 ((u8_eq (n := 60) (by omega)).1 h)
      rw [if_neg f1]
      by_cases e2 : c = 62
      · subst e2; rw [if_pos (by decide), hj]; simp [isPair]
      have f2 : ¬ (c.toNat : Int) = 62 := fun h => e2 ((u8_eq (n := 62) (by omega)).1 h)
      rw [if_neg f2]
      by_cases e3 : c = 61
      · subst e3; rw [if_pos (by decide), hj]; simp [isPair]
      have f3 : ¬ (c.toNat : Int) = 61 := fun h => e3 ((u8_eq (n := 61) (by omega)).1 h)
      rw [if_neg f3, hj]
      by_cases e4 : c = 33
      · subst e4; simp [isPair]
      have f4 : ¬ (c.toNat : Int) = 33 := fun h => e4 ((u8_eq (n := 33) (by omega)).1 h)
      have f4' : ((c.toNat : Int) == 33) = false := by simpa using f4
      rw [f4']
      simp [isPair, e1, e2, e3, e4]
    · have : ¬ (d.toNat : Int) = 61 := fun h => h61 ((u8_eq (n := 61) (by omega)).1 h)
      rw [if_neg this, hj]
      simp [h61]
  · obtain rfl : r = [] := List.eq_nil_of_length_eq_zero (by omega)
    rw [if_neg (by omega), hj]
    simp

/-- The reference's token at a place. -/
theorem rToken_f (s : ByteArray) (hs : s.size ≤ 140737488351232) (i : Nat) (hi : i < s.size) (k : Nat) (hk : 2 * s.size + 20 < k) :
    ∃ x : Int × Int × ByteArray × Int × Int, octroiref04_token.f k s i = some (match tokL ((bs s).drop i) with
      | .ok c => (c.kind, (c.num : Int), ⟨c.text.toArray⟩, (i : Int), ((i + c.len : Nat) : Int), 0)
      | .error e => (x.1, x.2.1, x.2.2.1, x.2.2.2.1, x.2.2.2.2, e)) := by
  obtain ⟨r, hr, _⟩ := bt_drop s i hi
  have hb := bt_nat s i hi
  generalize (bs s)[i]'(by rw [bs_len]; exact hi) = c at hr hb
  have hlen : r.length + 1 = s.size - i := by rw [← bs_len, ← List.length_drop, hr]; rfl
  unfold octroiref04_token.f
  rw [if_pos (by omega), if_pos (by omega), hb, rLetter_f]
  simp only [Option.bind_some]
  by_cases hl : isLetter (c.toNat : Int) = true
  · have h := rName_l0 s hs i 0 0 (⟨#[]⟩ : ByteArray) i s.size k i (Nat.le_refl _) (by omega) (by omega) (by omega)
    refine ⟨(0, 0, (⟨#[]⟩ : ByteArray), (i : Int), ((i + runL isInner ((bs s).drop i) : Nat) : Int)), ?_⟩
    rw [if_pos hl, h, hr]
    have hle := runL_le isInner (c :: r)
    have htx : s.extract i (i + runL isInner (c :: r)) = ⟨((c :: r).take (runL isInner (c :: r))).toArray⟩ := ext_bs (by
      rw [bs_extract, ← hr, List.drop_take]
      simp [bs])
    simp only [tokL, hl, if_true, nameR]
    by_cases h32 : runL isInner (c :: r) > 32
    · rw [if_pos (by omega), if_pos h32]
    · rw [if_neg (by omega), if_neg h32, htx]
      rfl
  · have hl' : isLetter (c.toNat : Int) = false := by simpa using hl
    rw [if_neg hl, rDigit_f]
    simp only [Option.bind_some]
    by_cases hd : isDigit (c.toNat : Int) = true
    · obtain ⟨x, hx⟩ := rNum_l1 s hs 0 (⟨#[]⟩ : ByteArray) i s.size k i 0 (by omega) (by omega) (by omega) (by omega)
      refine ⟨x, ?_⟩
      rw [if_pos hd]
      have hx' : octroiref04_token.l1 k s 0 0 (⟨#[]⟩ : ByteArray) i i = _ := hx
      rw [hx', hr, ← numL_eq]
      simp only [tokL, hl', hd, if_true, Bool.false_eq_true, if_false, numR]
      generalize numL ((c :: r).take (runL isDigit (c :: r))) = N
      by_cases hbig : N > 1000000000000
      · rw [if_pos hbig, if_pos hbig]
      · rw [if_neg hbig, if_neg hbig]
    · have hd' : isDigit (c.toNat : Int) = false := by simpa using hd
      refine ⟨(0, 0, (⟨#[]⟩ : ByteArray), (i : Int), (i : Int)), ?_⟩
      rw [if_neg hd, rMark_f s hs i hi c r hr k (by omega), hr]
      simp only [Option.bind_some, tokL, hl', hd', Bool.false_eq_true, if_false]
      by_cases h1 : (isPair c && r.head? == some 61) = true
      · rw [if_pos h1, if_pos h1, if_neg (by decide)]
        have h2 : i + 2 ≤ s.size := by
          cases r with
          | nil => simp at h1
          | cons d r' => simp at hlen; omega
        have htx : s.extract i (i + 2) = ⟨((c :: r).take 2).toArray⟩ := ext_bs (by
          rw [bs_extract, ← hr, List.drop_take]
          simp [bs])
        rw [wrap_small (by omega) (by omega), if_pos (by omega), if_pos (by omega)]
        simp only [Int.toNat_natCast]
        rw [show ((i : Int) + 2).toNat = i + 2 by omega, htx]
        rfl
      · rw [if_neg h1, if_neg h1]
        by_cases h2 : isOne c = true
        · rw [if_pos h2, if_pos h2, if_neg (by decide)]
          have htx : s.extract i (i + 1) = ⟨[c].toArray⟩ := ext_bs (by
            rw [bs_extract, List.drop_take, hr]
            simp [bs])
          rw [wrap_small (by omega) (by omega), if_pos (by omega), if_pos (by omega)]
          simp only [Int.toNat_natCast]
          rw [show ((i : Int) + 1).toNat = i + 1 by omega, htx]
          rfl
        · rw [if_neg h2, if_neg h2, if_pos rfl]

theorem ref_l0 (s : ByteArray) (hs : s.size ≤ 8192) {i : Nat} {l : List UInt8} {ts : List Tk} {e : Option (Nat × Int)} (h : Sc i l ts e) :
    l = (bs s).drop i → i ≤ s.size → ∀ acc : List S, acc.length ≤ i → ∃ K, ∀ k, K ≤ k → octroiref04_Scan.l0 k s acc ((i + gapL false l : Nat) : Int) = some (resOf acc ts e) := by
  induction h with
  | @fin i l h =>
    intro hl hi acc hacc
    have hlen : l.length = s.size - i := by rw [hl, List.length_drop, bs_len]
    refine ⟨1, fun k hk => ?_⟩
    obtain ⟨k, rfl⟩ : ∃ m, k = m + 1 := ⟨k - 1, by omega⟩
    simp only [octroiref04_Scan.l0]
    rw [if_neg (by omega), if_pos (by omega)]
    simp only [resOf, List.map_cons, List.map_nil, toS]
    rw [show i + l.length = s.size by omega]
    rfl
  | @bad i l e h ht =>
    intro hl hi acc hacc
    have hlen : l.length = s.size - i := by rw [hl, List.length_drop, bs_len]
    have hd : (bs s).drop (i + gapL false l) = l.drop (gapL false l) := by rw [hl, List.drop_drop]
    refine ⟨2 * s.size + 25, fun k hk => ?_⟩
    obtain ⟨k, rfl⟩ : ∃ m, k = m + 1 := ⟨k - 1, by omega⟩
    obtain ⟨x, hx⟩ := rToken_f s (by omega) (i + gapL false l) (by omega) k (by omega)
    rw [hd, ht] at hx
    simp only [octroiref04_Scan.l0]
    rw [if_pos (by omega), hx]
    simp only [Option.bind_some]
    have := tokL_err ht
    rw [if_neg (by omega)]
    rfl
  | @tok i l c ts e h ht hs' ih =>
    intro hl hi acc hacc
    have hlen : l.length = s.size - i := by rw [hl, List.length_drop, bs_len]
    have hd : (bs s).drop (i + gapL false l) = l.drop (gapL false l) := by rw [hl, List.drop_drop]
    have hc := tokL_len ht
    rw [List.length_drop] at hc
    obtain ⟨K, hK⟩ := ih (by rw [hl, List.drop_drop]; congr 1; omega) (by omega) (acc ++ [toS ⟨c.kind, c.num, c.text, i + gapL false l, i + gapL false l + c.len⟩]) (by simp; omega)
    refine ⟨K + 3 * s.size + 25, fun k hk => ?_⟩
    obtain ⟨k, rfl⟩ : ∃ m, k = m + 1 := ⟨k - 1, by omega⟩
    obtain ⟨x, hx⟩ := rToken_f s (by omega) (i + gapL false l) (by omega) k (by omega)
    rw [hd, ht] at hx
    have hgap := behind_f s (by omega) (i + gapL false l + c.len) (by omega) k (by omega)
    have hd2 : (bs s).drop (i + gapL false l + c.len) = l.drop (gapL false l + c.len) := by rw [hl, List.drop_drop]; congr 1; omega
    simp only [octroiref04_Scan.l0]
    rw [if_pos (by omega), hx]
    simp only [Option.bind_some, if_true]
    rw [if_pos (by omega), hgap, hd2]
    simp only [Option.bind_some]
    have := hK k (by omega)
    simp only [toS] at this ⊢
    rw [this]
    cases e with
    | none => simp [resOf, toS]
    | some p => obtain ⟨p, e⟩ := p; simp [resOf]

theorem ref_f (s : ByteArray) (hs : s.size ≤ 140737488351232) {ts : List Tk} {e : Option (Nat × Int)} (h : Sc 0 (bs s) ts e) : ∃ K, ∀ k, K ≤ k → octroiref04_Scan.f k s = some (scanR s ts e) := by
  unfold scanR
  by_cases hb : s.size > 8192
  · refine ⟨0, fun k _ => ?_⟩
    unfold octroiref04_Scan.f
    rw [if_pos (by omega), if_pos hb]
  · obtain ⟨K, hK⟩ := ref_l0 s (by omega) h rfl (by omega) [] (by simp)
    refine ⟨K + 3 * s.size + 5, fun k hk => ?_⟩
    have hbh := behind_f s hs 0 (by omega) k (by omega)
    unfold octroiref04_Scan.f
    rw [if_neg (by omega), if_neg hb, show (0 : Int) = ((0 : Nat) : Int) from rfl, hbh]
    simp only [Option.bind_some, List.drop_zero]
    have := hK k (by omega)
    simpa using this
end Go.Proofs.Ytfkikmiajldojaa.S
