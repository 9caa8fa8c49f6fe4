/- More of the plain scan: what stands behind or is cut off changes no token ahead of it. -/
import Derived.Test.YtfkikmiajldojaaScanPure
set_option linter.unusedVariables false
set_option linter.unusedSimpArgs false
namespace Go.Proofs.Ytfkikmiajldojaa.Pure

theorem gap_app {b : Bool} {l : List UInt8} (m : List UInt8) (h : gapL b l < l.length) : gapL b (l ++ m) = gapL b l := by
  induction l generalizing b with
  | nil => simp at h
  | cons c r ih =>
    cases b with
    | true =>
      simp only [gapL, List.length_cons, List.cons_append] at h ⊢
      rw [ih (by omega)]
    | false =>
      simp only [gapL, List.length_cons, List.cons_append] at h ⊢
      by_cases h1 : (c == 35) = true
      · rw [if_pos h1] at h; rw [if_pos h1, if_pos h1, ih (by omega)]
      · rw [if_neg h1] at h; rw [if_neg h1, if_neg h1]
        by_cases h2 : isBlank c = true
        · rw [if_pos h2] at h; rw [if_pos h2, if_pos h2, ih (by omega)]
        · rw [if_neg h2, if_neg h2]

theorem gap_cut {b : Bool} {l : List UInt8} {n : Nat} (h : gapL b l ≤ n) (h2 : gapL b l < l.length) : gapL b (l.take n) = gapL b l := by
  induction l generalizing b n with
  | nil => simp at h2
  | cons c r ih =>
    cases n with
    | zero =>
      have : gapL b (c :: r) = 0 := by omega
      simp [gapL, this]
    | succ n =>
      rw [List.take_succ_cons]
      cases b with
      | true =>
        simp only [gapL, List.length_cons] at h h2 ⊢
        rw [ih (by omega) (by omega)]
      | false =>
        simp only [gapL, List.length_cons] at h h2 ⊢
        by_cases h1 : (c == 35) = true
        · rw [if_pos h1] at h h2; rw [if_pos h1, if_pos h1, ih (by omega) (by omega)]
        · rw [if_neg h1] at h h2; rw [if_neg h1, if_neg h1]
          by_cases h3 : isBlank c = true
          · rw [if_pos h3] at h h2; rw [if_pos h3, if_pos h3, ih (by omega) (by omega)]
          · rw [if_neg h3, if_neg h3]

/-- A row of gaps and nothing else. -/
theorem gap_all {b : Bool} {l : List UInt8} (h : gapL b l < l.length) : gapL b (l.take (gapL b l)) = (l.take (gapL b l)).length := by
  rw [gap_cut (Nat.le_refl _) h, List.length_take]
  omega

theorem runL_app {p : Int → Bool} {l m : List UInt8} (hm : ∀ c r, m = c :: r → p (c.toNat : Int) = false) : runL p (l ++ m) = runL p l := by
  induction l with
  | nil =>
    cases m with
    | nil => rfl
    | cons c r => simp [runL, hm c r rfl]
  | cons c r ih =>
    simp only [runL, List.cons_append, ih]
theorem runL_cut {p : Int → Bool} {l : List UInt8} {n : Nat} (h : runL p l ≤ n) : runL p (l.take n) = runL p l := by
  induction l generalizing n with
  | nil => simp [runL]
  | cons c r ih =>
    cases n with
    | zero =>
      have : runL p (c :: r) = 0 := by omega
      rw [this]; rfl
    | succ n =>
      rw [List.take_succ_cons]
      simp only [runL] at h ⊢
      by_cases h1 : p (c.toNat : Int) = true
      · rw [if_pos h1] at h; rw [if_pos h1, if_pos h1, ih (by omega)]
      · rw [if_neg h1, if_neg h1]

theorem digit_inner {c : Int} (h : isInner c = false) : isDigit c = false := by
  unfold isInner at h
  simp only [Bool.or_eq_false_iff] at h
  exact h.1.2

/-- What may stand behind a text without a change to its tokens: nothing, or what begins with a byte that is no part of one. -/
def Apart (m : List UInt8) : Prop := ∀ c r, m = c :: r → isInner (c.toNat : Int) = false ∧ c ≠ 61

theorem tokL_app {l m : List UInt8} (hl : l ≠ []) (hm : Apart m) : tokL (l ++ m) = tokL l := by
  cases l with
  | nil => exact absurd rfl hl
  | cons a r =>
    have h1 : runL isInner (a :: (r ++ m)) = runL isInner (a :: r) := runL_app (l := a :: r) (fun c r h => (hm c r h).1)
    have h2 : runL isDigit (a :: (r ++ m)) = runL isDigit (a :: r) := runL_app (l := a :: r) (fun c r h => digit_inner (hm c r h).1)
    have t1 : ∀ n, n ≤ (a :: r).length → (a :: (r ++ m)).take n = (a :: r).take n := fun n hn => List.take_append_of_le_length (l₁ := a :: r) hn
    have hp : ((r ++ m).head? == some 61) = (r.head? == some 61) := by
      cases r with
      | cons b r => rfl
      | nil =>
        cases m with
        | nil => rfl
        | cons c m => simp [(hm c m rfl).2]
    rw [List.cons_append]
    simp only [tokL]
    rw [h1, h2, t1 _ (runL_le _ _), t1 _ (runL_le _ _), hp]
    split
    · rfl
    · split
      · rfl
      · split
        · rename_i h
          have : 2 ≤ (a :: r).length := by
            cases r with
            | nil => simp at h
            | cons b r => simp
          rw [t1 2 this]
        · rfl

theorem tokL_cut {l : List UInt8} {c : Cut} {n : Nat} (h : tokL l = .ok c) (hn : c.len ≤ n) : tokL (l.take n) = .ok c := by
  have hlen := tokL_len h
  cases l with
  | nil => simp [tokL] at h
  | cons a r =>
    obtain ⟨n, rfl⟩ : ∃ m, n = m + 1 := ⟨n - 1, by omega⟩
    rw [List.take_succ_cons]
    simp only [tokL] at h ⊢
    by_cases hl : isLetter (a.toNat : Int) = true
    · rw [if_pos hl] at h ⊢
      by_cases h32 : runL isInner (a :: r) > 32
      · rw [if_pos h32] at h; cases h
      · rw [if_neg h32] at h
        cases h
        have e : runL isInner (a :: r.take n) = runL isInner (a :: r) := runL_cut (l := a :: r) (n := n + 1) hn
        rw [e, if_neg h32]
        have : (a :: r.take n).take (runL isInner (a :: r)) = (a :: r).take (runL isInner (a :: r)) := by
          rw [← List.take_succ_cons, List.take_take, Nat.min_eq_left hn]
        rw [this]
    · rw [if_neg hl] at h ⊢
      by_cases hd : isDigit (a.toNat : Int) = true
      · rw [if_pos hd] at h ⊢
        by_cases hb : numL ((a :: r).take (runL isDigit (a :: r))) > 1000000000000
        · rw [if_pos hb] at h; cases h
        · rw [if_neg hb] at h
          cases h
          have e : runL isDigit (a :: r.take n) = runL isDigit (a :: r) := runL_cut (l := a :: r) (n := n + 1) hn
          have : (a :: r.take n).take (runL isDigit (a :: r)) = (a :: r).take (runL isDigit (a :: r)) := by
            rw [← List.take_succ_cons, List.take_take, Nat.min_eq_left hn]
          rw [e, this, if_neg hb]
      · rw [if_neg hd] at h ⊢
        by_cases hp : (isPair a && r.head? == some 61) = true
        · rw [if_pos hp] at h
          cases h
          obtain ⟨n, rfl⟩ : ∃ m, n = m + 1 := ⟨n - 1, by simp at hn; omega⟩
          cases r with
          | nil => simp at hp
          | cons b r =>
            rw [List.take_succ_cons]
            have : (isPair a && (b :: r.take n).head? == some 61) = true := hp
            rw [if_pos this]
            rfl
        · have : ¬ (isPair a && (r.take n).head? == some 61) = true := by
            intro hq
            apply hp
            cases r with
            | nil => simp at hq
            | cons b r =>
              cases n with
              | zero => simp at hq
              | succ n => exact hq
          rw [if_neg hp] at h
          rw [if_neg this]
          exact h

theorem tok_gap {l : List UInt8} {c : Cut} (h : tokL l = .ok c) : gapL false l = 0 := by
  cases l with
  | nil => rfl
  | cons a r =>
    have h1 : a ≠ 35 ∧ isBlank a = false := by
      refine ⟨?_, ?_⟩
      · rintro rfl
        have h' : tokL (35 :: r) = .error 40 := rfl
        rw [h'] at h; cases h
      · cases hb : isBlank a with
        | false => rfl
        | true =>
          exfalso
          have : a = 32 ∨ a = 9 ∨ a = 10 ∨ a = 13 := by
            simp [isBlank] at hb
            rcases hb with ((h | h) | h) | h <;> simp [h]
          rcases this with rfl | rfl | rfl | rfl
          · have h' : tokL (32 :: r) = .error 40 := rfl
            rw [h'] at h; cases h
          · have h' : tokL (9 :: r) = .error 40 := rfl
            rw [h'] at h; cases h
          · have h' : tokL (10 :: r) = .error 40 := rfl
            rw [h'] at h; cases h
          · have h' : tokL (13 :: r) = .error 40 := rfl
            rw [h'] at h; cases h
    simp only [gapL]
    rw [if_neg (by simpa using h1.1), if_neg (by simp [h1.2])]

theorem Sc.ahead {i : Nat} {l : List UInt8} {ts : List Tk} {e : Option (Nat × Int)} (h : Sc i l ts e) : ∀ p x, e = some (p, x) → i ≤ p ∧ p < i + l.length ∧ ∃ ts', Sc i (l.take (p - i)) ts' none := by
  induction h with
  | fin _ => intro p x h; cases h
  | @bad i l e hg ht =>
    intro p x he
    cases he
    refine ⟨by omega, by omega, ?_⟩
    rw [Nat.add_sub_cancel_left]
    exact ⟨_, .fin (gap_all hg)⟩
  | @tok i l c ts e hg ht hs ih =>
    intro p x he
    obtain ⟨h1, h2, ts', h3⟩ := ih p x he
    have hc := tokL_len ht
    rw [List.length_drop] at hc h2
    refine ⟨by omega, by omega, ?_⟩
    have hgap : gapL false (l.take (p - i)) = gapL false l := gap_cut (by omega) hg
    have hd : (l.take (p - i)).drop (gapL false l) = (l.drop (gapL false l)).take (p - i - gapL false l) := List.drop_take
    have ht' : tokL ((l.take (p - i)).drop (gapL false (l.take (p - i)))) = .ok c := by
      rw [hgap, hd]
      exact tokL_cut ht (by omega)
    have hs' : Sc (i + gapL false (l.take (p - i)) + c.len) ((l.take (p - i)).drop (gapL false (l.take (p - i)) + c.len)) ts' none := by
      rw [hgap, List.drop_take, show p - i - (gapL false l + c.len) = p - (i + gapL false l + c.len) by omega]
      exact h3
    exact ⟨_, .tok (by rw [hgap, List.length_take]; omega) ht' hs'⟩

theorem Sc.behind {i : Nat} {l m : List UInt8} {ts : List Tk} {e : Option (Nat × Int)} (h : Sc i l ts e) (hm : Apart m) : ∀ x, e = some x → Sc i (l ++ m) ts (some x) := by
  induction h with
  | fin _ => intro x h; cases h
  | @bad i l e hg ht =>
    intro x he
    cases he
    have h1 := gap_app m hg
    have h2 : (l ++ m).drop (gapL false l) = l.drop (gapL false l) ++ m := List.drop_append_of_le_length (by omega)
    have := Sc.bad (i := i) (l := l ++ m) (e := e) (by rw [h1, List.length_append]; omega) (by
      rw [h1, h2, tokL_app (fun h => by have := congrArg List.length h; simp at this; omega) hm]
      exact ht)
    rw [h1] at this
    exact this
  | @tok i l c ts e hg ht hs ih =>
    intro x he
    have hc := tokL_len ht
    rw [List.length_drop] at hc
    have h1 := gap_app m hg
    have h2 : (l ++ m).drop (gapL false l) = l.drop (gapL false l) ++ m := List.drop_append_of_le_length (by omega)
    have h3 : (l ++ m).drop (gapL false l + c.len) = l.drop (gapL false l + c.len) ++ m := List.drop_append_of_le_length (by omega)
    have := Sc.tok (i := i) (l := l ++ m) (c := c) (ts := ts) (e := some x) (by rw [h1, List.length_append]; omega) (by
      rw [h1, h2, tokL_app (fun h => by have := congrArg List.length h; simp at this; omega) hm]
      exact ht) (by rw [h1, h3]; exact ih x he)
    rw [h1] at this
    exact this
theorem Sc.length_le {i : Nat} {l : List UInt8} {ts : List Tk} {e : Option (Nat × Int)} (h : Sc i l ts e) : ts.length ≤ l.length + 1 := by
  induction h with
  | fin _ => simp
  | bad _ _ => simp
  | @tok i l c ts e h ht hs ih =>
    have hc := tokL_len ht
    rw [List.length_drop] at hc ih
    simp only [List.length_cons]
    omega

end Go.Proofs.Ytfkikmiajldojaa.Pure
