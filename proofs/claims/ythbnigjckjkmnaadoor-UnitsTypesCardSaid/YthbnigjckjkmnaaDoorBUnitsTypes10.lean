/- What the proof needs, part 10 of 19. Types of every raw plan: the answer is the reference's, with places and errors. For every plan that the card lets in. -/
import Derived.Lib.Hide
set_option linter.unusedVariables false
set_option linter.unusedSimpArgs false
namespace Go.Proofs.YthbnigjckjkmnaaDoor.Pure
def isLetter (c : Int) : Bool := decide (97 ≤ c) && decide (c ≤ 122)
def isDigit (c : Int) : Bool := decide (48 ≤ c) && decide (c ≤ 57)
def isInner (c : Int) : Bool := isLetter c || isDigit c || c == 95
def notNl (c : Int) : Bool := c != 10
def isBlank (c : UInt8) : Bool := c == 32 || c == 9 || c == 10 || c == 13
def runL (p : Int → Bool) : List UInt8 → Nat
  | [] => 0
  | c :: r => if p (c.toNat : Int) = true then runL p r + 1 else 0
theorem runL_le (p : Int → Bool) (l : List UInt8) : runL p l ≤ l.length := by
  induction l with
  | nil => simp [runL]
  | cons c r ih => simp only [runL, List.length_cons]; split <;> omega
theorem runL_drop (p : Int → Bool) (s : ByteArray) (k : Nat) (h : k < s.size) :
    runL p (s.data.toList.drop k) = if p ((s[k]'h).toNat : Int) = true then runL p (s.data.toList.drop (k + 1)) + 1 else 0 := by
  have h' : k < s.data.toList.length := by rw [Array.length_toList]; exact h
  rw [List.drop_eq_getElem_cons h']
  rfl
def gapL : Bool → List UInt8 → Nat
  | _, [] => 0
  | true, c :: r => gapL (c != 10) r + 1
  | false, c :: r => if c == 35 then gapL true r + 1 else if isBlank c then gapL false r + 1 else 0
theorem gapL_le (b : Bool) (l : List UInt8) : gapL b l ≤ l.length := by
  induction l generalizing b with
  | nil => simp [gapL]
  | cons c r ih =>
    cases b with
    | true => simp only [gapL, List.length_cons]; have := ih (c != 10); omega
    | false =>
      simp only [gapL, List.length_cons]
      have h1 := ih true
      have h2 := ih false
      repeat' split
      all_goals omega
def numL (l : List UInt8) : Nat := l.foldl (fun n c => 10 * n + (c.toNat - 48)) 0
def isPair (c : UInt8) : Bool := c == 60 || c == 62 || c == 61 || c == 33
def isOne (c : UInt8) : Bool := [40, 41, 123, 125, 44, 58, 43, 45, 42, 36, 61, 60, 62].contains c
structure Cut where
  kind : Int
  num : Nat
  text : List UInt8
  len : Nat
def tokL : List UInt8 → Except Int Cut
  | [] => .error 40
  | c :: r =>
    if isLetter (c.toNat : Int) then
      if runL isInner (c :: r) > 32 then .error 2 else .ok ⟨1, 0, (c :: r).take (runL isInner (c :: r)), runL isInner (c :: r)⟩
    else if isDigit (c.toNat : Int) then
      if numL ((c :: r).take (runL isDigit (c :: r))) > 1000000000000 then .error 30 else .ok ⟨2, numL ((c :: r).take (runL isDigit (c :: r))), [], runL isDigit (c :: r)⟩
    else if isPair c && r.head? == some 61 then .ok ⟨3, 0, (c :: r).take 2, 2⟩
    else if isOne c then .ok ⟨3, 0, [c], 1⟩
    else .error 40
structure Tk where
  kind : Int
  num : Nat
  text : List UInt8
  start : Nat
  stop : Nat
inductive Sc : Nat → List UInt8 → List Tk → Option (Nat × Int) → Prop
  | fin {i : Nat} {l : List UInt8} (h : gapL false l = l.length) : Sc i l [⟨0, 0, [], i + l.length, i + l.length⟩] none
  | bad {i : Nat} {l : List UInt8} {e : Int} (h : gapL false l < l.length) (ht : tokL (l.drop (gapL false l)) = .error e) : Sc i l [] (some (i + gapL false l, e))
  | tok {i : Nat} {l : List UInt8} {c : Cut} {ts : List Tk} {e : Option (Nat × Int)} (h : gapL false l < l.length) (ht : tokL (l.drop (gapL false l)) = .ok c)
      (hs : Sc (i + gapL false l + c.len) (l.drop (gapL false l + c.len)) ts e) : Sc i l (⟨c.kind, c.num, c.text, i + gapL false l, i + gapL false l + c.len⟩ :: ts) e
theorem runL_pos {p : Int → Bool} {c : UInt8} {r : List UInt8} (h : p (c.toNat : Int) = true) : 0 < runL p (c :: r) := by simp [runL, h]
theorem isInner_of_letter {c : Int} (h : isLetter c = true) : isInner c = true := by simp [isInner, h]
theorem tokL_len {l : List UInt8} {c : Cut} (h : tokL l = .ok c) : 0 < c.len ∧ c.len ≤ l.length := by
  cases l with
  | nil => simp [tokL] at h
  | cons a r =>
    simp only [tokL] at h
    split at h
    · rename_i hl
      split at h
      · cases h
      · cases h
        exact ⟨runL_pos (isInner_of_letter hl), runL_le _ _⟩
    · split at h
      · rename_i hd
        split at h
        · cases h
        · cases h
          exact ⟨runL_pos hd, runL_le _ _⟩
      · split at h
        · rename_i hp
          cases h
          cases r with
          | nil => simp at hp
          | cons b r => simp
        · split at h
          · cases h; simp
          · cases h
theorem Sc.total (i : Nat) (l : List UInt8) : ∃ ts e, Sc i l ts e := by
  obtain ⟨n, hn⟩ : ∃ n, l.length ≤ n := ⟨_, Nat.le_refl _⟩
  induction n generalizing i l with
  | zero =>
    have : l = [] := List.eq_nil_of_length_eq_zero (by omega)
    subst this
    exact ⟨_, _, .fin rfl⟩
  | succ n ih =>
    rcases Nat.lt_or_ge (gapL false l) l.length with h | h
    · cases ht : tokL (l.drop (gapL false l)) with
      | error e => exact ⟨_, _, .bad h ht⟩
      | ok c =>
        have hc := tokL_len ht
        rw [List.length_drop] at hc
        obtain ⟨ts, e, hs⟩ := ih (i + gapL false l + c.len) (l.drop (gapL false l + c.len)) (by rw [List.length_drop]; omega)
        exact ⟨_, _, .tok h ht hs⟩
    · exact ⟨_, _, .fin (Nat.le_antisymm (gapL_le _ _) h)⟩
theorem Sc.unique {i : Nat} {l : List UInt8} {ts ts' : List Tk} {e e' : Option (Nat × Int)} (h : Sc i l ts e) (h' : Sc i l ts' e') : ts = ts' ∧ e = e' := by
  induction h generalizing ts' e' with
  | fin h0 =>
    cases h' with
    | fin _ => exact ⟨rfl, rfl⟩
    | bad h1 _ => omega
    | tok h1 _ _ => omega
  | bad h0 ht =>
    cases h' with
    | fin _ => omega
    | bad _ ht' => rw [ht] at ht'; cases ht'; exact ⟨rfl, rfl⟩
    | tok _ ht' _ => rw [ht] at ht'; cases ht'
  | tok h0 ht hs ih =>
    cases h' with
    | fin _ => omega
    | bad _ ht' => rw [ht] at ht'; cases ht'
    | tok _ ht' hs' =>
      rw [ht] at ht'
      cases ht'
      obtain ⟨rfl, rfl⟩ := ih hs'
      exact ⟨rfl, rfl⟩
end Go.Proofs.YthbnigjckjkmnaaDoor.Pure
