/- What the proof needs, part 10 of 21. TreeKeeps: for every raw plan and number Part leaves its arguments as they were, and what it answers is new memory. -/
import Derived.Lib.Hide
set_option linter.unusedVariables false
set_option linter.unusedSimpArgs false
namespace Go.Proofs.YthbnigjckjkmnaaDoor.Pure
def isLetter (c : Int) : Bool := decide (97 ≤ c) && decide (c ≤ 122)
def isDigit (c : Int) : Bool := decide (48 ≤ c) && decide (c ≤ 57)
def isInner (c : Int) : Bool := isLetter c || isDigit c || c == 95
def runL (p : Int → Bool) : List UInt8 → Nat
  | [] => 0
  | c :: r => if p (c.toNat : Int) = true then runL p r + 1 else 0
theorem runL_drop (p : Int → Bool) (s : ByteArray) (k : Nat) (h : k < s.size) :
    runL p (s.data.toList.drop k) = if p ((s[k]'h).toNat : Int) = true then runL p (s.data.toList.drop (k + 1)) + 1 else 0 := by
  have h' : k < s.data.toList.length := by rw [Array.length_toList]; exact h
  rw [List.drop_eq_getElem_cons h']
  rfl
end Go.Proofs.YthbnigjckjkmnaaDoor.Pure
