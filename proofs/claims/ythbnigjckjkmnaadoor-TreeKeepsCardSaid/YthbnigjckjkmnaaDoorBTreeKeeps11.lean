/- What the proof needs, part 11 of 21. TreeKeeps: for every raw plan and number Part leaves its arguments as they were, and what it answers is new memory. -/
import Derived.Test.YthbnigjckjkmnaaDoorBTreeKeeps5
import Derived.Test.YthbnigjckjkmnaaDoorBTreeKeeps10
set_option linter.unusedVariables false
set_option linter.unusedSimpArgs false
namespace Go.Proofs.YthbnigjckjkmnaaDoor.S
open Go.RowKit Go.Proofs.YthbnigjckjkmnaaDoorW.PrintWords Go.Proofs.YthbnigjckjkmnaaDoor.Pure
theorem letter_any (c : Int) (w : World) : Calls Tryd.prog 76 #[.int .u8 c] w fun e w' => e = .returned (.bool (isLetter c)) ∧ w = w' := by
  by_cases h1 : 97 ≤ c
  · by_cases h2 : c ≤ 122
    · go_enter Tryd.func76, Tryd.ntmps76
      go_wp2
      go_ret
      exact ⟨by simp [isLetter, h1, h2], rfl⟩
    · go_enter Tryd.func76, Tryd.ntmps76
      go_wp2
      go_ret
      exact ⟨by simp [isLetter, h2], rfl⟩
  · go_enter Tryd.func76, Tryd.ntmps76
    go_wp2
    go_ret
    exact ⟨by simp [isLetter]; omega, rfl⟩
theorem digit_any (c : Int) (w : World) : Calls Tryd.prog 86 #[.int .u8 c] w fun e w' => e = .returned (.bool (isDigit c)) ∧ w = w' := by
  by_cases h1 : 48 ≤ c
  · by_cases h2 : c ≤ 57
    · go_enter Tryd.func86, Tryd.ntmps86
      go_wp2
      go_ret
      exact ⟨by simp [isDigit, h1, h2], rfl⟩
    · go_enter Tryd.func86, Tryd.ntmps86
      go_wp2
      go_ret
      exact ⟨by simp [isDigit, h2], rfl⟩
  · go_enter Tryd.func86, Tryd.ntmps86
    go_wp2
    go_ret
    exact ⟨by simp [isDigit]; omega, rfl⟩
theorem inner_any (c : Int) (w : World) : Calls Tryd.prog 78 #[.int .u8 c] w fun e w' => e = .returned (.bool (isInner c)) ∧ w = w' := by
  cases h1 : isLetter c with
  | true =>
    go_enter Tryd.func78, Tryd.ntmps78
    go_wp2_with (go_at_call 76; refine (letter_any _ _).mono ?_; rintro e w' ⟨rfl, rfl⟩)
    go_ret
    exact ⟨by simp [isInner, h1], rfl⟩
  | false =>
    cases h2 : isDigit c with
    | true =>
      go_enter Tryd.func78, Tryd.ntmps78
      go_wp2_with (first | (go_at_call 76; refine (letter_any _ _).mono ?_; rintro e w' ⟨rfl, rfl⟩) | (go_at_call 86; refine (digit_any _ _).mono ?_; rintro e w' ⟨rfl, rfl⟩))
      go_ret
      exact ⟨by simp [isInner, h1, h2], rfl⟩
    | false =>
      go_enter Tryd.func78, Tryd.ntmps78
      go_wp2_with (first | (go_at_call 76; refine (letter_any _ _).mono ?_; rintro e w' ⟨rfl, rfl⟩) | (go_at_call 86; refine (digit_any _ _).mono ?_; rintro e w' ⟨rfl, rfl⟩))
      go_ret
      exact ⟨by simp [isInner, h1, h2], rfl⟩
set_option maxHeartbeats 1000000 in
theorem run_letter (s : ByteArray) (w : World) (hs : s.size ≤ maxLen) :
    Calls Tryd.prog 77 #[.string s, .func (.func 76) #[] #[]] w fun e w' => e = .returned (.int .i64 (runL isLetter s.data.toList)) ∧ w = w' := by
  unfold maxLen at hs
  go_enter Tryd.func77, Tryd.ntmps77
  go_wp2
  go_loop [5] (fun n => ∃ k : Nat, k ≤ s.size ∧ n = .int .i64 k ∧ zAJ (runL isLetter s.data.toList = k + runL isLetter (s.data.toList.drop k))) (fun n => s.size - (intOf n).toNat)
  case atStart => exact ⟨0, Nat.zero_le _, rfl, ⟨by simp⟩⟩
  case round =>
    obtain ⟨k, hk, rfl, HR⟩ := hrel
    by_cases hlt : k < s.size
    · have hstep := runL_drop isLetter s k hlt
      have HS := aK_ hstep
      clear hstep
      cases hp : isLetter (s[k].toNat : Int) with
      | true =>
        have hp' := aK_ hp
        clear hp
        go_wp2_with (go_at_call 76; refine (letter_any _ _).mono ?_; rintro e w' ⟨rfl, rfl⟩; rw [hp'.out])
        go_round
        case rel => exact ⟨k + 1, by omega, by go_num, ⟨by have h1 := HR.out; have h2 := HS.out; rw [hp'.out] at h2; simp at h2; omega⟩⟩
        case measure => simp [intOf]; omega
      | false =>
        have hp' := aK_ hp
        clear hp
        go_wp2_with (go_at_call 76; refine (letter_any _ _).mono ?_; rintro e w' ⟨rfl, rfl⟩; rw [hp'.out])
        go_ret
        exact ⟨by have h1 := HR.out; have h2 := HS.out; rw [hp'.out] at h2; simp at h2; rw [h1, h2]; simp, rfl⟩
    · go_wp2
      go_ret
      exact ⟨by have h1 := HR.out; have hk' : s.data.toList.length ≤ k := by rw [Array.length_toList]; exact Nat.le_of_not_lt hlt
                rw [List.drop_of_length_le hk'] at h1; rw [h1]; simp [runL], rfl⟩
set_option maxHeartbeats 1000000 in
theorem run_inner (s : ByteArray) (w : World) (hs : s.size ≤ maxLen) :
    Calls Tryd.prog 77 #[.string s, .func (.func 78) #[] #[]] w fun e w' => e = .returned (.int .i64 (runL isInner s.data.toList)) ∧ w = w' := by
  unfold maxLen at hs
  go_enter Tryd.func77, Tryd.ntmps77
  go_wp2
  go_loop [5] (fun n => ∃ k : Nat, k ≤ s.size ∧ n = .int .i64 k ∧ zAJ (runL isInner s.data.toList = k + runL isInner (s.data.toList.drop k))) (fun n => s.size - (intOf n).toNat)
  case atStart => exact ⟨0, Nat.zero_le _, rfl, ⟨by simp⟩⟩
  case round =>
    obtain ⟨k, hk, rfl, HR⟩ := hrel
    by_cases hlt : k < s.size
    · have hstep := runL_drop isInner s k hlt
      have HS := aK_ hstep
      clear hstep
      cases hp : isInner (s[k].toNat : Int) with
      | true =>
        have hp' := aK_ hp
        clear hp
        go_wp2_with (go_at_call 78; refine (inner_any _ _).mono ?_; rintro e w' ⟨rfl, rfl⟩; rw [hp'.out])
        go_round
        case rel => exact ⟨k + 1, by omega, by go_num, ⟨by have h1 := HR.out; have h2 := HS.out; rw [hp'.out] at h2; simp at h2; omega⟩⟩
        case measure => simp [intOf]; omega
      | false =>
        have hp' := aK_ hp
        clear hp
        go_wp2_with (go_at_call 78; refine (inner_any _ _).mono ?_; rintro e w' ⟨rfl, rfl⟩; rw [hp'.out])
        go_ret
        exact ⟨by have h1 := HR.out; have h2 := HS.out; rw [hp'.out] at h2; simp at h2; rw [h1, h2]; simp, rfl⟩
    · go_wp2
      go_ret
      exact ⟨by have h1 := HR.out; have hk' : s.data.toList.length ≤ k := by rw [Array.length_toList]; exact Nat.le_of_not_lt hlt
                rw [List.drop_of_length_le hk'] at h1; rw [h1]; simp [runL], rfl⟩
def scan_run_letter.f (a0 : ByteArray) : Option Int := if a0.size ≤ 9223372036854775807 then some (runL isLetter a0.data.toList : Int) else none
theorem scan_run_letter.calls (a0 : ByteArray) (r : Int) (w : World) (h : scan_run_letter.f a0 = some r) :
    Calls Tryd.prog 77 #[.string a0, .func (.func 76) #[] #[]] w fun e w' => e = .returned (.int .i64 r) ∧ Drawn0 w w' := by
  unfold scan_run_letter.f at h
  split at h
  · rename_i hs
    obtain rfl := Option.some.inj h
    exact (run_letter a0 w (by unfold maxLen; exact hs)).mono fun e w' ⟨he, hw⟩ => ⟨he, hw ▸ Drawn0.refl w⟩
  · cases h
def scan_run_inner.f (a0 : ByteArray) : Option Int := if a0.size ≤ 9223372036854775807 then some (runL isInner a0.data.toList : Int) else none
theorem scan_run_inner.calls (a0 : ByteArray) (r : Int) (w : World) (h : scan_run_inner.f a0 = some r) :
    Calls Tryd.prog 77 #[.string a0, .func (.func 78) #[] #[]] w fun e w' => e = .returned (.int .i64 r) ∧ Drawn0 w w' := by
  unfold scan_run_inner.f at h
  split at h
  · rename_i hs
    obtain rfl := Option.some.inj h
    exact (run_inner a0 w (by unfold maxLen; exact hs)).mono fun e w' ⟨he, hw⟩ => ⟨he, hw ▸ Drawn0.refl w⟩
  · cases h
end Go.Proofs.YthbnigjckjkmnaaDoor.S
