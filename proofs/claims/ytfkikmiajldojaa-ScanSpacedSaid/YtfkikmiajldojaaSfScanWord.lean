-- printed by wip/tools/myprint.py of this repo out of the translation (over the kit's print.py, with contracts from outside). Not trusted: Lean checks it.
import Derived.Test.YtfkikmiajldojaaSx0
import Derived.Test.YtfkikmiajldojaaGw
import Derived.Test.YtfkikmiajldojaaScanA
import Derived.Test.YtfkikmiajldojaaStrings
namespace Go.Proofs.Ytfkikmiajldojaa.S
open Go.RowKit Go.Proofs.YtfkikmiajldojaaW.PrintWords Go.Proofs.YtfkikmiajldojaaW.PrintLast Go.Proofs.YtfkikmiajldojaaW.PrintMore
attribute [local go_sem] max2_int min2_int max_two min_two max_three min_three max_four min_four   -- for this text's walks alone
set_option linter.unusedVariables false
set_option linter.unusedSimpArgs false

/-! ### scan_Word: function 12 -/
def scan_Word.f (a0 : ByteArray) : Option (Bool) := if a0.toList = ([] : List UInt8) then (some false) else ((scan_run_letter.f a0).bind fun t131 => (if t131 = (a0.size : Int) then (if 1 + a0.size ≤ 9223372036854775807 then (if ((⟨#[32]⟩ : ByteArray) ++ a0).size + 1 ≤ 9223372036854775807 then ((strings_Contains.f (⟨#[32, 112, 108, 97, 110, 32, 114, 111, 117, 110, 100, 32, 98, 121, 32, 98, 108, 111, 99, 107, 115, 32, 109, 105, 110, 32, 109, 97, 120, 32, 111, 118, 101, 114, 32, 117, 112, 116, 111, 32, 103, 114, 97, 100, 117, 97, 116, 101, 100, 32, 118, 111, 108, 117, 109, 101, 32, 111, 102, 102, 32, 105, 102, 32, 102, 108, 111, 111, 114, 32, 99, 101, 105, 108, 32, 122, 101, 114, 111, 32, 104, 97, 108, 102, 32, 101, 118, 101, 110, 32]⟩ : ByteArray) (((⟨#[32]⟩ : ByteArray) ++ a0) ++ (⟨#[32]⟩ : ByteArray))).bind fun t132 => (some t132)) else (none)) else (none)) else (some false)))
set_option maxHeartbeats 8000000 in
set_option maxRecDepth 100000 in
theorem scan_Word.calls (a0 : ByteArray) (r : Bool) (w : World) (hG : GW w) (h : scan_Word.f a0 = some r) :
    Calls Try.prog 12 #[.string a0] w fun e w' => e = .returned (.bool r) ∧ Drawn0 w w' := by
  have H : (if a0.toList = ([] : List UInt8) then (some false) else ((scan_run_letter.f a0).bind fun t131 => (if t131 = (a0.size : Int) then (if 1 + a0.size ≤ 9223372036854775807 then (if ((⟨#[32]⟩ : ByteArray) ++ a0).size + 1 ≤ 9223372036854775807 then ((strings_Contains.f (⟨#[32, 112, 108, 97, 110, 32, 114, 111, 117, 110, 100, 32, 98, 121, 32, 98, 108, 111, 99, 107, 115, 32, 109, 105, 110, 32, 109, 97, 120, 32, 111, 118, 101, 114, 32, 117, 112, 116, 111, 32, 103, 114, 97, 100, 117, 97, 116, 101, 100, 32, 118, 111, 108, 117, 109, 101, 32, 111, 102, 102, 32, 105, 102, 32, 102, 108, 111, 111, 114, 32, 99, 101, 105, 108, 32, 122, 101, 114, 111, 32, 104, 97, 108, 102, 32, 101, 118, 101, 110, 32]⟩ : ByteArray) (((⟨#[32]⟩ : ByteArray) ++ a0) ++ (⟨#[32]⟩ : ByteArray))).bind fun t132 => (some t132)) else (none)) else (none)) else (some false)))) = some r := h
  clear h
  by_cases c2 : a0.toList = ([] : List UInt8)
  · rw [if_pos c2] at H
    have c2b0 : (a0.toList == ([] : List UInt8)) = true := beq_iff_eq.mpr c2
    have c2b1 : (a0.toList != ([] : List UInt8)) = false := bne_eq_false_iff_eq.mpr c2
    clear c2
    obtain rfl := Option.some.inj H
    go_enter Try.func12, Try.ntmps12
    go_wp2
    go_ret
    exact ⟨by first | rfl | (simp; done) | (simp [*]; done), by repeat (first | exact Drawn0.refl _ | apply Drawn0.step)⟩
  · rw [if_neg c2] at H
    have c2b0 : (a0.toList == ([] : List UInt8)) = false := beq_eq_false_iff_ne.mpr c2
    have c2b1 : (a0.toList != ([] : List UInt8)) = true := bne_iff_ne.mpr c2
    replace H := Option.bind_eq_some_iff.mp H
    obtain ⟨t131, A30, H⟩ := H
    replace H : (if t131 = (a0.size : Int) then (if 1 + a0.size ≤ 9223372036854775807 then (if ((⟨#[32]⟩ : ByteArray) ++ a0).size + 1 ≤ 9223372036854775807 then ((strings_Contains.f (⟨#[32, 112, 108, 97, 110, 32, 114, 111, 117, 110, 100, 32, 98, 121, 32, 98, 108, 111, 99, 107, 115, 32, 109, 105, 110, 32, 109, 97, 120, 32, 111, 118, 101, 114, 32, 117, 112, 116, 111, 32, 103, 114, 97, 100, 117, 97, 116, 101, 100, 32, 118, 111, 108, 117, 109, 101, 32, 111, 102, 102, 32, 105, 102, 32, 102, 108, 111, 111, 114, 32, 99, 101, 105, 108, 32, 122, 101, 114, 111, 32, 104, 97, 108, 102, 32, 101, 118, 101, 110, 32]⟩ : ByteArray) (((⟨#[32]⟩ : ByteArray) ++ a0) ++ (⟨#[32]⟩ : ByteArray))).bind fun t132 => (some t132)) else (none)) else (none)) else (some false)) = some r := H
    have A3 := Aside0.mk A30
    clear A30
    by_cases c4 : t131 = (a0.size : Int)
    · rw [if_pos c4] at H
      have c4b0 : (t131 == (a0.size : Int)) = true := beq_iff_eq.mpr c4
      have c4b1 : (t131 != (a0.size : Int)) = false := bne_eq_false_iff_eq.mpr c4
      clear c4
      by_cases c5 : 1 + a0.size ≤ 9223372036854775807
      · rw [if_pos c5] at H
        have c5b0 := eq_true c5
        have c5b1 : decide (1 + a0.size ≤ 9223372036854775807) = true := decide_eq_true c5
        try have c5b2 : (9223372036854775807 < 1 + a0.size) = False := eq_false (Nat.not_lt.2 c5)
        by_cases c6 : ((⟨#[32]⟩ : ByteArray) ++ a0).size + 1 ≤ 9223372036854775807
        · rw [if_pos c6] at H
          have c6s : 1 + a0.size + 1 ≤ 9223372036854775807 := by
            have h_ := c6
            rw [ByteArray.size_append] at h_
            exact h_
          have c6b0 := eq_true c6
          have c6b1 : decide (((⟨#[32]⟩ : ByteArray) ++ a0).size + 1 ≤ 9223372036854775807) = true := decide_eq_true c6
          try have c6b2 : (9223372036854775807 < ((⟨#[32]⟩ : ByteArray) ++ a0).size + 1) = False := eq_false (Nat.not_lt.2 c6)
          replace H := Option.bind_eq_some_iff.mp H
          obtain ⟨t132, A70, H⟩ := H
          replace H : (some t132) = some r := H
          have A7 := Aside0.mk A70
          clear A70
          obtain rfl := Option.some.inj H
          go_enter Try.func12, Try.ntmps12
          go_wp2_with (first | (go_at_call 21; (with_reducible refine (scan_run_letter.calls a0 t131 _ A3.out).mono ?_); rintro e w' ⟨rfl, ⟨nd, rfl⟩⟩) | (go_at_call 23; (refine (strings_Contains.calls (⟨#[32, 112, 108, 97, 110, 32, 114, 111, 117, 110, 100, 32, 98, 121, 32, 98, 108, 111, 99, 107, 115, 32, 109, 105, 110, 32, 109, 97, 120, 32, 111, 118, 101, 114, 32, 117, 112, 116, 111, 32, 103, 114, 97, 100, 117, 97, 116, 101, 100, 32, 118, 111, 108, 117, 109, 101, 32, 111, 102, 102, 32, 105, 102, 32, 102, 108, 111, 111, 114, 32, 99, 101, 105, 108, 32, 122, 101, 114, 111, 32, 104, 97, 108, 102, 32, 101, 118, 101, 110, 32]⟩ : ByteArray) (((⟨#[32]⟩ : ByteArray) ++ a0) ++ (⟨#[32]⟩ : ByteArray)) t132 _ ?side1 A7.out).mono ?_); (case side1 => (first | exact hG | ((repeat (first | exact hG | apply GW.drewN | apply GW.drew | apply GW.alloc)); done) | exact GW.below hG (by repeat (first | (with_reducible first | exact HB.out | apply below_alloc | apply pw_below_drewN | apply below_drew1) | exact HB.out)))); rintro e w' ⟨rfl, ⟨nd, rfl⟩⟩))
          go_ret
          exact ⟨by first | rfl | (simp; done) | (simp [*]; done), by repeat (first | exact Drawn0.refl _ | apply Drawn0.step)⟩
        · rw [if_neg c6] at H
          exact absurd H (by simp)
      · rw [if_neg c5] at H
        exact absurd H (by simp)
    · rw [if_neg c4] at H
      have c4b0 : (t131 == (a0.size : Int)) = false := beq_eq_false_iff_ne.mpr c4
      have c4b1 : (t131 != (a0.size : Int)) = true := bne_iff_ne.mpr c4
      obtain rfl := Option.some.inj H
      go_enter Try.func12, Try.ntmps12
      go_wp2_with (first | (go_at_call 21; (with_reducible refine (scan_run_letter.calls a0 t131 _ A3.out).mono ?_); rintro e w' ⟨rfl, ⟨nd, rfl⟩⟩))
      go_ret
      exact ⟨by first | rfl | (simp; done) | (simp [*]; done), by repeat (first | exact Drawn0.refl _ | apply Drawn0.step)⟩

end Go.Proofs.Ytfkikmiajldojaa.S
