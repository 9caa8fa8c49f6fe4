-- printed by wip/tools/myprint.py of this repo out of the translation (over the kit's print.py, with contracts from outside). Not trusted: Lean checks it.
import Derived.Test.YtfkikmiajldojaaSx0
namespace Go.Proofs.Ytfkikmiajldojaa.S
open Go.RowKit Go.Proofs.YtfkikmiajldojaaW.PrintWords Go.Proofs.YtfkikmiajldojaaW.PrintLast Go.Proofs.YtfkikmiajldojaaW.PrintMore
attribute [local go_sem] max2_int min2_int max_two min_two max_three min_three max_four min_four   -- for this text's walks alone
set_option linter.unusedVariables false
set_option linter.unusedSimpArgs false

/-! ### octroiref04_mark: function 32 -/
mutual
def octroiref04_mark.j0 : Nat → Int → Bool → Option (Int)
  | 0, _, _ => none
  | k + 1, x5, x38 => if x38 = true then (some 2) else (octroiref04_mark.l0 k x5 (⟨#[40, 41, 123, 125, 44, 58, 43, 45, 42, 36, 61, 60, 62]⟩ : ByteArray) 0)
def octroiref04_mark.l0 : Nat → Int → ByteArray → Int → Option (Int)
  | 0, _, _, _ => none
  | k + 1, x5, x6, x7 => if x7 < (x6.size : Int) then (if 0 ≤ x7 then (if (bt x6 x7) = x5 then (some 1) else (octroiref04_mark.l0 k x5 x6 (wrap64 (x7 + 1)))) else (none)) else (some 0)
end
def octroiref04_mark.f (k : Nat) (a0 : ByteArray) (a1 : Int) : Option (Int) := if 0 ≤ a1 then (if a1 < (a0.size : Int) then (if a1 < (wrap64 ((a0.size : Int) - 1)) then (if 0 ≤ (wrap64 (a1 + 1)) then (if (wrap64 (a1 + 1)) < (a0.size : Int) then (if (bt a0 (wrap64 (a1 + 1))) = 61 then (if (bt a0 a1) = 60 then (octroiref04_mark.j0 k (bt a0 a1) true) else (if (bt a0 a1) = 62 then (octroiref04_mark.j0 k (bt a0 a1) true) else (if (bt a0 a1) = 61 then (octroiref04_mark.j0 k (bt a0 a1) true) else (octroiref04_mark.j0 k (bt a0 a1) ((bt a0 a1) == 33))))) else (octroiref04_mark.j0 k (bt a0 a1) false)) else (none)) else (none)) else (octroiref04_mark.j0 k (bt a0 a1) false)) else (none)) else (none)
theorem octroiref04_mark.mono_l : ∀ k, (∀ y0 y1, LeO (octroiref04_mark.j0 k y0 y1) (octroiref04_mark.j0 (k + 1) y0 y1)) ∧ (∀ y0 y1 y2, LeO (octroiref04_mark.l0 k y0 y1 y2) (octroiref04_mark.l0 (k + 1) y0 y1 y2))
  | 0 => ⟨fun _ _ r h => by simp [octroiref04_mark.j0] at h, fun _ _ _ r h => by simp [octroiref04_mark.l0] at h⟩
  | k + 1 => by
    obtain ⟨ih0, ih1⟩ := octroiref04_mark.mono_l k
    refine ⟨?_, ?_⟩
    · intro y0 y1
      unfold octroiref04_mark.j0
      repeat' first
      | (with_reducible exact ih0 _ _)
      | (with_reducible exact ih1 _ _ _)
      | (with_reducible exact LeO.refl _)
      | (with_reducible exact LeO.none _)
      | (with_reducible refine LeO.ite ?_ ?_)
      | (with_reducible refine LeO.bind ?_ (fun _ => ?_))
      | exact ih0 _ _
      | exact ih1 _ _ _
      | exact LeO.none _
      | refine LeO.ite ?_ ?_
      | refine LeO.bind ?_ (fun _ => ?_)
    · intro y0 y1 y2
      unfold octroiref04_mark.l0
      repeat' first
      | (with_reducible exact ih0 _ _)
      | (with_reducible exact ih1 _ _ _)
      | (with_reducible exact LeO.refl _)
      | (with_reducible exact LeO.none _)
      | (with_reducible refine LeO.ite ?_ ?_)
      | (with_reducible refine LeO.bind ?_ (fun _ => ?_))
      | exact ih0 _ _
      | exact ih1 _ _ _
      | exact LeO.none _
      | refine LeO.ite ?_ ?_
      | refine LeO.bind ?_ (fun _ => ?_)
theorem octroiref04_mark.mono : ∀ a0 a1 k, LeO (octroiref04_mark.f k a0 a1) (octroiref04_mark.f (k + 1) a0 a1) := by
  intro a0 a1 k
  obtain ⟨ih0, ih1⟩ := octroiref04_mark.mono_l k
  unfold octroiref04_mark.f
  repeat' first
      | (with_reducible exact ih0 _ _)
      | (with_reducible exact ih1 _ _ _)
      | (with_reducible exact LeO.refl _)
      | (with_reducible exact LeO.none _)
      | (with_reducible refine LeO.ite ?_ ?_)
      | (with_reducible refine LeO.bind ?_ (fun _ => ?_))
      | exact ih0 _ _
      | exact ih1 _ _ _
      | exact LeO.none _
      | refine LeO.ite ?_ ?_
      | refine LeO.bind ?_ (fun _ => ?_)
set_option maxHeartbeats 8000000 in
set_option maxRecDepth 100000 in
theorem octroiref04_mark.calls (k : Nat) (a0 : ByteArray) (a1 : Int) (r : Int) (w : World) (h : octroiref04_mark.f k a0 a1 = some r) :
    Calls Try.prog 32 #[.string a0, .int .i64 a1] w fun e w' => e = .returned (.int .i64 r) ∧ Drawn0 w w' := by
  have H : (if 0 ≤ a1 then (if a1 < (a0.size : Int) then (if a1 < (wrap64 ((a0.size : Int) - 1)) then (if 0 ≤ (wrap64 (a1 + 1)) then (if (wrap64 (a1 + 1)) < (a0.size : Int) then (if (bt a0 (wrap64 (a1 + 1))) = 61 then (if (bt a0 a1) = 60 then (octroiref04_mark.j0 k (bt a0 a1) true) else (if (bt a0 a1) = 62 then (octroiref04_mark.j0 k (bt a0 a1) true) else (if (bt a0 a1) = 61 then (octroiref04_mark.j0 k (bt a0 a1) true) else (octroiref04_mark.j0 k (bt a0 a1) ((bt a0 a1) == 33))))) else (octroiref04_mark.j0 k (bt a0 a1) false)) else (none)) else (none)) else (octroiref04_mark.j0 k (bt a0 a1) false)) else (none)) else (none)) = some r := h
  clear h
  by_cases c3 : 0 ≤ a1
  · rw [if_pos c3] at H
    have c3b0 : decide (0 ≤ a1) = true := decide_eq_true c3
    clear c3
    by_cases c4 : a1 < (a0.size : Int)
    · rw [if_pos c4] at H
      have c4b0 : decide (a1 < (a0.size : Int)) = true := decide_eq_true c4
      clear c4
      have HC6 := Aside0.mk H
      clear H
      have p5 : 0 ≤ (a1 : Int) := of_decide_eq_true (by first | (with_reducible assumption) | assumption)
      have q5 : a1 < (a0.size : Int) := of_decide_eq_true (by first | (with_reducible assumption) | assumption)
      have hx5 := bt_at a0 a1
      replace p5 := eq_true p5
      replace q5 := eq_true q5
      go_enter Try.func32, Try.ntmps32
      go_upto_region 2 with (fail)
      go_cut [38] (fun v38 wc => ∃ (kq : Nat) (x38_5 : Bool), v38 = .bool x38_5 ∧ Aside0 (octroiref04_mark.j0 kq (bt a0 a1) x38_5 = some r) ∧ Aside0 (kq ≤ k) ∧ Drawn0 w wc)
      case first =>
        have H := HC6.out
        clear HC6
        by_cases c7 : a1 < (wrap64 ((a0.size : Int) - 1))
        · rw [if_pos c7] at H
          try have c7w : decide (a1 < (((a0.size : Int) - 1))) = true := decide_eq_true (by have h_ := c7; unfold wrap64 at h_; omega)
          have c7b0 : decide (a1 < (wrap64 ((a0.size : Int) - 1))) = true := decide_eq_true c7
          clear c7
          (first | rw [c7b0] | (simp only [i64_w, i32_w]; rw [c7b0]) | skip)
          obtain ⟨ji8, hji8⟩ : ∃ j_ : Int, (wrap64 (a1 + 1)) = j_ := ⟨_, rfl⟩
          replace H : (if 0 ≤ (ji8) then (if (ji8) < (a0.size : Int) then (if (bt a0 (ji8)) = 61 then (if (bt a0 a1) = 60 then (octroiref04_mark.j0 k (bt a0 a1) true) else (if (bt a0 a1) = 62 then (octroiref04_mark.j0 k (bt a0 a1) true) else (if (bt a0 a1) = 61 then (octroiref04_mark.j0 k (bt a0 a1) true) else (octroiref04_mark.j0 k (bt a0 a1) ((bt a0 a1) == 33))))) else (octroiref04_mark.j0 k (bt a0 a1) false)) else (none)) else (none)) = some r := by first | (rw [hji8] at H; exact H) | (simp only [hji8] at H ⊢; exact H)
          have hji8w : (IntKind.i64.wrap (a1 + 1)) = ji8 := (i64_w _).trans hji8
          by_cases c9 : 0 ≤ (ji8)
          · rw [if_pos c9] at H
            have c9b0 : decide (0 ≤ (ji8)) = true := decide_eq_true c9
            clear c9
            by_cases c10 : (ji8) < (a0.size : Int)
            · rw [if_pos c10] at H
              have c10b0 : decide ((ji8) < (a0.size : Int)) = true := decide_eq_true c10
              clear c10
              by_cases c12 : (bt a0 (ji8)) = 61
              · rw [if_pos c12] at H
                have c12b0 : ((bt a0 (ji8)) == 61) = true := beq_iff_eq.mpr c12
                have c12b1 : ((bt a0 (ji8)) != 61) = false := bne_eq_false_iff_eq.mpr c12
                clear c12
                by_cases c13 : (bt a0 a1) = 60
                · rw [if_pos c13] at H
                  have c13b0 : ((bt a0 a1) == 60) = true := beq_iff_eq.mpr c13
                  have c13b1 : ((bt a0 a1) != 60) = false := bne_eq_false_iff_eq.mpr c13
                  clear c13
                  have H' := Aside0.mk H
                  clear H
                  have p11 : 0 ≤ ((ji8) : Int) := of_decide_eq_true (by first | (with_reducible assumption) | assumption)
                  have q11 : (ji8) < (a0.size : Int) := of_decide_eq_true (by first | (with_reducible assumption) | assumption)
                  have hx11 := bt_at a0 (ji8)
                  replace p11 := eq_true p11
                  replace q11 := eq_true q11
                  go_wp2
                  go_meet
                  case rel => exact ⟨_, (true), (by first | rfl | (simp; done) | (simp [*]; done)), H', ⟨by first | omega | exact Nat.le_refl _⟩, by repeat (first | exact Drawn0.refl _ | apply Drawn0.step)⟩
                · rw [if_neg c13] at H
                  have c13b0 : ((bt a0 a1) == 60) = false := beq_eq_false_iff_ne.mpr c13
                  have c13b1 : ((bt a0 a1) != 60) = true := bne_iff_ne.mpr c13
                  by_cases c14 : (bt a0 a1) = 62
                  · rw [if_pos c14] at H
                    have c14b0 : ((bt a0 a1) == 62) = true := beq_iff_eq.mpr c14
                    have c14b1 : ((bt a0 a1) != 62) = false := bne_eq_false_iff_eq.mpr c14
                    clear c14
                    have H' := Aside0.mk H
                    clear H
                    have p11 : 0 ≤ ((ji8) : Int) := of_decide_eq_true (by first | (with_reducible assumption) | assumption)
                    have q11 : (ji8) < (a0.size : Int) := of_decide_eq_true (by first | (with_reducible assumption) | assumption)
                    have hx11 := bt_at a0 (ji8)
                    replace p11 := eq_true p11
                    replace q11 := eq_true q11
                    go_wp2
                    go_meet
                    case rel => exact ⟨_, (true), (by first | rfl | (simp; done) | (simp [*]; done)), H', ⟨by first | omega | exact Nat.le_refl _⟩, by repeat (first | exact Drawn0.refl _ | apply Drawn0.step)⟩
                  · rw [if_neg c14] at H
                    have c14b0 : ((bt a0 a1) == 62) = false := beq_eq_false_iff_ne.mpr c14
                    have c14b1 : ((bt a0 a1) != 62) = true := bne_iff_ne.mpr c14
                    by_cases c15 : (bt a0 a1) = 61
                    · rw [if_pos c15] at H
                      have c15b0 : ((bt a0 a1) == 61) = true := beq_iff_eq.mpr c15
                      have c15b1 : ((bt a0 a1) != 61) = false := bne_eq_false_iff_eq.mpr c15
                      clear c15
                      have H' := Aside0.mk H
                      clear H
                      have p11 : 0 ≤ ((ji8) : Int) := of_decide_eq_true (by first | (with_reducible assumption) | assumption)
                      have q11 : (ji8) < (a0.size : Int) := of_decide_eq_true (by first | (with_reducible assumption) | assumption)
                      have hx11 := bt_at a0 (ji8)
                      replace p11 := eq_true p11
                      replace q11 := eq_true q11
                      go_wp2
                      go_meet
                      case rel => exact ⟨_, (true), (by first | rfl | (simp; done) | (simp [*]; done)), H', ⟨by first | omega | exact Nat.le_refl _⟩, by repeat (first | exact Drawn0.refl _ | apply Drawn0.step)⟩
                    · rw [if_neg c15] at H
                      have c15b0 : ((bt a0 a1) == 61) = false := beq_eq_false_iff_ne.mpr c15
                      have c15b1 : ((bt a0 a1) != 61) = true := bne_iff_ne.mpr c15
                      have H' := Aside0.mk H
                      clear H
                      have p11 : 0 ≤ ((ji8) : Int) := of_decide_eq_true (by first | (with_reducible assumption) | assumption)
                      have q11 : (ji8) < (a0.size : Int) := of_decide_eq_true (by first | (with_reducible assumption) | assumption)
                      have hx11 := bt_at a0 (ji8)
                      replace p11 := eq_true p11
                      replace q11 := eq_true q11
                      go_wp2
                      go_meet
                      case rel => exact ⟨_, (((bt a0 a1) == 33)), (by first | rfl | (simp; done) | (simp [*]; done)), H', ⟨by first | omega | exact Nat.le_refl _⟩, by repeat (first | exact Drawn0.refl _ | apply Drawn0.step)⟩
              · rw [if_neg c12] at H
                have c12b0 : ((bt a0 (ji8)) == 61) = false := beq_eq_false_iff_ne.mpr c12
                have c12b1 : ((bt a0 (ji8)) != 61) = true := bne_iff_ne.mpr c12
                have H' := Aside0.mk H
                clear H
                have p11 : 0 ≤ ((ji8) : Int) := of_decide_eq_true (by first | (with_reducible assumption) | assumption)
                have q11 : (ji8) < (a0.size : Int) := of_decide_eq_true (by first | (with_reducible assumption) | assumption)
                have hx11 := bt_at a0 (ji8)
                replace p11 := eq_true p11
                replace q11 := eq_true q11
                go_wp2
                go_meet
                case rel => exact ⟨_, (false), (by first | rfl | (simp; done) | (simp [*]; done)), H', ⟨by first | omega | exact Nat.le_refl _⟩, by repeat (first | exact Drawn0.refl _ | apply Drawn0.step)⟩
            · rw [if_neg c10] at H
              exact absurd H (by simp)
          · rw [if_neg c9] at H
            exact absurd H (by simp)
        · rw [if_neg c7] at H
          try have c7w : decide (a1 < (((a0.size : Int) - 1))) = false := decide_eq_false (by have h_ := c7; unfold wrap64 at h_; omega)
          have c7b0 : decide (a1 < (wrap64 ((a0.size : Int) - 1))) = false := decide_eq_false c7
          clear c7
          (first | rw [c7b0] | (simp only [i64_w, i32_w]; rw [c7b0]) | skip)
          have H' := Aside0.mk H
          clear H
          go_wp2
          go_meet
          case rel => exact ⟨_, (false), (by first | rfl | (simp; done) | (simp [*]; done)), H', ⟨by first | omega | exact Nat.le_refl _⟩, by repeat (first | exact Drawn0.refl _ | apply Drawn0.step)⟩
      case rest =>
        clear HC6
        try clear c1
        try clear p1
        try clear q1
        try clear hx1
        try clear p2
        try clear c3
        try clear c3b0
        try clear c4
        try clear c4b0
        try clear p5
        try clear q5
        try clear hx5
        try clear p6
        try clear c7
        try clear c7b0
        try clear c9
        try clear c9b0
        try clear c10
        try clear c10b0
        try clear p11
        try clear q11
        try clear hx11
        try clear c12
        try clear c12b0
        try clear c12b1
        try clear c13
        try clear c13b0
        try clear c13b1
        try clear c14
        try clear c14b0
        try clear c14b1
        try clear c15
        try clear c15b0
        try clear c15b1
        try clear p11
        try clear p5
        try clear q11
        try clear q5
        obtain ⟨kq, x38_5, rfl, HA, HJ5, ⟨mc5, rfl⟩⟩ := hcut
        cases kq with
        | zero => exact absurd HA.out (by simp [octroiref04_mark.j0])
        | succ kj5 =>
          have H := HA.out
          clear HA
          simp only [octroiref04_mark.j0] at H
          by_cases c16 : x38_5 = true
          · subst c16
            have H1 : (some 2) = some r := by rw [if_pos rfl] at H; exact H
            clear H
            have H := H1
            clear H1
            obtain rfl := Option.some.inj H
            go_wp2
            go_ret
            exact ⟨by first | rfl | (simp; done) | (simp [*]; done), by repeat (first | exact Drawn0.refl _ | apply Drawn0.step)⟩
          · replace c16 := Bool.eq_false_iff.mpr c16
            subst c16
            have H1 : (octroiref04_mark.l0 kj5 (bt a0 a1) (⟨#[40, 41, 123, 125, 44, 58, 43, 45, 42, 36, 61, 60, 62]⟩ : ByteArray) 0) = some r := by rw [if_neg (show ¬ (false = true) by decide)] at H; exact H
            clear H
            have H := H1
            clear H1
            have H' := Aside0.mk H
            clear H
            go_wp2
            (try simp only [Act.put, List.setIfInBounds_toArray, List.set_cons_zero, List.set_cons_succ])
            go_loopg [7] kj5 (fun kq v7 w' => ∃ (x7_2 : Int), v7 = .int .i64 x7_2 ∧ Aside0 (octroiref04_mark.l0 kq (bt a0 a1) (⟨#[40, 41, 123, 125, 44, 58, 43, 45, 42, 36, 61, 60, 62]⟩ : ByteArray) x7_2 = some r) ∧ Aside0 (kq ≤ kj5) ∧ Drawn0 w w')
            case atStart => exact ⟨(0), (by first | rfl | (simp; done) | (simp [*]; done)), H', ⟨Nat.le_refl _⟩, by repeat (first | exact Drawn0.refl _ | apply Drawn0.step)⟩
            case round =>
              clear H'
              try clear c1
              try clear p1
              try clear q1
              try clear hx1
              try clear p2
              try clear c3
              try clear c3b0
              try clear c4
              try clear c4b0
              try clear c5
              try clear p5
              try clear q5
              try clear hx5
              try clear p6
              try clear c7
              try clear c7b0
              try clear c9
              try clear c9b0
              try clear c10
              try clear c10b0
              try clear p11
              try clear q11
              try clear hx11
              try clear c12
              try clear c12b0
              try clear c12b1
              try clear c13
              try clear c13b0
              try clear c13b1
              try clear c14
              try clear c14b0
              try clear c14b1
              try clear c15
              try clear c15b0
              try clear c15b1
              try clear c16
              try clear p1
              try clear p11
              try clear p2
              try clear p5
              try clear p6
              try clear q1
              try clear q11
              try clear q5
              obtain ⟨x7_2, rfl, HA, HK2, ⟨m2, rfl⟩⟩ := hrel
              cases gk with
              | zero => exact absurd HA.out (by simp [octroiref04_mark.l0])
              | succ k2 =>
                have H := HA.out
                clear HA
                simp only [octroiref04_mark.l0] at H
                by_cases c17 : x7_2 < ((⟨#[40, 41, 123, 125, 44, 58, 43, 45, 42, 36, 61, 60, 62]⟩ : ByteArray).size : Int)
                · rw [if_pos c17] at H
                  have c17b0 : decide (x7_2 < 13) = true := decide_eq_true c17
                  clear c17
                  by_cases c18 : 0 ≤ x7_2
                  · rw [if_pos c18] at H
                    have c18b0 : decide (0 ≤ x7_2) = true := decide_eq_true c18
                    clear c18
                    by_cases c20 : (bt (⟨#[40, 41, 123, 125, 44, 58, 43, 45, 42, 36, 61, 60, 62]⟩ : ByteArray) x7_2) = (bt a0 a1)
                    · rw [if_pos c20] at H
                      have c20b0 : ((bt (⟨#[40, 41, 123, 125, 44, 58, 43, 45, 42, 36, 61, 60, 62]⟩ : ByteArray) x7_2) == (bt a0 a1)) = true := beq_iff_eq.mpr c20
                      have c20b1 : ((bt (⟨#[40, 41, 123, 125, 44, 58, 43, 45, 42, 36, 61, 60, 62]⟩ : ByteArray) x7_2) != (bt a0 a1)) = false := bne_eq_false_iff_eq.mpr c20
                      clear c20
                      obtain rfl := Option.some.inj H
                      have p19 : 0 ≤ (x7_2 : Int) := of_decide_eq_true (by first | (with_reducible assumption) | assumption)
                      have q19 : x7_2 < (13 : Int) := of_decide_eq_true (by first | (with_reducible assumption) | assumption)
                      have hx19 := bt_at (⟨#[40, 41, 123, 125, 44, 58, 43, 45, 42, 36, 61, 60, 62]⟩ : ByteArray) x7_2
                      replace p19 := eq_true p19
                      replace q19 := eq_true q19
                      go_wp2
                      go_ret
                      exact ⟨by first | rfl | (simp; done) | (simp [*]; done), by repeat (first | exact Drawn0.refl _ | apply Drawn0.step)⟩
                    · rw [if_neg c20] at H
                      have c20b0 : ((bt (⟨#[40, 41, 123, 125, 44, 58, 43, 45, 42, 36, 61, 60, 62]⟩ : ByteArray) x7_2) == (bt a0 a1)) = false := beq_eq_false_iff_ne.mpr c20
                      have c20b1 : ((bt (⟨#[40, 41, 123, 125, 44, 58, 43, 45, 42, 36, 61, 60, 62]⟩ : ByteArray) x7_2) != (bt a0 a1)) = true := bne_iff_ne.mpr c20
                      have H' := Aside0.mk H
                      clear H
                      have p19 : 0 ≤ (x7_2 : Int) := of_decide_eq_true (by first | (with_reducible assumption) | assumption)
                      have q19 : x7_2 < (13 : Int) := of_decide_eq_true (by first | (with_reducible assumption) | assumption)
                      have hx19 := bt_at (⟨#[40, 41, 123, 125, 44, 58, 43, 45, 42, 36, 61, 60, 62]⟩ : ByteArray) x7_2
                      replace p19 := eq_true p19
                      replace q19 := eq_true q19
                      go_wp2
                      go_roundg k2
                      case measure => have := HJ5.out; have := HK2.out; omega
                      case rel => exact ⟨(wrap64 (x7_2 + 1)), (by first | rfl | (simp; done) | (simp [*]; done)), H', ⟨by have := HJ5.out; have := HK2.out; omega⟩, by repeat (first | exact Drawn0.refl _ | apply Drawn0.step)⟩
                  · rw [if_neg c18] at H
                    exact absurd H (by simp)
                · rw [if_neg c17] at H
                  have c17b0 : decide (x7_2 < 13) = false := decide_eq_false c17
                  clear c17
                  obtain rfl := Option.some.inj H
                  go_wp2
                  go_ret
                  exact ⟨by first | rfl | (simp; done) | (simp [*]; done), by repeat (first | exact Drawn0.refl _ | apply Drawn0.step)⟩
    · rw [if_neg c4] at H
      exact absurd H (by simp)
  · rw [if_neg c3] at H
    exact absurd H (by simp)

end Go.Proofs.Ytfkikmiajldojaa.S
