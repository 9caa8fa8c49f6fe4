-- printed by wip/tools/myprint.py of this repo out of the translation (over the kit's print.py, with contracts from outside). Not trusted: Lean checks it.
import Derived.Test.YtfkikmiajldojaaSx0
import Derived.Test.YtfkikmiajldojaaSfOctroiref04Letter
import Derived.Test.YtfkikmiajldojaaSfOctroiref04Digit
import Derived.Test.YtfkikmiajldojaaSfOctroiref04Mark
namespace Go.Proofs.Ytfkikmiajldojaa.S
open Go.RowKit Go.Proofs.YtfkikmiajldojaaW.PrintWords Go.Proofs.YtfkikmiajldojaaW.PrintLast Go.Proofs.YtfkikmiajldojaaW.PrintMore
attribute [local go_sem] max2_int min2_int max_two min_two max_three min_three max_four min_four   -- for this text's walks alone
set_option linter.unusedVariables false
set_option linter.unusedSimpArgs false

/-! ### octroiref04_token: function 20 -/
mutual
def octroiref04_token.l0 : Nat → ByteArray → Int → Int → Int → ByteArray → Int → Int → Option (Int × Int × ByteArray × Int × Int × Int)
  | 0, _, _, _, _, _, _, _ => none
  | k + 1, x0, x1, x155000, x155001, x155002, x155003, x155004 => if x155004 < (x0.size : Int) then (if 0 ≤ x155004 then ((octroiref04_Letter.f (bt x0 x155004)).bind fun t156 => (if t156 = true then (octroiref04_token.l0 k x0 x1 x155000 x155001 x155002 x155003 (wrap64 (x155004 + 1))) else ((octroiref04_Digit.f (bt x0 x155004)).bind fun t157 => (if t157 = true then (octroiref04_token.l0 k x0 x1 x155000 x155001 x155002 x155003 (wrap64 (x155004 + 1))) else (if (bt x0 x155004) = 95 then (octroiref04_token.l0 k x0 x1 x155000 x155001 x155002 x155003 (wrap64 (x155004 + 1))) else (if (wrap64 (x155004 - x1)) > 32 then (some (x155000, x155001, x155002, x155003, x155004, 2)) else (if 0 ≤ x1 then (if x1 ≤ x155004 then (if x155004 ≤ (x0.size : Int) then (some (1, x155001, x0.extract (x1 : Int).toNat (x155004 : Int).toNat, x155003, x155004, 0)) else (none)) else (none)) else (none)))))))) else (none)) else (if (wrap64 (x155004 - x1)) > 32 then (some (x155000, x155001, x155002, x155003, x155004, 2)) else (if 0 ≤ x1 then (if x1 ≤ x155004 then (if x155004 ≤ (x0.size : Int) then (some (1, x155001, x0.extract (x1 : Int).toNat (x155004 : Int).toNat, x155003, x155004, 0)) else (none)) else (none)) else (none)))
def octroiref04_token.l1 : Nat → ByteArray → Int → Int → ByteArray → Int → Int → Option (Int × Int × ByteArray × Int × Int × Int)
  | 0, _, _, _, _, _, _ => none
  | k + 1, x0, x155000, x155001, x155002, x155003, x155004 => if x155004 < (x0.size : Int) then (if 0 ≤ x155004 then ((octroiref04_Digit.f (bt x0 x155004)).bind fun t159 => (octroiref04_token.j2 k x0 t159 x155000 x155001 x155002 x155003 x155004)) else (none)) else (octroiref04_token.j2 k x0 false x155000 x155001 x155002 x155003 x155004)
def octroiref04_token.j2 : Nat → ByteArray → Bool → Int → Int → ByteArray → Int → Int → Option (Int × Int × ByteArray × Int × Int × Int)
  | 0, _, _, _, _, _, _, _ => none
  | k + 1, x0, x74, x155000, x155001, x155002, x155003, x155004 => if x74 = true then (if 0 ≤ x155004 then (if x155004 < (x0.size : Int) then (if (wrap64 ((wrap64 ((wrap64 (10 * x155001)) + (wrap64 (bt x0 x155004)))) - 48)) > 1000000000000 then (some (x155000, wrap64 ((wrap64 ((wrap64 (10 * x155001)) + (wrap64 (bt x0 x155004)))) - 48), x155002, x155003, x155004, 30)) else (octroiref04_token.l1 k x0 x155000 (wrap64 ((wrap64 ((wrap64 (10 * x155001)) + (wrap64 (bt x0 x155004)))) - 48)) x155002 x155003 (wrap64 (x155004 + 1)))) else (none)) else (none)) else (some (2, x155001, x155002, x155003, x155004, 0))
end
def octroiref04_token.f (k : Nat) (a0 : ByteArray) (a1 : Int) : Option (Int × Int × ByteArray × Int × Int × Int) := if 0 ≤ a1 then (if a1 < (a0.size : Int) then ((octroiref04_Letter.f (bt a0 a1)).bind fun t155 => (if t155 = true then (octroiref04_token.l0 k a0 a1 0 0 (⟨#[]⟩ : ByteArray) a1 a1) else ((octroiref04_Digit.f (bt a0 a1)).bind fun t158 => (if t158 = true then (octroiref04_token.l1 k a0 0 0 (⟨#[]⟩ : ByteArray) a1 a1) else ((octroiref04_mark.f k a0 a1).bind fun t160 => (if t160 = 0 then (some (0, 0, (⟨#[]⟩ : ByteArray), a1, a1, 40)) else (if a1 ≤ (wrap64 (a1 + t160)) then (if (wrap64 (a1 + t160)) ≤ (a0.size : Int) then (some (3, 0, a0.extract (a1 : Int).toNat ((wrap64 (a1 + t160)) : Int).toNat, a1, wrap64 (a1 + t160), 0)) else (none)) else (none)))))))) else (none)) else (none)
theorem octroiref04_token.mono_l : ∀ k, (∀ y0 y1 y2 y3 y4 y5 y6, LeO (octroiref04_token.l0 k y0 y1 y2 y3 y4 y5 y6) (octroiref04_token.l0 (k + 1) y0 y1 y2 y3 y4 y5 y6)) ∧ (∀ y0 y1 y2 y3 y4 y5, LeO (octroiref04_token.l1 k y0 y1 y2 y3 y4 y5) (octroiref04_token.l1 (k + 1) y0 y1 y2 y3 y4 y5)) ∧ (∀ y0 y1 y2 y3 y4 y5 y6, LeO (octroiref04_token.j2 k y0 y1 y2 y3 y4 y5 y6) (octroiref04_token.j2 (k + 1) y0 y1 y2 y3 y4 y5 y6))
  | 0 => ⟨fun _ _ _ _ _ _ _ r h => by simp [octroiref04_token.l0] at h, fun _ _ _ _ _ _ r h => by simp [octroiref04_token.l1] at h, fun _ _ _ _ _ _ _ r h => by simp [octroiref04_token.j2] at h⟩
  | k + 1 => by
    obtain ⟨ih0, ih1, ih2⟩ := octroiref04_token.mono_l k
    refine ⟨?_, ?_, ?_⟩
    · intro y0 y1 y2 y3 y4 y5 y6
      unfold octroiref04_token.l0
      repeat' first
      | (with_reducible exact ih0 _ _ _ _ _ _ _)
      | (with_reducible exact ih1 _ _ _ _ _ _)
      | (with_reducible exact ih2 _ _ _ _ _ _ _)
      | (with_reducible exact octroiref04_mark.mono _ _ _)
      | (with_reducible exact LeO.refl _)
      | (with_reducible exact LeO.none _)
      | (with_reducible refine LeO.ite ?_ ?_)
      | (with_reducible refine LeO.bind ?_ (fun _ => ?_))
      | exact ih0 _ _ _ _ _ _ _
      | exact ih1 _ _ _ _ _ _
      | exact ih2 _ _ _ _ _ _ _
      | exact octroiref04_mark.mono _ _ _
      | exact LeO.none _
      | refine LeO.ite ?_ ?_
      | refine LeO.bind ?_ (fun _ => ?_)
    · intro y0 y1 y2 y3 y4 y5
      unfold octroiref04_token.l1
      repeat' first
      | (with_reducible exact ih0 _ _ _ _ _ _ _)
      | (with_reducible exact ih1 _ _ _ _ _ _)
      | (with_reducible exact ih2 _ _ _ _ _ _ _)
      | (with_reducible exact octroiref04_mark.mono _ _ _)
      | (with_reducible exact LeO.refl _)
      | (with_reducible exact LeO.none _)
      | (with_reducible refine LeO.ite ?_ ?_)
      | (with_reducible refine LeO.bind ?_ (fun _ => ?_))
      | exact ih0 _ _ _ _ _ _ _
      | exact ih1 _ _ _ _ _ _
      | exact ih2 _ _ _ _ _ _ _
      | exact octroiref04_mark.mono _ _ _
      | exact LeO.none _
      | refine LeO.ite ?_ ?_
      | refine LeO.bind ?_ (fun _ => ?_)
    · intro y0 y1 y2 y3 y4 y5 y6
      unfold octroiref04_token.j2
      repeat' first
      | (with_reducible exact ih0 _ _ _ _ _ _ _)
      | (with_reducible exact ih1 _ _ _ _ _ _)
      | (with_reducible exact ih2 _ _ _ _ _ _ _)
      | (with_reducible exact octroiref04_mark.mono _ _ _)
      | (with_reducible exact LeO.refl _)
      | (with_reducible exact LeO.none _)
      | (with_reducible refine LeO.ite ?_ ?_)
      | (with_reducible refine LeO.bind ?_ (fun _ => ?_))
      | exact ih0 _ _ _ _ _ _ _
      | exact ih1 _ _ _ _ _ _
      | exact ih2 _ _ _ _ _ _ _
      | exact octroiref04_mark.mono _ _ _
      | exact LeO.none _
      | refine LeO.ite ?_ ?_
      | refine LeO.bind ?_ (fun _ => ?_)
theorem octroiref04_token.mono : ∀ a0 a1 k, LeO (octroiref04_token.f k a0 a1) (octroiref04_token.f (k + 1) a0 a1) := by
  intro a0 a1 k
  obtain ⟨ih0, ih1, ih2⟩ := octroiref04_token.mono_l k
  unfold octroiref04_token.f
  repeat' first
      | (with_reducible exact ih0 _ _ _ _ _ _ _)
      | (with_reducible exact ih1 _ _ _ _ _ _)
      | (with_reducible exact ih2 _ _ _ _ _ _ _)
      | (with_reducible exact octroiref04_mark.mono _ _ _)
      | (with_reducible exact LeO.refl _)
      | (with_reducible exact LeO.none _)
      | (with_reducible refine LeO.ite ?_ ?_)
      | (with_reducible refine LeO.bind ?_ (fun _ => ?_))
      | exact ih0 _ _ _ _ _ _ _
      | exact ih1 _ _ _ _ _ _
      | exact ih2 _ _ _ _ _ _ _
      | exact octroiref04_mark.mono _ _ _
      | exact LeO.none _
      | refine LeO.ite ?_ ?_
      | refine LeO.bind ?_ (fun _ => ?_)
def octroiref04_token.T12 : Bool × List (List Nat × List Nat) := (true, [([], []), ([0], [0]), ([1], [1]), ([], []), ([], []), ([4], [4]), ([3, 5], [3, 5]), ([6], [6]), ([2, 7], [2, 7]), ([8], [8]), ([0, 1, 2, 3, 4, 5, 6, 7, 8, 9], []), ([10, 9, 0, 1, 2, 3, 4, 5, 6, 7, 8, 9], [9, 10])])
def octroiref04_token.B12 : List Nat := [0, 1, 3, 0, 0, 16, 56, 120, 255, 511, 1023, 2047]
theorem octroiref04_token.tab12 : rtab .any (opsOf Try.f20 12) = octroiref04_token.T12 := by kernel_rfl
theorem octroiref04_token.bits12 : waitsOk octroiref04_token.T12.2 octroiref04_token.B12 = true := by kernel_rfl
set_option maxHeartbeats 8000000 in
set_option maxRecDepth 100000 in
theorem octroiref04_token.calls (k : Nat) (a0 : ByteArray) (a1 : Int) (r1 : Int) (r2 : Int) (r3 : ByteArray) (r4 : Int) (r5 : Int) (r6 : Int) (w : World) (h : octroiref04_token.f k a0 a1 = some (r1, r2, r3, r4, r5, r6)) :
    Calls Try.prog 20 #[.string a0, .int .i64 a1] w fun e w' => e = .returned (.tuple #[.agg #[.int .i64 r1, .int .i64 r2, .string r3, .int .i64 r4, .int .i64 r5], .int .i64 r6]) ∧ Below w.heap.size w w' := by
  have hu32 := Try.underlying32
  have HB := Aside0.mk (Below.refl w.heap.size w)
  have H : (if 0 ≤ a1 then (if a1 < (a0.size : Int) then ((octroiref04_Letter.f (bt a0 a1)).bind fun t155 => (if t155 = true then (octroiref04_token.l0 k a0 a1 0 0 (⟨#[]⟩ : ByteArray) a1 a1) else ((octroiref04_Digit.f (bt a0 a1)).bind fun t158 => (if t158 = true then (octroiref04_token.l1 k a0 0 0 (⟨#[]⟩ : ByteArray) a1 a1) else ((octroiref04_mark.f k a0 a1).bind fun t160 => (if t160 = 0 then (some (0, 0, (⟨#[]⟩ : ByteArray), a1, a1, 40)) else (if a1 ≤ (wrap64 (a1 + t160)) then (if (wrap64 (a1 + t160)) ≤ (a0.size : Int) then (some (3, 0, a0.extract (a1 : Int).toNat ((wrap64 (a1 + t160)) : Int).toNat, a1, wrap64 (a1 + t160), 0)) else (none)) else (none)))))))) else (none)) else (none)) = some (r1, r2, r3, r4, r5, r6) := h
  clear h
  by_cases c3 : 0 ≤ a1
  · rw [if_pos c3] at H
    have c3b0 : decide (0 ≤ a1) = true := decide_eq_true c3
    clear c3
    by_cases c4 : a1 < (a0.size : Int)
    · rw [if_pos c4] at H
      have c4b0 : decide (a1 < (a0.size : Int)) = true := decide_eq_true c4
      clear c4
      replace H := Option.bind_eq_some_iff.mp H
      obtain ⟨t155, A60, H⟩ := H
      replace H : (if t155 = true then (octroiref04_token.l0 k a0 a1 0 0 (⟨#[]⟩ : ByteArray) a1 a1) else ((octroiref04_Digit.f (bt a0 a1)).bind fun t158 => (if t158 = true then (octroiref04_token.l1 k a0 0 0 (⟨#[]⟩ : ByteArray) a1 a1) else ((octroiref04_mark.f k a0 a1).bind fun t160 => (if t160 = 0 then (some (0, 0, (⟨#[]⟩ : ByteArray), a1, a1, 40)) else (if a1 ≤ (wrap64 (a1 + t160)) then (if (wrap64 (a1 + t160)) ≤ (a0.size : Int) then (some (3, 0, a0.extract (a1 : Int).toNat ((wrap64 (a1 + t160)) : Int).toNat, a1, wrap64 (a1 + t160), 0)) else (none)) else (none))))))) = some (r1, r2, r3, r4, r5, r6) := H
      have A6 := Aside0.mk A60
      clear A60
      by_cases c7 : t155 = true
      · subst c7
        have H1 : (octroiref04_token.l0 k a0 a1 0 0 (⟨#[]⟩ : ByteArray) a1 a1) = some (r1, r2, r3, r4, r5, r6) := by rw [if_pos rfl] at H; exact H
        clear H
        have H := H1
        clear H1
        have H' := Aside0.mk H
        clear H
        go_enter Try.func20, Try.ntmps20
        go_wp2_with (first | ((with_reducible refine gate_dst (N := 4) rfl ?_); refine box_event ?hg (N := 4) ?hd (cs := #[.int .i64 0, .int .i64 0, .string (⟨#[]⟩ : ByteArray), .int .i64 0, .int .i64 0]) (t := 32) ?hr ?_; (case hd => rfl); (case hg => rfl); (case hr => first | (go_simp; done) | (go_simp; rfl)); intro gb153 hg w8 hbox hb; have n0_ := Aside0.mk (below_step (by repeat (first | (with_reducible first | exact HB.out | apply below_alloc | apply pw_below_drewN | apply below_drew1) | exact HB.out)) hb); have n1_ := Aside0.mk (hbox); have n2_ := Aside0.mk ((by rw [hg]; exact (below_size (by repeat (first | (with_reducible first | exact HB.out | apply below_alloc | apply pw_below_drewN | apply below_drew1) | exact HB.out))) : w.heap.size ≤ gb153)); have n3_ := Aside0.mk ((by rw [hg]; exact (below_size (by repeat (first | (with_reducible first | exact HB.out | apply below_alloc | apply pw_below_drewN | apply below_drew1) | exact HB.out))) : w.heap.size ≤ gb153)); clear HB; have HB := n0_; have BK153 := n1_; have GW153 := n2_; have GE153 := n3_; clear n0_ n1_ n2_ n3_; clear hb hbox hg) | ((with_reducible refine gate_dst (N := 6) rfl ?_); refine box_event ?hg (N := 6) ?hd (cs := #[.int .i64 0, .int .i64 0, .string (⟨#[]⟩ : ByteArray), .int .i64 0, .int .i64 0]) (t := 32) ?hr ?_; (case hd => rfl); (case hg => rfl); (case hr => first | (go_simp; done) | (go_simp; rfl)); intro gb154 hg w9 hbox hb; have n0_ := Aside0.mk (blk_below (g := gb153) (o := .cells #[.int .i64 0, .int .i64 0, .string (⟨#[]⟩ : ByteArray), .int .i64 0, .int .i64 0] 32 (0, 0)) (by (with_reducible repeat (first | refine blk_drewN ?_ _ | refine blk_drew ?_ | refine blk_alloc ?_ _)); exact BK153.out) hb); have n1_ := Aside0.mk (below_step (by repeat (first | (with_reducible first | exact HB.out | apply below_alloc | apply pw_below_drewN | apply below_drew1 | refine below_set ?_ GE153.out) | exact HB.out)) hb); have n2_ := Aside0.mk (hbox); have n3_ := Aside0.mk ((by rw [hg]; exact (below_size (by repeat (first | (with_reducible first | exact HB.out | apply below_alloc | apply pw_below_drewN | apply below_drew1 | refine below_set ?_ GE153.out) | exact HB.out))) : w.heap.size ≤ gb154)); have n4_ := Aside0.mk ((by rw [hg]; exact (below_size (by repeat (first | (with_reducible first | exact HB.out | apply below_alloc | apply pw_below_drewN | apply below_drew1 | refine below_set ?_ GE153.out) | exact HB.out))) : w.heap.size ≤ gb154)); have n5_ := Aside0.mk ((by rw [hg]; exact Nat.ne_of_lt (blk_lt (g := gb153) (o := .cells #[.int .i64 0, .int .i64 0, .string (⟨#[]⟩ : ByteArray), .int .i64 0, .int .i64 0] 32 (0, 0)) (by (with_reducible repeat (first | refine blk_drewN ?_ _ | refine blk_drew ?_ | refine blk_alloc ?_ _)); exact BK153.out)) : gb153 ≠ gb154)); have n6_ := Aside0.mk ((by rw [hg]; exact Nat.ne_of_gt (blk_lt (g := gb153) (o := .cells #[.int .i64 0, .int .i64 0, .string (⟨#[]⟩ : ByteArray), .int .i64 0, .int .i64 0] 32 (0, 0)) (by (with_reducible repeat (first | refine blk_drewN ?_ _ | refine blk_drew ?_ | refine blk_alloc ?_ _)); exact BK153.out)) : gb154 ≠ gb153)); clear BK153; clear HB; have BK153 := n0_; have HB := n1_; have BK154 := n2_; have GW154 := n3_; have GE154 := n4_; have NB153_154 := n5_; have NB154_153 := n6_; clear n0_ n1_ n2_ n3_ n4_ n5_ n6_; clear hb hbox hg; have hnb10 := NB154_153.out; have hnc10 := NB153_154.out; have hcz11_0 : w9.cell? ⟨gb154, 0, none⟩ = some (.int .i64 0) := (blk_cell BK154.out 0).trans rfl; have hcz11_1 : w9.cell? ⟨gb154, 1, none⟩ = some (.int .i64 0) := (blk_cell BK154.out 1).trans rfl; have hcz11_2 : w9.cell? ⟨gb154, 2, none⟩ = some (.string (⟨#[]⟩ : ByteArray)) := (blk_cell BK154.out 2).trans rfl; have hcz11_3 : w9.cell? ⟨gb154, 3, none⟩ = some (.int .i64 0) := (blk_cell BK154.out 3).trans rfl; have hcz11_4 : w9.cell? ⟨gb154, 4, none⟩ = some (.int .i64 0) := (blk_cell BK154.out 4).trans rfl; have hfz11_0 := blk_frozen BK154.out 0; have hfz11_1 := blk_frozen BK154.out 1; have hfz11_2 := blk_frozen BK154.out 2; have hfz11_3 := blk_frozen BK154.out 3; have hfz11_4 := blk_frozen BK154.out 4; have p5 : 0 ≤ (a1 : Int) := of_decide_eq_true (by first | (with_reducible assumption) | assumption); have q5 : a1 < (a0.size : Int) := of_decide_eq_true (by first | (with_reducible assumption) | assumption); have hx5 := bt_at a0 a1; replace p5 := eq_true p5; replace q5 := eq_true q5) | ((with_reducible refine gate_callee (f := 26) rfl ?_); refine goesL_ (some 14) rfl rfl Try.func26 (by kernel_rfl) rfl #[.int .u8 (bt a0 a1)] rfl (by (try simp only [List.map_toArray, List.map_cons, List.map_nil]); first | done | rfl | (simp only [List.length_drop, List.length_take]; rfl)) ?_; (with_reducible refine (octroiref04_Letter.calls (bt a0 a1) true _ A6.out).mono ?_); rintro e w' ⟨rfl, ⟨nd, rfl⟩⟩; refine ⟨_, rfl, ?_⟩))
        (try simp only [Act.put, List.setIfInBounds_toArray, List.set_cons_zero, List.set_cons_succ])
        go_loopg [] k (fun kq w' => ∃ (x155004_1 : Int), Aside0 (octroiref04_token.l0 kq a0 a1 0 0 (⟨#[]⟩ : ByteArray) a1 x155004_1 = some (r1, r2, r3, r4, r5, r6)) ∧ Aside0 (kq ≤ k) ∧ Aside0 (w'.heap[gb153]? = some (.cells #[.int .i64 0, .int .i64 0, .string (⟨#[]⟩ : ByteArray), .int .i64 0, .int .i64 0] 32 (0, 0))) ∧ Aside0 (w'.heap[gb154]? = some (.cells #[.int .i64 0, .int .i64 0, .string (⟨#[]⟩ : ByteArray), .int .i64 a1, .int .i64 x155004_1] 32 (0, 0))) ∧ Aside0 (Below w.heap.size w w'))
        case atStart => exact ⟨(a1), H', ⟨Nat.le_refl _⟩, ⟨by (with_reducible repeat (first | refine blk_drewN ?_ _ | refine blk_drew ?_ | refine blk_alloc ?_ _)); refine blk_far ?_ NB153_154.out _; (with_reducible repeat (first | refine blk_drewN ?_ _ | refine blk_drew ?_ | refine blk_alloc ?_ _)); refine blk_far ?_ NB153_154.out _; (with_reducible repeat (first | refine blk_drewN ?_ _ | refine blk_drew ?_ | refine blk_alloc ?_ _)); refine blk_far ?_ NB153_154.out _; (with_reducible repeat (first | refine blk_drewN ?_ _ | refine blk_drew ?_ | refine blk_alloc ?_ _)); refine blk_far ?_ NB153_154.out _; (with_reducible repeat (first | refine blk_drewN ?_ _ | refine blk_drew ?_ | refine blk_alloc ?_ _)); refine blk_far ?_ NB153_154.out _; (with_reducible repeat (first | refine blk_drewN ?_ _ | refine blk_drew ?_ | refine blk_alloc ?_ _)); exact BK153.out⟩, ⟨by (with_reducible repeat (first | refine blk_drewN ?_ _ | refine blk_drew ?_ | refine blk_alloc ?_ _)); refine blk_put (cs := #[.int .i64 0, .int .i64 0, .string (⟨#[]⟩ : ByteArray), .int .i64 a1, .int .i64 0]) ?_ 4 _ rfl; (with_reducible repeat (first | refine blk_drewN ?_ _ | refine blk_drew ?_ | refine blk_alloc ?_ _)); refine blk_put (cs := #[.int .i64 0, .int .i64 0, .string (⟨#[]⟩ : ByteArray), .int .i64 0, .int .i64 0]) ?_ 3 _ rfl; (with_reducible repeat (first | refine blk_drewN ?_ _ | refine blk_drew ?_ | refine blk_alloc ?_ _)); refine blk_put (cs := #[.int .i64 0, .int .i64 0, .string (⟨#[]⟩ : ByteArray), .int .i64 0, .int .i64 0]) ?_ 2 _ rfl; (with_reducible repeat (first | refine blk_drewN ?_ _ | refine blk_drew ?_ | refine blk_alloc ?_ _)); refine blk_put (cs := #[.int .i64 0, .int .i64 0, .string (⟨#[]⟩ : ByteArray), .int .i64 0, .int .i64 0]) ?_ 1 _ rfl; (with_reducible repeat (first | refine blk_drewN ?_ _ | refine blk_drew ?_ | refine blk_alloc ?_ _)); refine blk_put (cs := #[.int .i64 0, .int .i64 0, .string (⟨#[]⟩ : ByteArray), .int .i64 0, .int .i64 0]) ?_ 0 _ rfl; (with_reducible repeat (first | refine blk_drewN ?_ _ | refine blk_drew ?_ | refine blk_alloc ?_ _)); exact BK154.out⟩, ⟨by repeat (first | (with_reducible first | exact HB.out | apply below_alloc | apply pw_below_drewN | apply below_drew1 | refine below_set ?_ GE153.out | refine below_set ?_ GE154.out) | exact HB.out)⟩⟩
        case round =>
          clear H'
          try clear c1
          try clear c2
          try clear p2
          try clear c3
          try clear c3b0
          try clear c4
          try clear c4b0
          try clear p5
          try clear q5
          try clear hx5
          try clear p6
          try clear c7
          try clear c10
          try clear hcz11_0
          try clear hcz11_1
          try clear hcz11_2
          try clear hcz11_3
          try clear hcz11_4
          try clear hfz11_0
          try clear hfz11_1
          try clear hfz11_2
          try clear hfz11_3
          try clear hfz11_4
          try clear p5
          try clear q5
          obtain ⟨x155004_1, HA, HK1, BK153, BK154, HB⟩ := hrel
          cases gk with
          | zero => exact absurd HA.out (by simp [octroiref04_token.l0])
          | succ k1 =>
            have H := HA.out
            clear HA
            simp only [octroiref04_token.l0] at H
            by_cases c12 : x155004_1 < (a0.size : Int)
            · rw [if_pos c12] at H
              have c12b0 : decide (x155004_1 < (a0.size : Int)) = true := decide_eq_true c12
              clear c12
              by_cases c13 : 0 ≤ x155004_1
              · rw [if_pos c13] at H
                have c13b0 : decide (0 ≤ x155004_1) = true := decide_eq_true c13
                clear c13
                replace H := Option.bind_eq_some_iff.mp H
                obtain ⟨t156, A150, H⟩ := H
                replace H : (if t156 = true then (octroiref04_token.l0 k1 a0 a1 0 0 (⟨#[]⟩ : ByteArray) a1 (wrap64 (x155004_1 + 1))) else ((octroiref04_Digit.f (bt a0 x155004_1)).bind fun t157 => (if t157 = true then (octroiref04_token.l0 k1 a0 a1 0 0 (⟨#[]⟩ : ByteArray) a1 (wrap64 (x155004_1 + 1))) else (if (bt a0 x155004_1) = 95 then (octroiref04_token.l0 k1 a0 a1 0 0 (⟨#[]⟩ : ByteArray) a1 (wrap64 (x155004_1 + 1))) else (if (wrap64 (x155004_1 - a1)) > 32 then (some (0, 0, (⟨#[]⟩ : ByteArray), a1, x155004_1, 2)) else (if 0 ≤ a1 then (if a1 ≤ x155004_1 then (if x155004_1 ≤ (a0.size : Int) then (some (1, 0, a0.extract (a1 : Int).toNat (x155004_1 : Int).toNat, a1, x155004_1, 0)) else (none)) else (none)) else (none))))))) = some (r1, r2, r3, r4, r5, r6) := H
                have A15 := Aside0.mk A150
                clear A150
                by_cases c16 : t156 = true
                · subst c16
                  have H1 : (octroiref04_token.l0 k1 a0 a1 0 0 (⟨#[]⟩ : ByteArray) a1 (wrap64 (x155004_1 + 1))) = some (r1, r2, r3, r4, r5, r6) := by rw [if_pos rfl] at H; exact H
                  clear H
                  have H := H1
                  clear H1
                  have H' := Aside0.mk H
                  clear H
                  have hnb17 := NB154_153.out
                  have hnc17 := NB153_154.out
                  have hcz18_0 : wr.cell? ⟨gb154, 0, none⟩ = some (.int .i64 0) := (blk_cell BK154.out 0).trans rfl
                  have hcz18_1 : wr.cell? ⟨gb154, 1, none⟩ = some (.int .i64 0) := (blk_cell BK154.out 1).trans rfl
                  have hcz18_2 : wr.cell? ⟨gb154, 2, none⟩ = some (.string (⟨#[]⟩ : ByteArray)) := (blk_cell BK154.out 2).trans rfl
                  have hcz18_3 : wr.cell? ⟨gb154, 3, none⟩ = some (.int .i64 a1) := (blk_cell BK154.out 3).trans rfl
                  have hcz18_4 : wr.cell? ⟨gb154, 4, none⟩ = some (.int .i64 x155004_1) := (blk_cell BK154.out 4).trans rfl
                  have hfz18_0 := blk_frozen BK154.out 0
                  have hfz18_1 := blk_frozen BK154.out 1
                  have hfz18_2 := blk_frozen BK154.out 2
                  have hfz18_3 := blk_frozen BK154.out 3
                  have hfz18_4 := blk_frozen BK154.out 4
                  have p14 : 0 ≤ (x155004_1 : Int) := of_decide_eq_true (by first | (with_reducible assumption) | assumption)
                  have q14 : x155004_1 < (a0.size : Int) := of_decide_eq_true (by first | (with_reducible assumption) | assumption)
                  have hx14 := bt_at a0 x155004_1
                  replace p14 := eq_true p14
                  replace q14 := eq_true q14
                  go_wp2_with (first | (go_at_call 26; (with_reducible refine (octroiref04_Letter.calls (bt a0 x155004_1) true _ A15.out).mono ?_); rintro e w' ⟨rfl, ⟨nd, rfl⟩⟩; (try (rw [drewN_self wr]; generalize hq_ : World.drewN wr _ = wr; have n0_ : Aside0 (wr.heap[gb153]? = some (.cells #[.int .i64 0, .int .i64 0, .string (⟨#[]⟩ : ByteArray), .int .i64 0, .int .i64 0] 32 (0, 0))) := ⟨by rw [← hq_]; exact (by (with_reducible repeat (first | refine blk_drewN ?_ _ | refine blk_drew ?_ | refine blk_alloc ?_ _)); exact BK153.out)⟩; have n1_ : Aside0 (wr.heap[gb154]? = some (.cells #[.int .i64 0, .int .i64 0, .string (⟨#[]⟩ : ByteArray), .int .i64 a1, .int .i64 x155004_1] 32 (0, 0))) := ⟨by rw [← hq_]; exact (by (with_reducible repeat (first | refine blk_drewN ?_ _ | refine blk_drew ?_ | refine blk_alloc ?_ _)); exact BK154.out)⟩; have n2_ : Aside0 (Below w.heap.size w wr) := ⟨by rw [← hq_]; exact (by repeat (first | (with_reducible first | exact HB.out | apply below_alloc | apply pw_below_drewN | apply below_drew1 | refine below_set ?_ GE153.out | refine below_set ?_ GE154.out) | exact HB.out))⟩; clear BK153 BK154 HB hq_; have BK153 := n0_; have BK154 := n1_; have HB := n2_; clear n0_ n1_ n2_)); have hcz19_0 : wr.cell? ⟨gb154, 0, none⟩ = some (.int .i64 0) := (blk_cell BK154.out 0).trans rfl; have hcz19_1 : wr.cell? ⟨gb154, 1, none⟩ = some (.int .i64 0) := (blk_cell BK154.out 1).trans rfl; have hcz19_2 : wr.cell? ⟨gb154, 2, none⟩ = some (.string (⟨#[]⟩ : ByteArray)) := (blk_cell BK154.out 2).trans rfl; have hcz19_3 : wr.cell? ⟨gb154, 3, none⟩ = some (.int .i64 a1) := (blk_cell BK154.out 3).trans rfl; have hcz19_4 : wr.cell? ⟨gb154, 4, none⟩ = some (.int .i64 x155004_1) := (blk_cell BK154.out 4).trans rfl; have hfz19_0 := blk_frozen BK154.out 0; have hfz19_1 := blk_frozen BK154.out 1; have hfz19_2 := blk_frozen BK154.out 2; have hfz19_3 := blk_frozen BK154.out 3; have hfz19_4 := blk_frozen BK154.out 4))
                  go_roundg k1
                  case measure => have := HK1.out; omega
                  case rel => exact ⟨(wrap64 (x155004_1 + 1)), H', ⟨by have := HK1.out; omega⟩, ⟨by (with_reducible repeat (first | refine blk_drewN ?_ _ | refine blk_drew ?_ | refine blk_alloc ?_ _)); refine blk_far ?_ NB153_154.out _; (with_reducible repeat (first | refine blk_drewN ?_ _ | refine blk_drew ?_ | refine blk_alloc ?_ _)); exact BK153.out⟩, ⟨by (with_reducible repeat (first | refine blk_drewN ?_ _ | refine blk_drew ?_ | refine blk_alloc ?_ _)); refine blk_put (cs := #[.int .i64 0, .int .i64 0, .string (⟨#[]⟩ : ByteArray), .int .i64 a1, .int .i64 x155004_1]) ?_ 4 _ rfl; (with_reducible repeat (first | refine blk_drewN ?_ _ | refine blk_drew ?_ | refine blk_alloc ?_ _)); exact BK154.out⟩, ⟨by repeat (first | (with_reducible first | exact HB.out | apply below_alloc | apply pw_below_drewN | apply below_drew1 | refine below_set ?_ GE153.out | refine below_set ?_ GE154.out) | exact HB.out)⟩⟩
                · replace c16 := Bool.eq_false_iff.mpr c16
                  subst c16
                  have H1 : ((octroiref04_Digit.f (bt a0 x155004_1)).bind fun t157 => (if t157 = true then (octroiref04_token.l0 k1 a0 a1 0 0 (⟨#[]⟩ : ByteArray) a1 (wrap64 (x155004_1 + 1))) else (if (bt a0 x155004_1) = 95 then (octroiref04_token.l0 k1 a0 a1 0 0 (⟨#[]⟩ : ByteArray) a1 (wrap64 (x155004_1 + 1))) else (if (wrap64 (x155004_1 - a1)) > 32 then (some (0, 0, (⟨#[]⟩ : ByteArray), a1, x155004_1, 2)) else (if 0 ≤ a1 then (if a1 ≤ x155004_1 then (if x155004_1 ≤ (a0.size : Int) then (some (1, 0, a0.extract (a1 : Int).toNat (x155004_1 : Int).toNat, a1, x155004_1, 0)) else (none)) else (none)) else (none)))))) = some (r1, r2, r3, r4, r5, r6) := by rw [if_neg (show ¬ (false = true) by decide)] at H; exact H
                  clear H
                  have H := H1
                  clear H1
                  replace H := Option.bind_eq_some_iff.mp H
                  obtain ⟨t157, A210, H⟩ := H
                  replace H : (if t157 = true then (octroiref04_token.l0 k1 a0 a1 0 0 (⟨#[]⟩ : ByteArray) a1 (wrap64 (x155004_1 + 1))) else (if (bt a0 x155004_1) = 95 then (octroiref04_token.l0 k1 a0 a1 0 0 (⟨#[]⟩ : ByteArray) a1 (wrap64 (x155004_1 + 1))) else (if (wrap64 (x155004_1 - a1)) > 32 then (some (0, 0, (⟨#[]⟩ : ByteArray), a1, x155004_1, 2)) else (if 0 ≤ a1 then (if a1 ≤ x155004_1 then (if x155004_1 ≤ (a0.size : Int) then (some (1, 0, a0.extract (a1 : Int).toNat (x155004_1 : Int).toNat, a1, x155004_1, 0)) else (none)) else (none)) else (none))))) = some (r1, r2, r3, r4, r5, r6) := H
                  have A21 := Aside0.mk A210
                  clear A210
                  by_cases c22 : t157 = true
                  · subst c22
                    have H1 : (octroiref04_token.l0 k1 a0 a1 0 0 (⟨#[]⟩ : ByteArray) a1 (wrap64 (x155004_1 + 1))) = some (r1, r2, r3, r4, r5, r6) := by rw [if_pos rfl] at H; exact H
                    clear H
                    have H := H1
                    clear H1
                    have H' := Aside0.mk H
                    clear H
                    have hnb23 := NB154_153.out
                    have hnc23 := NB153_154.out
                    have hcz24_0 : wr.cell? ⟨gb154, 0, none⟩ = some (.int .i64 0) := (blk_cell BK154.out 0).trans rfl
                    have hcz24_1 : wr.cell? ⟨gb154, 1, none⟩ = some (.int .i64 0) := (blk_cell BK154.out 1).trans rfl
                    have hcz24_2 : wr.cell? ⟨gb154, 2, none⟩ = some (.string (⟨#[]⟩ : ByteArray)) := (blk_cell BK154.out 2).trans rfl
                    have hcz24_3 : wr.cell? ⟨gb154, 3, none⟩ = some (.int .i64 a1) := (blk_cell BK154.out 3).trans rfl
                    have hcz24_4 : wr.cell? ⟨gb154, 4, none⟩ = some (.int .i64 x155004_1) := (blk_cell BK154.out 4).trans rfl
                    have hfz24_0 := blk_frozen BK154.out 0
                    have hfz24_1 := blk_frozen BK154.out 1
                    have hfz24_2 := blk_frozen BK154.out 2
                    have hfz24_3 := blk_frozen BK154.out 3
                    have hfz24_4 := blk_frozen BK154.out 4
                    have p14 : 0 ≤ (x155004_1 : Int) := of_decide_eq_true (by first | (with_reducible assumption) | assumption)
                    have q14 : x155004_1 < (a0.size : Int) := of_decide_eq_true (by first | (with_reducible assumption) | assumption)
                    have hx14 := bt_at a0 x155004_1
                    replace p14 := eq_true p14
                    replace q14 := eq_true q14
                    go_wp2_with (first | (go_at_call 26; (with_reducible refine (octroiref04_Letter.calls (bt a0 x155004_1) false _ A15.out).mono ?_); rintro e w' ⟨rfl, ⟨nd, rfl⟩⟩; (try (rw [drewN_self wr]; generalize hq_ : World.drewN wr _ = wr; have n0_ : Aside0 (wr.heap[gb153]? = some (.cells #[.int .i64 0, .int .i64 0, .string (⟨#[]⟩ : ByteArray), .int .i64 0, .int .i64 0] 32 (0, 0))) := ⟨by rw [← hq_]; exact (by (with_reducible repeat (first | refine blk_drewN ?_ _ | refine blk_drew ?_ | refine blk_alloc ?_ _)); exact BK153.out)⟩; have n1_ : Aside0 (wr.heap[gb154]? = some (.cells #[.int .i64 0, .int .i64 0, .string (⟨#[]⟩ : ByteArray), .int .i64 a1, .int .i64 x155004_1] 32 (0, 0))) := ⟨by rw [← hq_]; exact (by (with_reducible repeat (first | refine blk_drewN ?_ _ | refine blk_drew ?_ | refine blk_alloc ?_ _)); exact BK154.out)⟩; have n2_ : Aside0 (Below w.heap.size w wr) := ⟨by rw [← hq_]; exact (by repeat (first | (with_reducible first | exact HB.out | apply below_alloc | apply pw_below_drewN | apply below_drew1 | refine below_set ?_ GE153.out | refine below_set ?_ GE154.out) | exact HB.out))⟩; clear BK153 BK154 HB hq_; have BK153 := n0_; have BK154 := n1_; have HB := n2_; clear n0_ n1_ n2_)); have hcz25_0 : wr.cell? ⟨gb154, 0, none⟩ = some (.int .i64 0) := (blk_cell BK154.out 0).trans rfl; have hcz25_1 : wr.cell? ⟨gb154, 1, none⟩ = some (.int .i64 0) := (blk_cell BK154.out 1).trans rfl; have hcz25_2 : wr.cell? ⟨gb154, 2, none⟩ = some (.string (⟨#[]⟩ : ByteArray)) := (blk_cell BK154.out 2).trans rfl; have hcz25_3 : wr.cell? ⟨gb154, 3, none⟩ = some (.int .i64 a1) := (blk_cell BK154.out 3).trans rfl; have hcz25_4 : wr.cell? ⟨gb154, 4, none⟩ = some (.int .i64 x155004_1) := (blk_cell BK154.out 4).trans rfl; have hfz25_0 := blk_frozen BK154.out 0; have hfz25_1 := blk_frozen BK154.out 1; have hfz25_2 := blk_frozen BK154.out 2; have hfz25_3 := blk_frozen BK154.out 3; have hfz25_4 := blk_frozen BK154.out 4; have p20 : 0 ≤ (x155004_1 : Int) := of_decide_eq_true (by first | (with_reducible assumption) | assumption); have q20 : x155004_1 < (a0.size : Int) := of_decide_eq_true (by first | (with_reducible assumption) | assumption); have hx20 := bt_at a0 x155004_1; replace p20 := eq_true p20; replace q20 := eq_true q20) | (go_at_call 27; (with_reducible refine (octroiref04_Digit.calls (bt a0 x155004_1) true _ A21.out).mono ?_); rintro e w' ⟨rfl, ⟨nd, rfl⟩⟩; (try (rw [drewN_self wr]; generalize hq_ : World.drewN wr _ = wr; have n0_ : Aside0 (wr.heap[gb153]? = some (.cells #[.int .i64 0, .int .i64 0, .string (⟨#[]⟩ : ByteArray), .int .i64 0, .int .i64 0] 32 (0, 0))) := ⟨by rw [← hq_]; exact (by (with_reducible repeat (first | refine blk_drewN ?_ _ | refine blk_drew ?_ | refine blk_alloc ?_ _)); exact BK153.out)⟩; have n1_ : Aside0 (wr.heap[gb154]? = some (.cells #[.int .i64 0, .int .i64 0, .string (⟨#[]⟩ : ByteArray), .int .i64 a1, .int .i64 x155004_1] 32 (0, 0))) := ⟨by rw [← hq_]; exact (by (with_reducible repeat (first | refine blk_drewN ?_ _ | refine blk_drew ?_ | refine blk_alloc ?_ _)); exact BK154.out)⟩; have n2_ : Aside0 (Below w.heap.size w wr) := ⟨by rw [← hq_]; exact (by repeat (first | (with_reducible first | exact HB.out | apply below_alloc | apply pw_below_drewN | apply below_drew1 | refine below_set ?_ GE153.out | refine below_set ?_ GE154.out) | exact HB.out))⟩; clear BK153 BK154 HB hq_; have BK153 := n0_; have BK154 := n1_; have HB := n2_; clear n0_ n1_ n2_)); have hcz26_0 : wr.cell? ⟨gb154, 0, none⟩ = some (.int .i64 0) := (blk_cell BK154.out 0).trans rfl; have hcz26_1 : wr.cell? ⟨gb154, 1, none⟩ = some (.int .i64 0) := (blk_cell BK154.out 1).trans rfl; have hcz26_2 : wr.cell? ⟨gb154, 2, none⟩ = some (.string (⟨#[]⟩ : ByteArray)) := (blk_cell BK154.out 2).trans rfl; have hcz26_3 : wr.cell? ⟨gb154, 3, none⟩ = some (.int .i64 a1) := (blk_cell BK154.out 3).trans rfl; have hcz26_4 : wr.cell? ⟨gb154, 4, none⟩ = some (.int .i64 x155004_1) := (blk_cell BK154.out 4).trans rfl; have hfz26_0 := blk_frozen BK154.out 0; have hfz26_1 := blk_frozen BK154.out 1; have hfz26_2 := blk_frozen BK154.out 2; have hfz26_3 := blk_frozen BK154.out 3; have hfz26_4 := blk_frozen BK154.out 4))
                    go_roundg k1
                    case measure => have := HK1.out; omega
                    case rel => exact ⟨(wrap64 (x155004_1 + 1)), H', ⟨by have := HK1.out; omega⟩, ⟨by (with_reducible repeat (first | refine blk_drewN ?_ _ | refine blk_drew ?_ | refine blk_alloc ?_ _)); refine blk_far ?_ NB153_154.out _; (with_reducible repeat (first | refine blk_drewN ?_ _ | refine blk_drew ?_ | refine blk_alloc ?_ _)); exact BK153.out⟩, ⟨by (with_reducible repeat (first | refine blk_drewN ?_ _ | refine blk_drew ?_ | refine blk_alloc ?_ _)); refine blk_put (cs := #[.int .i64 0, .int .i64 0, .string (⟨#[]⟩ : ByteArray), .int .i64 a1, .int .i64 x155004_1]) ?_ 4 _ rfl; (with_reducible repeat (first | refine blk_drewN ?_ _ | refine blk_drew ?_ | refine blk_alloc ?_ _)); exact BK154.out⟩, ⟨by repeat (first | (with_reducible first | exact HB.out | apply below_alloc | apply pw_below_drewN | apply below_drew1 | refine below_set ?_ GE153.out | refine below_set ?_ GE154.out) | exact HB.out)⟩⟩
                  · replace c22 := Bool.eq_false_iff.mpr c22
                    subst c22
                    have H1 : (if (bt a0 x155004_1) = 95 then (octroiref04_token.l0 k1 a0 a1 0 0 (⟨#[]⟩ : ByteArray) a1 (wrap64 (x155004_1 + 1))) else (if (wrap64 (x155004_1 - a1)) > 32 then (some (0, 0, (⟨#[]⟩ : ByteArray), a1, x155004_1, 2)) else (if 0 ≤ a1 then (if a1 ≤ x155004_1 then (if x155004_1 ≤ (a0.size : Int) then (some (1, 0, a0.extract (a1 : Int).toNat (x155004_1 : Int).toNat, a1, x155004_1, 0)) else (none)) else (none)) else (none)))) = some (r1, r2, r3, r4, r5, r6) := by rw [if_neg (show ¬ (false = true) by decide)] at H; exact H
                    clear H
                    have H := H1
                    clear H1
                    by_cases c28 : (bt a0 x155004_1) = 95
                    · rw [if_pos c28] at H
                      have c28b0 : ((bt a0 x155004_1) == 95) = true := beq_iff_eq.mpr c28
                      have c28b1 : ((bt a0 x155004_1) != 95) = false := bne_eq_false_iff_eq.mpr c28
                      clear c28
                      have H' := Aside0.mk H
                      clear H
                      have hnb29 := NB154_153.out
                      have hnc29 := NB153_154.out
                      have hcz30_0 : wr.cell? ⟨gb154, 0, none⟩ = some (.int .i64 0) := (blk_cell BK154.out 0).trans rfl
                      have hcz30_1 : wr.cell? ⟨gb154, 1, none⟩ = some (.int .i64 0) := (blk_cell BK154.out 1).trans rfl
                      have hcz30_2 : wr.cell? ⟨gb154, 2, none⟩ = some (.string (⟨#[]⟩ : ByteArray)) := (blk_cell BK154.out 2).trans rfl
                      have hcz30_3 : wr.cell? ⟨gb154, 3, none⟩ = some (.int .i64 a1) := (blk_cell BK154.out 3).trans rfl
                      have hcz30_4 : wr.cell? ⟨gb154, 4, none⟩ = some (.int .i64 x155004_1) := (blk_cell BK154.out 4).trans rfl
                      have hfz30_0 := blk_frozen BK154.out 0
                      have hfz30_1 := blk_frozen BK154.out 1
                      have hfz30_2 := blk_frozen BK154.out 2
                      have hfz30_3 := blk_frozen BK154.out 3
                      have hfz30_4 := blk_frozen BK154.out 4
                      have p14 : 0 ≤ (x155004_1 : Int) := of_decide_eq_true (by first | (with_reducible assumption) | assumption)
                      have q14 : x155004_1 < (a0.size : Int) := of_decide_eq_true (by first | (with_reducible assumption) | assumption)
                      have hx14 := bt_at a0 x155004_1
                      replace p14 := eq_true p14
                      replace q14 := eq_true q14
                      go_wp2_with (first | (go_at_call 26; (with_reducible refine (octroiref04_Letter.calls (bt a0 x155004_1) false _ A15.out).mono ?_); rintro e w' ⟨rfl, ⟨nd, rfl⟩⟩; (try (rw [drewN_self wr]; generalize hq_ : World.drewN wr _ = wr; have n0_ : Aside0 (wr.heap[gb153]? = some (.cells #[.int .i64 0, .int .i64 0, .string (⟨#[]⟩ : ByteArray), .int .i64 0, .int .i64 0] 32 (0, 0))) := ⟨by rw [← hq_]; exact (by (with_reducible repeat (first | refine blk_drewN ?_ _ | refine blk_drew ?_ | refine blk_alloc ?_ _)); exact BK153.out)⟩; have n1_ : Aside0 (wr.heap[gb154]? = some (.cells #[.int .i64 0, .int .i64 0, .string (⟨#[]⟩ : ByteArray), .int .i64 a1, .int .i64 x155004_1] 32 (0, 0))) := ⟨by rw [← hq_]; exact (by (with_reducible repeat (first | refine blk_drewN ?_ _ | refine blk_drew ?_ | refine blk_alloc ?_ _)); exact BK154.out)⟩; have n2_ : Aside0 (Below w.heap.size w wr) := ⟨by rw [← hq_]; exact (by repeat (first | (with_reducible first | exact HB.out | apply below_alloc | apply pw_below_drewN | apply below_drew1 | refine below_set ?_ GE153.out | refine below_set ?_ GE154.out) | exact HB.out))⟩; clear BK153 BK154 HB hq_; have BK153 := n0_; have BK154 := n1_; have HB := n2_; clear n0_ n1_ n2_)); have hcz31_0 : wr.cell? ⟨gb154, 0, none⟩ = some (.int .i64 0) := (blk_cell BK154.out 0).trans rfl; have hcz31_1 : wr.cell? ⟨gb154, 1, none⟩ = some (.int .i64 0) := (blk_cell BK154.out 1).trans rfl; have hcz31_2 : wr.cell? ⟨gb154, 2, none⟩ = some (.string (⟨#[]⟩ : ByteArray)) := (blk_cell BK154.out 2).trans rfl; have hcz31_3 : wr.cell? ⟨gb154, 3, none⟩ = some (.int .i64 a1) := (blk_cell BK154.out 3).trans rfl; have hcz31_4 : wr.cell? ⟨gb154, 4, none⟩ = some (.int .i64 x155004_1) := (blk_cell BK154.out 4).trans rfl; have hfz31_0 := blk_frozen BK154.out 0; have hfz31_1 := blk_frozen BK154.out 1; have hfz31_2 := blk_frozen BK154.out 2; have hfz31_3 := blk_frozen BK154.out 3; have hfz31_4 := blk_frozen BK154.out 4; have p20 : 0 ≤ (x155004_1 : Int) := of_decide_eq_true (by first | (with_reducible assumption) | assumption); have q20 : x155004_1 < (a0.size : Int) := of_decide_eq_true (by first | (with_reducible assumption) | assumption); have hx20 := bt_at a0 x155004_1; replace p20 := eq_true p20; replace q20 := eq_true q20) | (go_at_call 27; (with_reducible refine (octroiref04_Digit.calls (bt a0 x155004_1) false _ A21.out).mono ?_); rintro e w' ⟨rfl, ⟨nd, rfl⟩⟩; (try (rw [drewN_self wr]; generalize hq_ : World.drewN wr _ = wr; have n0_ : Aside0 (wr.heap[gb153]? = some (.cells #[.int .i64 0, .int .i64 0, .string (⟨#[]⟩ : ByteArray), .int .i64 0, .int .i64 0] 32 (0, 0))) := ⟨by rw [← hq_]; exact (by (with_reducible repeat (first | refine blk_drewN ?_ _ | refine blk_drew ?_ | refine blk_alloc ?_ _)); exact BK153.out)⟩; have n1_ : Aside0 (wr.heap[gb154]? = some (.cells #[.int .i64 0, .int .i64 0, .string (⟨#[]⟩ : ByteArray), .int .i64 a1, .int .i64 x155004_1] 32 (0, 0))) := ⟨by rw [← hq_]; exact (by (with_reducible repeat (first | refine blk_drewN ?_ _ | refine blk_drew ?_ | refine blk_alloc ?_ _)); exact BK154.out)⟩; have n2_ : Aside0 (Below w.heap.size w wr) := ⟨by rw [← hq_]; exact (by repeat (first | (with_reducible first | exact HB.out | apply below_alloc | apply pw_below_drewN | apply below_drew1 | refine below_set ?_ GE153.out | refine below_set ?_ GE154.out) | exact HB.out))⟩; clear BK153 BK154 HB hq_; have BK153 := n0_; have BK154 := n1_; have HB := n2_; clear n0_ n1_ n2_)); have hcz32_0 : wr.cell? ⟨gb154, 0, none⟩ = some (.int .i64 0) := (blk_cell BK154.out 0).trans rfl; have hcz32_1 : wr.cell? ⟨gb154, 1, none⟩ = some (.int .i64 0) := (blk_cell BK154.out 1).trans rfl; have hcz32_2 : wr.cell? ⟨gb154, 2, none⟩ = some (.string (⟨#[]⟩ : ByteArray)) := (blk_cell BK154.out 2).trans rfl; have hcz32_3 : wr.cell? ⟨gb154, 3, none⟩ = some (.int .i64 a1) := (blk_cell BK154.out 3).trans rfl; have hcz32_4 : wr.cell? ⟨gb154, 4, none⟩ = some (.int .i64 x155004_1) := (blk_cell BK154.out 4).trans rfl; have hfz32_0 := blk_frozen BK154.out 0; have hfz32_1 := blk_frozen BK154.out 1; have hfz32_2 := blk_frozen BK154.out 2; have hfz32_3 := blk_frozen BK154.out 3; have hfz32_4 := blk_frozen BK154.out 4; have p27 : 0 ≤ (x155004_1 : Int) := of_decide_eq_true (by first | (with_reducible assumption) | assumption); have q27 : x155004_1 < (a0.size : Int) := of_decide_eq_true (by first | (with_reducible assumption) | assumption); have hx27 := bt_at a0 x155004_1; replace p27 := eq_true p27; replace q27 := eq_true q27))
                      go_roundg k1
                      case measure => have := HK1.out; omega
                      case rel => exact ⟨(wrap64 (x155004_1 + 1)), H', ⟨by have := HK1.out; omega⟩, ⟨by (with_reducible repeat (first | refine blk_drewN ?_ _ | refine blk_drew ?_ | refine blk_alloc ?_ _)); refine blk_far ?_ NB153_154.out _; (with_reducible repeat (first | refine blk_drewN ?_ _ | refine blk_drew ?_ | refine blk_alloc ?_ _)); exact BK153.out⟩, ⟨by (with_reducible repeat (first | refine blk_drewN ?_ _ | refine blk_drew ?_ | refine blk_alloc ?_ _)); refine blk_put (cs := #[.int .i64 0, .int .i64 0, .string (⟨#[]⟩ : ByteArray), .int .i64 a1, .int .i64 x155004_1]) ?_ 4 _ rfl; (with_reducible repeat (first | refine blk_drewN ?_ _ | refine blk_drew ?_ | refine blk_alloc ?_ _)); exact BK154.out⟩, ⟨by repeat (first | (with_reducible first | exact HB.out | apply below_alloc | apply pw_below_drewN | apply below_drew1 | refine below_set ?_ GE153.out | refine below_set ?_ GE154.out) | exact HB.out)⟩⟩
                    · rw [if_neg c28] at H
                      have c28b0 : ((bt a0 x155004_1) == 95) = false := beq_eq_false_iff_ne.mpr c28
                      have c28b1 : ((bt a0 x155004_1) != 95) = true := bne_iff_ne.mpr c28
                      by_cases c33 : (wrap64 (x155004_1 - a1)) > 32
                      · rw [if_pos c33] at H
                        have c33b0 : decide (32 < (wrap64 (x155004_1 - a1))) = true := decide_eq_true c33
                        clear c33
                        simp only [Option.some.injEq, Prod.mk.injEq] at H
                        obtain ⟨rfl, rfl, rfl, rfl, rfl, rfl⟩ := H
                        have hnb34 := NB154_153.out
                        have hnc34 := NB153_154.out
                        have hcz35_0 : wr.cell? ⟨gb154, 0, none⟩ = some (.int .i64 0) := (blk_cell BK154.out 0).trans rfl
                        have hcz35_1 : wr.cell? ⟨gb154, 1, none⟩ = some (.int .i64 0) := (blk_cell BK154.out 1).trans rfl
                        have hcz35_2 : wr.cell? ⟨gb154, 2, none⟩ = some (.string (⟨#[]⟩ : ByteArray)) := (blk_cell BK154.out 2).trans rfl
                        have hcz35_3 : wr.cell? ⟨gb154, 3, none⟩ = some (.int .i64 a1) := (blk_cell BK154.out 3).trans rfl
                        have hcz35_4 : wr.cell? ⟨gb154, 4, none⟩ = some (.int .i64 x155004_1) := (blk_cell BK154.out 4).trans rfl
                        have hfz35_0 := blk_frozen BK154.out 0
                        have hfz35_1 := blk_frozen BK154.out 1
                        have hfz35_2 := blk_frozen BK154.out 2
                        have hfz35_3 := blk_frozen BK154.out 3
                        have hfz35_4 := blk_frozen BK154.out 4
                        have p14 : 0 ≤ (x155004_1 : Int) := of_decide_eq_true (by first | (with_reducible assumption) | assumption)
                        have q14 : x155004_1 < (a0.size : Int) := of_decide_eq_true (by first | (with_reducible assumption) | assumption)
                        have hx14 := bt_at a0 x155004_1
                        replace p14 := eq_true p14
                        replace q14 := eq_true q14
                        go_wp2_with (first | (go_at_call 26; (with_reducible refine (octroiref04_Letter.calls (bt a0 x155004_1) false _ A15.out).mono ?_); rintro e w' ⟨rfl, ⟨nd, rfl⟩⟩; (try (rw [drewN_self wr]; generalize hq_ : World.drewN wr _ = wr; have n0_ : Aside0 (wr.heap[gb153]? = some (.cells #[.int .i64 0, .int .i64 0, .string (⟨#[]⟩ : ByteArray), .int .i64 0, .int .i64 0] 32 (0, 0))) := ⟨by rw [← hq_]; exact (by (with_reducible repeat (first | refine blk_drewN ?_ _ | refine blk_drew ?_ | refine blk_alloc ?_ _)); exact BK153.out)⟩; have n1_ : Aside0 (wr.heap[gb154]? = some (.cells #[.int .i64 0, .int .i64 0, .string (⟨#[]⟩ : ByteArray), .int .i64 a1, .int .i64 x155004_1] 32 (0, 0))) := ⟨by rw [← hq_]; exact (by (with_reducible repeat (first | refine blk_drewN ?_ _ | refine blk_drew ?_ | refine blk_alloc ?_ _)); exact BK154.out)⟩; have n2_ : Aside0 (Below w.heap.size w wr) := ⟨by rw [← hq_]; exact (by repeat (first | (with_reducible first | exact HB.out | apply below_alloc | apply pw_below_drewN | apply below_drew1 | refine below_set ?_ GE153.out | refine below_set ?_ GE154.out) | exact HB.out))⟩; clear BK153 BK154 HB hq_; have BK153 := n0_; have BK154 := n1_; have HB := n2_; clear n0_ n1_ n2_)); have hcz36_0 : wr.cell? ⟨gb154, 0, none⟩ = some (.int .i64 0) := (blk_cell BK154.out 0).trans rfl; have hcz36_1 : wr.cell? ⟨gb154, 1, none⟩ = some (.int .i64 0) := (blk_cell BK154.out 1).trans rfl; have hcz36_2 : wr.cell? ⟨gb154, 2, none⟩ = some (.string (⟨#[]⟩ : ByteArray)) := (blk_cell BK154.out 2).trans rfl; have hcz36_3 : wr.cell? ⟨gb154, 3, none⟩ = some (.int .i64 a1) := (blk_cell BK154.out 3).trans rfl; have hcz36_4 : wr.cell? ⟨gb154, 4, none⟩ = some (.int .i64 x155004_1) := (blk_cell BK154.out 4).trans rfl; have hfz36_0 := blk_frozen BK154.out 0; have hfz36_1 := blk_frozen BK154.out 1; have hfz36_2 := blk_frozen BK154.out 2; have hfz36_3 := blk_frozen BK154.out 3; have hfz36_4 := blk_frozen BK154.out 4; have p20 : 0 ≤ (x155004_1 : Int) := of_decide_eq_true (by first | (with_reducible assumption) | assumption); have q20 : x155004_1 < (a0.size : Int) := of_decide_eq_true (by first | (with_reducible assumption) | assumption); have hx20 := bt_at a0 x155004_1; replace p20 := eq_true p20; replace q20 := eq_true q20) | (go_at_call 27; (with_reducible refine (octroiref04_Digit.calls (bt a0 x155004_1) false _ A21.out).mono ?_); rintro e w' ⟨rfl, ⟨nd, rfl⟩⟩; (try (rw [drewN_self wr]; generalize hq_ : World.drewN wr _ = wr; have n0_ : Aside0 (wr.heap[gb153]? = some (.cells #[.int .i64 0, .int .i64 0, .string (⟨#[]⟩ : ByteArray), .int .i64 0, .int .i64 0] 32 (0, 0))) := ⟨by rw [← hq_]; exact (by (with_reducible repeat (first | refine blk_drewN ?_ _ | refine blk_drew ?_ | refine blk_alloc ?_ _)); exact BK153.out)⟩; have n1_ : Aside0 (wr.heap[gb154]? = some (.cells #[.int .i64 0, .int .i64 0, .string (⟨#[]⟩ : ByteArray), .int .i64 a1, .int .i64 x155004_1] 32 (0, 0))) := ⟨by rw [← hq_]; exact (by (with_reducible repeat (first | refine blk_drewN ?_ _ | refine blk_drew ?_ | refine blk_alloc ?_ _)); exact BK154.out)⟩; have n2_ : Aside0 (Below w.heap.size w wr) := ⟨by rw [← hq_]; exact (by repeat (first | (with_reducible first | exact HB.out | apply below_alloc | apply pw_below_drewN | apply below_drew1 | refine below_set ?_ GE153.out | refine below_set ?_ GE154.out) | exact HB.out))⟩; clear BK153 BK154 HB hq_; have BK153 := n0_; have BK154 := n1_; have HB := n2_; clear n0_ n1_ n2_)); have hcz37_0 : wr.cell? ⟨gb154, 0, none⟩ = some (.int .i64 0) := (blk_cell BK154.out 0).trans rfl; have hcz37_1 : wr.cell? ⟨gb154, 1, none⟩ = some (.int .i64 0) := (blk_cell BK154.out 1).trans rfl; have hcz37_2 : wr.cell? ⟨gb154, 2, none⟩ = some (.string (⟨#[]⟩ : ByteArray)) := (blk_cell BK154.out 2).trans rfl; have hcz37_3 : wr.cell? ⟨gb154, 3, none⟩ = some (.int .i64 a1) := (blk_cell BK154.out 3).trans rfl; have hcz37_4 : wr.cell? ⟨gb154, 4, none⟩ = some (.int .i64 x155004_1) := (blk_cell BK154.out 4).trans rfl; have hfz37_0 := blk_frozen BK154.out 0; have hfz37_1 := blk_frozen BK154.out 1; have hfz37_2 := blk_frozen BK154.out 2; have hfz37_3 := blk_frozen BK154.out 3; have hfz37_4 := blk_frozen BK154.out 4; have p27 : 0 ≤ (x155004_1 : Int) := of_decide_eq_true (by first | (with_reducible assumption) | assumption); have q27 : x155004_1 < (a0.size : Int) := of_decide_eq_true (by first | (with_reducible assumption) | assumption); have hx27 := bt_at a0 x155004_1; replace p27 := eq_true p27; replace q27 := eq_true q27; have hcz38_0 : wr.cell? ⟨gb153, 0, none⟩ = some (.int .i64 0) := (blk_cell BK153.out 0).trans rfl; have hcz38_1 : wr.cell? ⟨gb153, 1, none⟩ = some (.int .i64 0) := (blk_cell BK153.out 1).trans rfl; have hcz38_2 : wr.cell? ⟨gb153, 2, none⟩ = some (.string (⟨#[]⟩ : ByteArray)) := (blk_cell BK153.out 2).trans rfl; have hcz38_3 : wr.cell? ⟨gb153, 3, none⟩ = some (.int .i64 0) := (blk_cell BK153.out 3).trans rfl; have hcz38_4 : wr.cell? ⟨gb153, 4, none⟩ = some (.int .i64 0) := (blk_cell BK153.out 4).trans rfl; have hfz38_0 := blk_frozen BK153.out 0; have hfz38_1 := blk_frozen BK153.out 1; have hfz38_2 := blk_frozen BK153.out 2; have hfz38_3 := blk_frozen BK153.out 3; have hfz38_4 := blk_frozen BK153.out 4))
                        refine bodyPost_ret (results_ct rfl _ _ gb153 32 #[.int .i64 0, .int .i64 0, .string (⟨#[]⟩ : ByteArray), .int .i64 a1, .int .i64 x155004_1] (0, 0) _ rfl (by (with_reducible repeat (first | refine blk_drewN ?_ _ | refine blk_drew ?_ | refine blk_alloc ?_ _)); refine blk_put (cs := #[.int .i64 0, .int .i64 0, .string (⟨#[]⟩ : ByteArray), .int .i64 a1, .int .i64 0]) ?_ 4 _ rfl; (with_reducible repeat (first | refine blk_drewN ?_ _ | refine blk_drew ?_ | refine blk_alloc ?_ _)); refine blk_put (cs := #[.int .i64 0, .int .i64 0, .string (⟨#[]⟩ : ByteArray), .int .i64 0, .int .i64 0]) ?_ 3 _ rfl; (with_reducible repeat (first | refine blk_drewN ?_ _ | refine blk_drew ?_ | refine blk_alloc ?_ _)); refine blk_put (cs := #[.int .i64 0, .int .i64 0, .string (⟨#[]⟩ : ByteArray), .int .i64 0, .int .i64 0]) ?_ 2 _ rfl; (with_reducible repeat (first | refine blk_drewN ?_ _ | refine blk_drew ?_ | refine blk_alloc ?_ _)); refine blk_put (cs := #[.int .i64 0, .int .i64 0, .string (⟨#[]⟩ : ByteArray), .int .i64 0, .int .i64 0]) ?_ 1 _ rfl; (with_reducible repeat (first | refine blk_drewN ?_ _ | refine blk_drew ?_ | refine blk_alloc ?_ _)); refine blk_put (cs := #[.int .i64 0, .int .i64 0, .string (⟨#[]⟩ : ByteArray), .int .i64 0, .int .i64 0]) ?_ 0 _ rfl; (with_reducible repeat (first | refine blk_drewN ?_ _ | refine blk_drew ?_ | refine blk_alloc ?_ _)); exact BK153.out) Try.underlying32 rfl (by kernel_rfl)) rfl ?_
                        exact ⟨by first | rfl | (simp [errW_none, errW_some] <;> rfl) | (simp [*, errW_none, errW_some] <;> rfl), by repeat (first | (with_reducible first | exact HB.out | apply below_alloc | apply pw_below_drewN | apply below_drew1 | refine below_set ?_ GE153.out | refine below_set ?_ GE154.out) | exact HB.out)⟩
                      · rw [if_neg c33] at H
                        have c33b0 : decide (32 < (wrap64 (x155004_1 - a1))) = false := decide_eq_false c33
                        clear c33
                        by_cases c39 : 0 ≤ a1
                        · rw [if_pos c39] at H
                          have c39b0 := eq_true c39
                          have c39b1 : decide (0 ≤ a1) = true := decide_eq_true c39
                          clear c39
                          by_cases c40 : a1 ≤ x155004_1
                          · rw [if_pos c40] at H
                            have c40b0 := eq_true c40
                            have c40b1 : decide (a1 ≤ x155004_1) = true := decide_eq_true c40
                            clear c40
                            by_cases c41 : x155004_1 ≤ (a0.size : Int)
                            · rw [if_pos c41] at H
                              have c41b0 := eq_true c41
                              have c41b1 : decide (x155004_1 ≤ (a0.size : Int)) = true := decide_eq_true c41
                              clear c41
                              simp only [Option.some.injEq, Prod.mk.injEq] at H
                              obtain ⟨rfl, rfl, rfl, rfl, rfl, rfl⟩ := H
                              have hnb42 := NB154_153.out
                              have hnc42 := NB153_154.out
                              have hcz43_0 : wr.cell? ⟨gb154, 0, none⟩ = some (.int .i64 0) := (blk_cell BK154.out 0).trans rfl
                              have hcz43_1 : wr.cell? ⟨gb154, 1, none⟩ = some (.int .i64 0) := (blk_cell BK154.out 1).trans rfl
                              have hcz43_2 : wr.cell? ⟨gb154, 2, none⟩ = some (.string (⟨#[]⟩ : ByteArray)) := (blk_cell BK154.out 2).trans rfl
                              have hcz43_3 : wr.cell? ⟨gb154, 3, none⟩ = some (.int .i64 a1) := (blk_cell BK154.out 3).trans rfl
                              have hcz43_4 : wr.cell? ⟨gb154, 4, none⟩ = some (.int .i64 x155004_1) := (blk_cell BK154.out 4).trans rfl
                              have hfz43_0 := blk_frozen BK154.out 0
                              have hfz43_1 := blk_frozen BK154.out 1
                              have hfz43_2 := blk_frozen BK154.out 2
                              have hfz43_3 := blk_frozen BK154.out 3
                              have hfz43_4 := blk_frozen BK154.out 4
                              have p14 : 0 ≤ (x155004_1 : Int) := of_decide_eq_true (by first | (with_reducible assumption) | assumption)
                              have q14 : x155004_1 < (a0.size : Int) := of_decide_eq_true (by first | (with_reducible assumption) | assumption)
                              have hx14 := bt_at a0 x155004_1
                              replace p14 := eq_true p14
                              replace q14 := eq_true q14
                              go_wp2_with (first | (go_at_call 26; (with_reducible refine (octroiref04_Letter.calls (bt a0 x155004_1) false _ A15.out).mono ?_); rintro e w' ⟨rfl, ⟨nd, rfl⟩⟩; (try (rw [drewN_self wr]; generalize hq_ : World.drewN wr _ = wr; have n0_ : Aside0 (wr.heap[gb153]? = some (.cells #[.int .i64 0, .int .i64 0, .string (⟨#[]⟩ : ByteArray), .int .i64 0, .int .i64 0] 32 (0, 0))) := ⟨by rw [← hq_]; exact (by (with_reducible repeat (first | refine blk_drewN ?_ _ | refine blk_drew ?_ | refine blk_alloc ?_ _)); exact BK153.out)⟩; have n1_ : Aside0 (wr.heap[gb154]? = some (.cells #[.int .i64 0, .int .i64 0, .string (⟨#[]⟩ : ByteArray), .int .i64 a1, .int .i64 x155004_1] 32 (0, 0))) := ⟨by rw [← hq_]; exact (by (with_reducible repeat (first | refine blk_drewN ?_ _ | refine blk_drew ?_ | refine blk_alloc ?_ _)); exact BK154.out)⟩; have n2_ : Aside0 (Below w.heap.size w wr) := ⟨by rw [← hq_]; exact (by repeat (first | (with_reducible first | exact HB.out | apply below_alloc | apply pw_below_drewN | apply below_drew1 | refine below_set ?_ GE153.out | refine below_set ?_ GE154.out) | exact HB.out))⟩; clear BK153 BK154 HB hq_; have BK153 := n0_; have BK154 := n1_; have HB := n2_; clear n0_ n1_ n2_)); have hcz44_0 : wr.cell? ⟨gb154, 0, none⟩ = some (.int .i64 0) := (blk_cell BK154.out 0).trans rfl; have hcz44_1 : wr.cell? ⟨gb154, 1, none⟩ = some (.int .i64 0) := (blk_cell BK154.out 1).trans rfl; have hcz44_2 : wr.cell? ⟨gb154, 2, none⟩ = some (.string (⟨#[]⟩ : ByteArray)) := (blk_cell BK154.out 2).trans rfl; have hcz44_3 : wr.cell? ⟨gb154, 3, none⟩ = some (.int .i64 a1) := (blk_cell BK154.out 3).trans rfl; have hcz44_4 : wr.cell? ⟨gb154, 4, none⟩ = some (.int .i64 x155004_1) := (blk_cell BK154.out 4).trans rfl; have hfz44_0 := blk_frozen BK154.out 0; have hfz44_1 := blk_frozen BK154.out 1; have hfz44_2 := blk_frozen BK154.out 2; have hfz44_3 := blk_frozen BK154.out 3; have hfz44_4 := blk_frozen BK154.out 4; have p20 : 0 ≤ (x155004_1 : Int) := of_decide_eq_true (by first | (with_reducible assumption) | assumption); have q20 : x155004_1 < (a0.size : Int) := of_decide_eq_true (by first | (with_reducible assumption) | assumption); have hx20 := bt_at a0 x155004_1; replace p20 := eq_true p20; replace q20 := eq_true q20) | (go_at_call 27; (with_reducible refine (octroiref04_Digit.calls (bt a0 x155004_1) false _ A21.out).mono ?_); rintro e w' ⟨rfl, ⟨nd, rfl⟩⟩; (try (rw [drewN_self wr]; generalize hq_ : World.drewN wr _ = wr; have n0_ : Aside0 (wr.heap[gb153]? = some (.cells #[.int .i64 0, .int .i64 0, .string (⟨#[]⟩ : ByteArray), .int .i64 0, .int .i64 0] 32 (0, 0))) := ⟨by rw [← hq_]; exact (by (with_reducible repeat (first | refine blk_drewN ?_ _ | refine blk_drew ?_ | refine blk_alloc ?_ _)); exact BK153.out)⟩; have n1_ : Aside0 (wr.heap[gb154]? = some (.cells #[.int .i64 0, .int .i64 0, .string (⟨#[]⟩ : ByteArray), .int .i64 a1, .int .i64 x155004_1] 32 (0, 0))) := ⟨by rw [← hq_]; exact (by (with_reducible repeat (first | refine blk_drewN ?_ _ | refine blk_drew ?_ | refine blk_alloc ?_ _)); exact BK154.out)⟩; have n2_ : Aside0 (Below w.heap.size w wr) := ⟨by rw [← hq_]; exact (by repeat (first | (with_reducible first | exact HB.out | apply below_alloc | apply pw_below_drewN | apply below_drew1 | refine below_set ?_ GE153.out | refine below_set ?_ GE154.out) | exact HB.out))⟩; clear BK153 BK154 HB hq_; have BK153 := n0_; have BK154 := n1_; have HB := n2_; clear n0_ n1_ n2_)); have hcz45_0 : wr.cell? ⟨gb154, 0, none⟩ = some (.int .i64 0) := (blk_cell BK154.out 0).trans rfl; have hcz45_1 : wr.cell? ⟨gb154, 1, none⟩ = some (.int .i64 0) := (blk_cell BK154.out 1).trans rfl; have hcz45_2 : wr.cell? ⟨gb154, 2, none⟩ = some (.string (⟨#[]⟩ : ByteArray)) := (blk_cell BK154.out 2).trans rfl; have hcz45_3 : wr.cell? ⟨gb154, 3, none⟩ = some (.int .i64 a1) := (blk_cell BK154.out 3).trans rfl; have hcz45_4 : wr.cell? ⟨gb154, 4, none⟩ = some (.int .i64 x155004_1) := (blk_cell BK154.out 4).trans rfl; have hfz45_0 := blk_frozen BK154.out 0; have hfz45_1 := blk_frozen BK154.out 1; have hfz45_2 := blk_frozen BK154.out 2; have hfz45_3 := blk_frozen BK154.out 3; have hfz45_4 := blk_frozen BK154.out 4; have p27 : 0 ≤ (x155004_1 : Int) := of_decide_eq_true (by first | (with_reducible assumption) | assumption); have q27 : x155004_1 < (a0.size : Int) := of_decide_eq_true (by first | (with_reducible assumption) | assumption); have hx27 := bt_at a0 x155004_1; replace p27 := eq_true p27; replace q27 := eq_true q27) | ((with_reducible refine gate_store (t := 3) (p := 51) rfl ?_); refine store_event (t := 3) (p := 51) (v := ?vo_w46) (w1 := (wr.setCell ⟨gb154, 0, none⟩ (.int .i64 1))) ?hg ?ho ?hn ?hr ?_; (case ho => rfl); (case hg => rfl); (case hn => rfl); (case hr => first | (go_simp; done) | (go_simp; rfl)); intro w46 hw; have n0_ : Aside0 (w46.heap[gb153]? = some (.cells #[.int .i64 0, .int .i64 0, .string (⟨#[]⟩ : ByteArray), .int .i64 0, .int .i64 0] 32 (0, 0))) := ⟨(by rw [hw]; exact (by (with_reducible repeat (first | refine blk_drewN ?_ _ | refine blk_drew ?_ | refine blk_alloc ?_ _)); refine blk_far ?_ NB153_154.out _; (with_reducible repeat (first | refine blk_drewN ?_ _ | refine blk_drew ?_ | refine blk_alloc ?_ _)); exact BK153.out))⟩; have n1_ : Aside0 (w46.heap[gb154]? = some (.cells #[.int .i64 1, .int .i64 0, .string (⟨#[]⟩ : ByteArray), .int .i64 a1, .int .i64 x155004_1] 32 (0, 0))) := ⟨(by rw [hw]; exact (by (with_reducible repeat (first | refine blk_drewN ?_ _ | refine blk_drew ?_ | refine blk_alloc ?_ _)); refine blk_put (cs := #[.int .i64 0, .int .i64 0, .string (⟨#[]⟩ : ByteArray), .int .i64 a1, .int .i64 x155004_1]) ?_ 0 _ rfl; (with_reducible repeat (first | refine blk_drewN ?_ _ | refine blk_drew ?_ | refine blk_alloc ?_ _)); exact BK154.out))⟩; have n2_ : Aside0 (Below w.heap.size w w46) := ⟨(by rw [hw]; exact (by repeat (first | (with_reducible first | exact HB.out | apply below_alloc | apply pw_below_drewN | apply below_drew1 | refine below_set ?_ GE153.out | refine below_set ?_ GE154.out) | exact HB.out)))⟩; clear hw; clear BK153; clear BK154; clear HB; have BK153 := n0_; have BK154 := n1_; have HB := n2_; clear n0_ n1_ n2_; have hcz47_0 : w46.cell? ⟨gb154, 0, none⟩ = some (.int .i64 1) := (blk_cell BK154.out 0).trans rfl; have hcz47_1 : w46.cell? ⟨gb154, 1, none⟩ = some (.int .i64 0) := (blk_cell BK154.out 1).trans rfl; have hcz47_2 : w46.cell? ⟨gb154, 2, none⟩ = some (.string (⟨#[]⟩ : ByteArray)) := (blk_cell BK154.out 2).trans rfl; have hcz47_3 : w46.cell? ⟨gb154, 3, none⟩ = some (.int .i64 a1) := (blk_cell BK154.out 3).trans rfl; have hcz47_4 : w46.cell? ⟨gb154, 4, none⟩ = some (.int .i64 x155004_1) := (blk_cell BK154.out 4).trans rfl; have hfz47_0 := blk_frozen BK154.out 0; have hfz47_1 := blk_frozen BK154.out 1; have hfz47_2 := blk_frozen BK154.out 2; have hfz47_3 := blk_frozen BK154.out 3; have hfz47_4 := blk_frozen BK154.out 4; have hcz48_0 : w46.cell? ⟨gb153, 0, none⟩ = some (.int .i64 0) := (blk_cell BK153.out 0).trans rfl; have hcz48_1 : w46.cell? ⟨gb153, 1, none⟩ = some (.int .i64 0) := (blk_cell BK153.out 1).trans rfl; have hcz48_2 : w46.cell? ⟨gb153, 2, none⟩ = some (.string (⟨#[]⟩ : ByteArray)) := (blk_cell BK153.out 2).trans rfl; have hcz48_3 : w46.cell? ⟨gb153, 3, none⟩ = some (.int .i64 0) := (blk_cell BK153.out 3).trans rfl; have hcz48_4 : w46.cell? ⟨gb153, 4, none⟩ = some (.int .i64 0) := (blk_cell BK153.out 4).trans rfl; have hfz48_0 := blk_frozen BK153.out 0; have hfz48_1 := blk_frozen BK153.out 1; have hfz48_2 := blk_frozen BK153.out 2; have hfz48_3 := blk_frozen BK153.out 3; have hfz48_4 := blk_frozen BK153.out 4))
                              refine bodyPost_ret (results_ct rfl _ _ gb153 32 #[.int .i64 1, .int .i64 0, .string (a0.extract (a1 : Int).toNat (x155004_1 : Int).toNat), .int .i64 a1, .int .i64 x155004_1] (0, 0) _ rfl (by (with_reducible repeat (first | refine blk_drewN ?_ _ | refine blk_drew ?_ | refine blk_alloc ?_ _)); refine blk_put (cs := #[.int .i64 1, .int .i64 0, .string (a0.extract (a1 : Int).toNat (x155004_1 : Int).toNat), .int .i64 a1, .int .i64 0]) ?_ 4 _ rfl; (with_reducible repeat (first | refine blk_drewN ?_ _ | refine blk_drew ?_ | refine blk_alloc ?_ _)); refine blk_put (cs := #[.int .i64 1, .int .i64 0, .string (a0.extract (a1 : Int).toNat (x155004_1 : Int).toNat), .int .i64 0, .int .i64 0]) ?_ 3 _ rfl; (with_reducible repeat (first | refine blk_drewN ?_ _ | refine blk_drew ?_ | refine blk_alloc ?_ _)); refine blk_put (cs := #[.int .i64 1, .int .i64 0, .string (⟨#[]⟩ : ByteArray), .int .i64 0, .int .i64 0]) ?_ 2 _ rfl; (with_reducible repeat (first | refine blk_drewN ?_ _ | refine blk_drew ?_ | refine blk_alloc ?_ _)); refine blk_put (cs := #[.int .i64 1, .int .i64 0, .string (⟨#[]⟩ : ByteArray), .int .i64 0, .int .i64 0]) ?_ 1 _ rfl; (with_reducible repeat (first | refine blk_drewN ?_ _ | refine blk_drew ?_ | refine blk_alloc ?_ _)); refine blk_put (cs := #[.int .i64 0, .int .i64 0, .string (⟨#[]⟩ : ByteArray), .int .i64 0, .int .i64 0]) ?_ 0 _ rfl; (with_reducible repeat (first | refine blk_drewN ?_ _ | refine blk_drew ?_ | refine blk_alloc ?_ _)); refine blk_far ?_ NB153_154.out _; (with_reducible repeat (first | refine blk_drewN ?_ _ | refine blk_drew ?_ | refine blk_alloc ?_ _)); exact BK153.out) Try.underlying32 rfl (by kernel_rfl)) rfl ?_
                              exact ⟨by first | rfl | (simp [errW_none, errW_some] <;> rfl) | (simp [*, errW_none, errW_some] <;> rfl), by repeat (first | (with_reducible first | exact HB.out | apply below_alloc | apply pw_below_drewN | apply below_drew1 | refine below_set ?_ GE153.out | refine below_set ?_ GE154.out) | exact HB.out)⟩
                            · rw [if_neg c41] at H
                              exact absurd H (by simp)
                          · rw [if_neg c40] at H
                            exact absurd H (by simp)
                        · rw [if_neg c39] at H
                          exact absurd H (by simp)
              · rw [if_neg c13] at H
                exact absurd H (by simp)
            · rw [if_neg c12] at H
              have c12b0 : decide (x155004_1 < (a0.size : Int)) = false := decide_eq_false c12
              clear c12
              by_cases c49 : (wrap64 (x155004_1 - a1)) > 32
              · rw [if_pos c49] at H
                have c49b0 : decide (32 < (wrap64 (x155004_1 - a1))) = true := decide_eq_true c49
                clear c49
                simp only [Option.some.injEq, Prod.mk.injEq] at H
                obtain ⟨rfl, rfl, rfl, rfl, rfl, rfl⟩ := H
                have hnb50 := NB154_153.out
                have hnc50 := NB153_154.out
                have hcz51_0 : wr.cell? ⟨gb154, 0, none⟩ = some (.int .i64 0) := (blk_cell BK154.out 0).trans rfl
                have hcz51_1 : wr.cell? ⟨gb154, 1, none⟩ = some (.int .i64 0) := (blk_cell BK154.out 1).trans rfl
                have hcz51_2 : wr.cell? ⟨gb154, 2, none⟩ = some (.string (⟨#[]⟩ : ByteArray)) := (blk_cell BK154.out 2).trans rfl
                have hcz51_3 : wr.cell? ⟨gb154, 3, none⟩ = some (.int .i64 a1) := (blk_cell BK154.out 3).trans rfl
                have hcz51_4 : wr.cell? ⟨gb154, 4, none⟩ = some (.int .i64 x155004_1) := (blk_cell BK154.out 4).trans rfl
                have hfz51_0 := blk_frozen BK154.out 0
                have hfz51_1 := blk_frozen BK154.out 1
                have hfz51_2 := blk_frozen BK154.out 2
                have hfz51_3 := blk_frozen BK154.out 3
                have hfz51_4 := blk_frozen BK154.out 4
                have hcz52_0 : wr.cell? ⟨gb153, 0, none⟩ = some (.int .i64 0) := (blk_cell BK153.out 0).trans rfl
                have hcz52_1 : wr.cell? ⟨gb153, 1, none⟩ = some (.int .i64 0) := (blk_cell BK153.out 1).trans rfl
                have hcz52_2 : wr.cell? ⟨gb153, 2, none⟩ = some (.string (⟨#[]⟩ : ByteArray)) := (blk_cell BK153.out 2).trans rfl
                have hcz52_3 : wr.cell? ⟨gb153, 3, none⟩ = some (.int .i64 0) := (blk_cell BK153.out 3).trans rfl
                have hcz52_4 : wr.cell? ⟨gb153, 4, none⟩ = some (.int .i64 0) := (blk_cell BK153.out 4).trans rfl
                have hfz52_0 := blk_frozen BK153.out 0
                have hfz52_1 := blk_frozen BK153.out 1
                have hfz52_2 := blk_frozen BK153.out 2
                have hfz52_3 := blk_frozen BK153.out 3
                have hfz52_4 := blk_frozen BK153.out 4
                go_wp2
                refine bodyPost_ret (results_ct rfl _ _ gb153 32 #[.int .i64 0, .int .i64 0, .string (⟨#[]⟩ : ByteArray), .int .i64 a1, .int .i64 x155004_1] (0, 0) _ rfl (by (with_reducible repeat (first | refine blk_drewN ?_ _ | refine blk_drew ?_ | refine blk_alloc ?_ _)); refine blk_put (cs := #[.int .i64 0, .int .i64 0, .string (⟨#[]⟩ : ByteArray), .int .i64 a1, .int .i64 0]) ?_ 4 _ rfl; (with_reducible repeat (first | refine blk_drewN ?_ _ | refine blk_drew ?_ | refine blk_alloc ?_ _)); refine blk_put (cs := #[.int .i64 0, .int .i64 0, .string (⟨#[]⟩ : ByteArray), .int .i64 0, .int .i64 0]) ?_ 3 _ rfl; (with_reducible repeat (first | refine blk_drewN ?_ _ | refine blk_drew ?_ | refine blk_alloc ?_ _)); refine blk_put (cs := #[.int .i64 0, .int .i64 0, .string (⟨#[]⟩ : ByteArray), .int .i64 0, .int .i64 0]) ?_ 2 _ rfl; (with_reducible repeat (first | refine blk_drewN ?_ _ | refine blk_drew ?_ | refine blk_alloc ?_ _)); refine blk_put (cs := #[.int .i64 0, .int .i64 0, .string (⟨#[]⟩ : ByteArray), .int .i64 0, .int .i64 0]) ?_ 1 _ rfl; (with_reducible repeat (first | refine blk_drewN ?_ _ | refine blk_drew ?_ | refine blk_alloc ?_ _)); refine blk_put (cs := #[.int .i64 0, .int .i64 0, .string (⟨#[]⟩ : ByteArray), .int .i64 0, .int .i64 0]) ?_ 0 _ rfl; (with_reducible repeat (first | refine blk_drewN ?_ _ | refine blk_drew ?_ | refine blk_alloc ?_ _)); exact BK153.out) Try.underlying32 rfl (by kernel_rfl)) rfl ?_
                exact ⟨by first | rfl | (simp [errW_none, errW_some] <;> rfl) | (simp [*, errW_none, errW_some] <;> rfl), by repeat (first | (with_reducible first | exact HB.out | apply below_alloc | apply pw_below_drewN | apply below_drew1 | refine below_set ?_ GE153.out | refine below_set ?_ GE154.out) | exact HB.out)⟩
              · rw [if_neg c49] at H
                have c49b0 : decide (32 < (wrap64 (x155004_1 - a1))) = false := decide_eq_false c49
                clear c49
                by_cases c53 : 0 ≤ a1
                · rw [if_pos c53] at H
                  have c53b0 := eq_true c53
                  have c53b1 : decide (0 ≤ a1) = true := decide_eq_true c53
                  clear c53
                  by_cases c54 : a1 ≤ x155004_1
                  · rw [if_pos c54] at H
                    have c54b0 := eq_true c54
                    have c54b1 : decide (a1 ≤ x155004_1) = true := decide_eq_true c54
                    clear c54
                    by_cases c55 : x155004_1 ≤ (a0.size : Int)
                    · rw [if_pos c55] at H
                      have c55b0 := eq_true c55
                      have c55b1 : decide (x155004_1 ≤ (a0.size : Int)) = true := decide_eq_true c55
                      clear c55
                      simp only [Option.some.injEq, Prod.mk.injEq] at H
                      obtain ⟨rfl, rfl, rfl, rfl, rfl, rfl⟩ := H
                      have hnb56 := NB154_153.out
                      have hnc56 := NB153_154.out
                      have hcz57_0 : wr.cell? ⟨gb154, 0, none⟩ = some (.int .i64 0) := (blk_cell BK154.out 0).trans rfl
                      have hcz57_1 : wr.cell? ⟨gb154, 1, none⟩ = some (.int .i64 0) := (blk_cell BK154.out 1).trans rfl
                      have hcz57_2 : wr.cell? ⟨gb154, 2, none⟩ = some (.string (⟨#[]⟩ : ByteArray)) := (blk_cell BK154.out 2).trans rfl
                      have hcz57_3 : wr.cell? ⟨gb154, 3, none⟩ = some (.int .i64 a1) := (blk_cell BK154.out 3).trans rfl
                      have hcz57_4 : wr.cell? ⟨gb154, 4, none⟩ = some (.int .i64 x155004_1) := (blk_cell BK154.out 4).trans rfl
                      have hfz57_0 := blk_frozen BK154.out 0
                      have hfz57_1 := blk_frozen BK154.out 1
                      have hfz57_2 := blk_frozen BK154.out 2
                      have hfz57_3 := blk_frozen BK154.out 3
                      have hfz57_4 := blk_frozen BK154.out 4
                      go_wp2_with (first | ((with_reducible refine gate_store (t := 3) (p := 51) rfl ?_); refine store_event (t := 3) (p := 51) (v := ?vo_w58) (w1 := (wr.setCell ⟨gb154, 0, none⟩ (.int .i64 1))) ?hg ?ho ?hn ?hr ?_; (case ho => rfl); (case hg => rfl); (case hn => rfl); (case hr => first | (go_simp; done) | (go_simp; rfl)); intro w58 hw; have n0_ : Aside0 (w58.heap[gb153]? = some (.cells #[.int .i64 0, .int .i64 0, .string (⟨#[]⟩ : ByteArray), .int .i64 0, .int .i64 0] 32 (0, 0))) := ⟨(by rw [hw]; exact (by (with_reducible repeat (first | refine blk_drewN ?_ _ | refine blk_drew ?_ | refine blk_alloc ?_ _)); refine blk_far ?_ NB153_154.out _; (with_reducible repeat (first | refine blk_drewN ?_ _ | refine blk_drew ?_ | refine blk_alloc ?_ _)); exact BK153.out))⟩; have n1_ : Aside0 (w58.heap[gb154]? = some (.cells #[.int .i64 1, .int .i64 0, .string (⟨#[]⟩ : ByteArray), .int .i64 a1, .int .i64 x155004_1] 32 (0, 0))) := ⟨(by rw [hw]; exact (by (with_reducible repeat (first | refine blk_drewN ?_ _ | refine blk_drew ?_ | refine blk_alloc ?_ _)); refine blk_put (cs := #[.int .i64 0, .int .i64 0, .string (⟨#[]⟩ : ByteArray), .int .i64 a1, .int .i64 x155004_1]) ?_ 0 _ rfl; (with_reducible repeat (first | refine blk_drewN ?_ _ | refine blk_drew ?_ | refine blk_alloc ?_ _)); exact BK154.out))⟩; have n2_ : Aside0 (Below w.heap.size w w58) := ⟨(by rw [hw]; exact (by repeat (first | (with_reducible first | exact HB.out | apply below_alloc | apply pw_below_drewN | apply below_drew1 | refine below_set ?_ GE153.out | refine below_set ?_ GE154.out) | exact HB.out)))⟩; clear hw; clear BK153; clear BK154; clear HB; have BK153 := n0_; have BK154 := n1_; have HB := n2_; clear n0_ n1_ n2_; have hcz59_0 : w58.cell? ⟨gb154, 0, none⟩ = some (.int .i64 1) := (blk_cell BK154.out 0).trans rfl; have hcz59_1 : w58.cell? ⟨gb154, 1, none⟩ = some (.int .i64 0) := (blk_cell BK154.out 1).trans rfl; have hcz59_2 : w58.cell? ⟨gb154, 2, none⟩ = some (.string (⟨#[]⟩ : ByteArray)) := (blk_cell BK154.out 2).trans rfl; have hcz59_3 : w58.cell? ⟨gb154, 3, none⟩ = some (.int .i64 a1) := (blk_cell BK154.out 3).trans rfl; have hcz59_4 : w58.cell? ⟨gb154, 4, none⟩ = some (.int .i64 x155004_1) := (blk_cell BK154.out 4).trans rfl; have hfz59_0 := blk_frozen BK154.out 0; have hfz59_1 := blk_frozen BK154.out 1; have hfz59_2 := blk_frozen BK154.out 2; have hfz59_3 := blk_frozen BK154.out 3; have hfz59_4 := blk_frozen BK154.out 4; have hcz60_0 : w58.cell? ⟨gb153, 0, none⟩ = some (.int .i64 0) := (blk_cell BK153.out 0).trans rfl; have hcz60_1 : w58.cell? ⟨gb153, 1, none⟩ = some (.int .i64 0) := (blk_cell BK153.out 1).trans rfl; have hcz60_2 : w58.cell? ⟨gb153, 2, none⟩ = some (.string (⟨#[]⟩ : ByteArray)) := (blk_cell BK153.out 2).trans rfl; have hcz60_3 : w58.cell? ⟨gb153, 3, none⟩ = some (.int .i64 0) := (blk_cell BK153.out 3).trans rfl; have hcz60_4 : w58.cell? ⟨gb153, 4, none⟩ = some (.int .i64 0) := (blk_cell BK153.out 4).trans rfl; have hfz60_0 := blk_frozen BK153.out 0; have hfz60_1 := blk_frozen BK153.out 1; have hfz60_2 := blk_frozen BK153.out 2; have hfz60_3 := blk_frozen BK153.out 3; have hfz60_4 := blk_frozen BK153.out 4))
                      refine bodyPost_ret (results_ct rfl _ _ gb153 32 #[.int .i64 1, .int .i64 0, .string (a0.extract (a1 : Int).toNat (x155004_1 : Int).toNat), .int .i64 a1, .int .i64 x155004_1] (0, 0) _ rfl (by (with_reducible repeat (first | refine blk_drewN ?_ _ | refine blk_drew ?_ | refine blk_alloc ?_ _)); refine blk_put (cs := #[.int .i64 1, .int .i64 0, .string (a0.extract (a1 : Int).toNat (x155004_1 : Int).toNat), .int .i64 a1, .int .i64 0]) ?_ 4 _ rfl; (with_reducible repeat (first | refine blk_drewN ?_ _ | refine blk_drew ?_ | refine blk_alloc ?_ _)); refine blk_put (cs := #[.int .i64 1, .int .i64 0, .string (a0.extract (a1 : Int).toNat (x155004_1 : Int).toNat), .int .i64 0, .int .i64 0]) ?_ 3 _ rfl; (with_reducible repeat (first | refine blk_drewN ?_ _ | refine blk_drew ?_ | refine blk_alloc ?_ _)); refine blk_put (cs := #[.int .i64 1, .int .i64 0, .string (⟨#[]⟩ : ByteArray), .int .i64 0, .int .i64 0]) ?_ 2 _ rfl; (with_reducible repeat (first | refine blk_drewN ?_ _ | refine blk_drew ?_ | refine blk_alloc ?_ _)); refine blk_put (cs := #[.int .i64 1, .int .i64 0, .string (⟨#[]⟩ : ByteArray), .int .i64 0, .int .i64 0]) ?_ 1 _ rfl; (with_reducible repeat (first | refine blk_drewN ?_ _ | refine blk_drew ?_ | refine blk_alloc ?_ _)); refine blk_put (cs := #[.int .i64 0, .int .i64 0, .string (⟨#[]⟩ : ByteArray), .int .i64 0, .int .i64 0]) ?_ 0 _ rfl; (with_reducible repeat (first | refine blk_drewN ?_ _ | refine blk_drew ?_ | refine blk_alloc ?_ _)); refine blk_far ?_ NB153_154.out _; (with_reducible repeat (first | refine blk_drewN ?_ _ | refine blk_drew ?_ | refine blk_alloc ?_ _)); exact BK153.out) Try.underlying32 rfl (by kernel_rfl)) rfl ?_
                      exact ⟨by first | rfl | (simp [errW_none, errW_some] <;> rfl) | (simp [*, errW_none, errW_some] <;> rfl), by repeat (first | (with_reducible first | exact HB.out | apply below_alloc | apply pw_below_drewN | apply below_drew1 | refine below_set ?_ GE153.out | refine below_set ?_ GE154.out) | exact HB.out)⟩
                    · rw [if_neg c55] at H
                      exact absurd H (by simp)
                  · rw [if_neg c54] at H
                    exact absurd H (by simp)
                · rw [if_neg c53] at H
                  exact absurd H (by simp)
      · replace c7 := Bool.eq_false_iff.mpr c7
        subst c7
        have H1 : ((octroiref04_Digit.f (bt a0 a1)).bind fun t158 => (if t158 = true then (octroiref04_token.l1 k a0 0 0 (⟨#[]⟩ : ByteArray) a1 a1) else ((octroiref04_mark.f k a0 a1).bind fun t160 => (if t160 = 0 then (some (0, 0, (⟨#[]⟩ : ByteArray), a1, a1, 40)) else (if a1 ≤ (wrap64 (a1 + t160)) then (if (wrap64 (a1 + t160)) ≤ (a0.size : Int) then (some (3, 0, a0.extract (a1 : Int).toNat ((wrap64 (a1 + t160)) : Int).toNat, a1, wrap64 (a1 + t160), 0)) else (none)) else (none)))))) = some (r1, r2, r3, r4, r5, r6) := by rw [if_neg (show ¬ (false = true) by decide)] at H; exact H
        clear H
        have H := H1
        clear H1
        replace H := Option.bind_eq_some_iff.mp H
        obtain ⟨t158, A620, H⟩ := H
        replace H : (if t158 = true then (octroiref04_token.l1 k a0 0 0 (⟨#[]⟩ : ByteArray) a1 a1) else ((octroiref04_mark.f k a0 a1).bind fun t160 => (if t160 = 0 then (some (0, 0, (⟨#[]⟩ : ByteArray), a1, a1, 40)) else (if a1 ≤ (wrap64 (a1 + t160)) then (if (wrap64 (a1 + t160)) ≤ (a0.size : Int) then (some (3, 0, a0.extract (a1 : Int).toNat ((wrap64 (a1 + t160)) : Int).toNat, a1, wrap64 (a1 + t160), 0)) else (none)) else (none))))) = some (r1, r2, r3, r4, r5, r6) := H
        have A62 := Aside0.mk A620
        clear A620
        by_cases c63 : t158 = true
        · subst c63
          have H1 : (octroiref04_token.l1 k a0 0 0 (⟨#[]⟩ : ByteArray) a1 a1) = some (r1, r2, r3, r4, r5, r6) := by rw [if_pos rfl] at H; exact H
          clear H
          have H := H1
          clear H1
          have H' := Aside0.mk H
          clear H
          go_enter Try.func20, Try.ntmps20
          go_wp2_with (first | ((with_reducible refine gate_dst (N := 4) rfl ?_); refine box_event ?hg (N := 4) ?hd (cs := #[.int .i64 0, .int .i64 0, .string (⟨#[]⟩ : ByteArray), .int .i64 0, .int .i64 0]) (t := 32) ?hr ?_; (case hd => rfl); (case hg => rfl); (case hr => first | (go_simp; done) | (go_simp; rfl)); intro gb153 hg w64 hbox hb; have n0_ := Aside0.mk (below_step (by repeat (first | (with_reducible first | exact HB.out | apply below_alloc | apply pw_below_drewN | apply below_drew1) | exact HB.out)) hb); have n1_ := Aside0.mk (hbox); have n2_ := Aside0.mk ((by rw [hg]; exact (below_size (by repeat (first | (with_reducible first | exact HB.out | apply below_alloc | apply pw_below_drewN | apply below_drew1) | exact HB.out))) : w.heap.size ≤ gb153)); have n3_ := Aside0.mk ((by rw [hg]; exact (below_size (by repeat (first | (with_reducible first | exact HB.out | apply below_alloc | apply pw_below_drewN | apply below_drew1) | exact HB.out))) : w.heap.size ≤ gb153)); clear HB; have HB := n0_; have BK153 := n1_; have GW153 := n2_; have GE153 := n3_; clear n0_ n1_ n2_ n3_; clear hb hbox hg) | ((with_reducible refine gate_dst (N := 6) rfl ?_); refine box_event ?hg (N := 6) ?hd (cs := #[.int .i64 0, .int .i64 0, .string (⟨#[]⟩ : ByteArray), .int .i64 0, .int .i64 0]) (t := 32) ?hr ?_; (case hd => rfl); (case hg => rfl); (case hr => first | (go_simp; done) | (go_simp; rfl)); intro gb154 hg w65 hbox hb; have n0_ := Aside0.mk (blk_below (g := gb153) (o := .cells #[.int .i64 0, .int .i64 0, .string (⟨#[]⟩ : ByteArray), .int .i64 0, .int .i64 0] 32 (0, 0)) (by (with_reducible repeat (first | refine blk_drewN ?_ _ | refine blk_drew ?_ | refine blk_alloc ?_ _)); exact BK153.out) hb); have n1_ := Aside0.mk (below_step (by repeat (first | (with_reducible first | exact HB.out | apply below_alloc | apply pw_below_drewN | apply below_drew1 | refine below_set ?_ GE153.out) | exact HB.out)) hb); have n2_ := Aside0.mk (hbox); have n3_ := Aside0.mk ((by rw [hg]; exact (below_size (by repeat (first | (with_reducible first | exact HB.out | apply below_alloc | apply pw_below_drewN | apply below_drew1 | refine below_set ?_ GE153.out) | exact HB.out))) : w.heap.size ≤ gb154)); have n4_ := Aside0.mk ((by rw [hg]; exact (below_size (by repeat (first | (with_reducible first | exact HB.out | apply below_alloc | apply pw_below_drewN | apply below_drew1 | refine below_set ?_ GE153.out) | exact HB.out))) : w.heap.size ≤ gb154)); have n5_ := Aside0.mk ((by rw [hg]; exact Nat.ne_of_lt (blk_lt (g := gb153) (o := .cells #[.int .i64 0, .int .i64 0, .string (⟨#[]⟩ : ByteArray), .int .i64 0, .int .i64 0] 32 (0, 0)) (by (with_reducible repeat (first | refine blk_drewN ?_ _ | refine blk_drew ?_ | refine blk_alloc ?_ _)); exact BK153.out)) : gb153 ≠ gb154)); have n6_ := Aside0.mk ((by rw [hg]; exact Nat.ne_of_gt (blk_lt (g := gb153) (o := .cells #[.int .i64 0, .int .i64 0, .string (⟨#[]⟩ : ByteArray), .int .i64 0, .int .i64 0] 32 (0, 0)) (by (with_reducible repeat (first | refine blk_drewN ?_ _ | refine blk_drew ?_ | refine blk_alloc ?_ _)); exact BK153.out)) : gb154 ≠ gb153)); clear BK153; clear HB; have BK153 := n0_; have HB := n1_; have BK154 := n2_; have GW154 := n3_; have GE154 := n4_; have NB153_154 := n5_; have NB154_153 := n6_; clear n0_ n1_ n2_ n3_ n4_ n5_ n6_; clear hb hbox hg; have hnb66 := NB154_153.out; have hnc66 := NB153_154.out; have hcz67_0 : w65.cell? ⟨gb154, 0, none⟩ = some (.int .i64 0) := (blk_cell BK154.out 0).trans rfl; have hcz67_1 : w65.cell? ⟨gb154, 1, none⟩ = some (.int .i64 0) := (blk_cell BK154.out 1).trans rfl; have hcz67_2 : w65.cell? ⟨gb154, 2, none⟩ = some (.string (⟨#[]⟩ : ByteArray)) := (blk_cell BK154.out 2).trans rfl; have hcz67_3 : w65.cell? ⟨gb154, 3, none⟩ = some (.int .i64 0) := (blk_cell BK154.out 3).trans rfl; have hcz67_4 : w65.cell? ⟨gb154, 4, none⟩ = some (.int .i64 0) := (blk_cell BK154.out 4).trans rfl; have hfz67_0 := blk_frozen BK154.out 0; have hfz67_1 := blk_frozen BK154.out 1; have hfz67_2 := blk_frozen BK154.out 2; have hfz67_3 := blk_frozen BK154.out 3; have hfz67_4 := blk_frozen BK154.out 4; have p5 : 0 ≤ (a1 : Int) := of_decide_eq_true (by first | (with_reducible assumption) | assumption); have q5 : a1 < (a0.size : Int) := of_decide_eq_true (by first | (with_reducible assumption) | assumption); have hx5 := bt_at a0 a1; replace p5 := eq_true p5; replace q5 := eq_true q5) | ((with_reducible refine gate_callee (f := 26) rfl ?_); refine goesL_ (some 14) rfl rfl Try.func26 (by kernel_rfl) rfl #[.int .u8 (bt a0 a1)] rfl (by (try simp only [List.map_toArray, List.map_cons, List.map_nil]); first | done | rfl | (simp only [List.length_drop, List.length_take]; rfl)) ?_; (with_reducible refine (octroiref04_Letter.calls (bt a0 a1) false _ A6.out).mono ?_); rintro e w' ⟨rfl, ⟨nd, rfl⟩⟩; refine ⟨_, rfl, ?_⟩; have p61 : 0 ≤ (a1 : Int) := of_decide_eq_true (by first | (with_reducible assumption) | assumption); have q61 : a1 < (a0.size : Int) := of_decide_eq_true (by first | (with_reducible assumption) | assumption); have hx61 := bt_at a0 a1; replace p61 := eq_true p61; replace q61 := eq_true q61) | ((with_reducible refine gate_callee (f := 27) rfl ?_); refine goesL_ (some 62) rfl rfl Try.func27 (by kernel_rfl) rfl #[.int .u8 (bt a0 a1)] rfl (by (try simp only [List.map_toArray, List.map_cons, List.map_nil]); first | done | rfl | (simp only [List.length_drop, List.length_take]; rfl)) ?_; (with_reducible refine (octroiref04_Digit.calls (bt a0 a1) true _ A62.out).mono ?_); rintro e w' ⟨rfl, ⟨nd, rfl⟩⟩; refine ⟨_, rfl, ?_⟩))
          (try simp only [Act.put, List.setIfInBounds_toArray, List.set_cons_zero, List.set_cons_succ])
          go_loopg [] k (fun kq w' => ∃ (x154000_1 : Int) (x154001_1 : Int) (x154002_1 : ByteArray) (x154003_1 : Int) (x154004_1 : Int) (x155001_1 : Int) (x155004_1 : Int), Aside0 (octroiref04_token.l1 kq a0 0 x155001_1 (⟨#[]⟩ : ByteArray) a1 x155004_1 = some (r1, r2, r3, r4, r5, r6)) ∧ Aside0 (kq ≤ k) ∧ Aside0 (w'.heap[gb153]? = some (.cells #[.int .i64 x154000_1, .int .i64 x154001_1, .string x154002_1, .int .i64 x154003_1, .int .i64 x154004_1] 32 (0, 0))) ∧ Aside0 (w'.heap[gb154]? = some (.cells #[.int .i64 0, .int .i64 x155001_1, .string (⟨#[]⟩ : ByteArray), .int .i64 a1, .int .i64 x155004_1] 32 (0, 0))) ∧ Aside0 (Below w.heap.size w w'))
          case atStart => exact ⟨(0), (0), ((⟨#[]⟩ : ByteArray)), (0), (0), (0), (a1), H', ⟨Nat.le_refl _⟩, ⟨by (with_reducible repeat (first | refine blk_drewN ?_ _ | refine blk_drew ?_ | refine blk_alloc ?_ _)); refine blk_far ?_ NB153_154.out _; (with_reducible repeat (first | refine blk_drewN ?_ _ | refine blk_drew ?_ | refine blk_alloc ?_ _)); refine blk_far ?_ NB153_154.out _; (with_reducible repeat (first | refine blk_drewN ?_ _ | refine blk_drew ?_ | refine blk_alloc ?_ _)); refine blk_far ?_ NB153_154.out _; (with_reducible repeat (first | refine blk_drewN ?_ _ | refine blk_drew ?_ | refine blk_alloc ?_ _)); refine blk_far ?_ NB153_154.out _; (with_reducible repeat (first | refine blk_drewN ?_ _ | refine blk_drew ?_ | refine blk_alloc ?_ _)); refine blk_far ?_ NB153_154.out _; (with_reducible repeat (first | refine blk_drewN ?_ _ | refine blk_drew ?_ | refine blk_alloc ?_ _)); exact BK153.out⟩, ⟨by (with_reducible repeat (first | refine blk_drewN ?_ _ | refine blk_drew ?_ | refine blk_alloc ?_ _)); refine blk_put (cs := #[.int .i64 0, .int .i64 0, .string (⟨#[]⟩ : ByteArray), .int .i64 a1, .int .i64 0]) ?_ 4 _ rfl; (with_reducible repeat (first | refine blk_drewN ?_ _ | refine blk_drew ?_ | refine blk_alloc ?_ _)); refine blk_put (cs := #[.int .i64 0, .int .i64 0, .string (⟨#[]⟩ : ByteArray), .int .i64 0, .int .i64 0]) ?_ 3 _ rfl; (with_reducible repeat (first | refine blk_drewN ?_ _ | refine blk_drew ?_ | refine blk_alloc ?_ _)); refine blk_put (cs := #[.int .i64 0, .int .i64 0, .string (⟨#[]⟩ : ByteArray), .int .i64 0, .int .i64 0]) ?_ 2 _ rfl; (with_reducible repeat (first | refine blk_drewN ?_ _ | refine blk_drew ?_ | refine blk_alloc ?_ _)); refine blk_put (cs := #[.int .i64 0, .int .i64 0, .string (⟨#[]⟩ : ByteArray), .int .i64 0, .int .i64 0]) ?_ 1 _ rfl; (with_reducible repeat (first | refine blk_drewN ?_ _ | refine blk_drew ?_ | refine blk_alloc ?_ _)); refine blk_put (cs := #[.int .i64 0, .int .i64 0, .string (⟨#[]⟩ : ByteArray), .int .i64 0, .int .i64 0]) ?_ 0 _ rfl; (with_reducible repeat (first | refine blk_drewN ?_ _ | refine blk_drew ?_ | refine blk_alloc ?_ _)); exact BK154.out⟩, ⟨by repeat (first | (with_reducible first | exact HB.out | apply below_alloc | apply pw_below_drewN | apply below_drew1 | refine below_set ?_ GE153.out | refine below_set ?_ GE154.out) | exact HB.out)⟩⟩
          case round =>
            clear H'
            try clear c1
            try clear p1
            try clear q1
            try clear hx1
            try clear c2
            try clear p2
            try clear q2
            try clear hx2
            try clear c3
            try clear c3b0
            try clear c4
            try clear c4b0
            try clear c5
            try clear p5
            try clear q5
            try clear hx5
            try clear c6
            try clear p6
            try clear q6
            try clear hx6
            try clear c7
            try clear c10
            try clear c12
            try clear c12b0
            try clear c13
            try clear c13b0
            try clear p14
            try clear q14
            try clear hx14
            try clear c16
            try clear c17
            try clear c20
            try clear p20
            try clear q20
            try clear hx20
            try clear c22
            try clear c23
            try clear c26
            try clear c27
            try clear p27
            try clear q27
            try clear hx27
            try clear c28
            try clear c28b0
            try clear c28b1
            try clear c29
            try clear c33
            try clear c33b0
            try clear c34
            try clear c39
            try clear c39b0
            try clear c39b1
            try clear c40
            try clear c40b0
            try clear c40b1
            try clear c41
            try clear c41b0
            try clear c41b1
            try clear c42
            try clear c49
            try clear c49b0
            try clear c50
            try clear c53
            try clear c53b0
            try clear c53b1
            try clear c54
            try clear c54b0
            try clear c54b1
            try clear c55
            try clear c55b0
            try clear c55b1
            try clear c56
            try clear p61
            try clear q61
            try clear hx61
            try clear c63
            try clear p64
            try clear c66
            try clear hcz11_0
            try clear hcz11_1
            try clear hcz11_2
            try clear hcz11_3
            try clear hcz11_4
            try clear hcz18_0
            try clear hcz18_1
            try clear hcz18_2
            try clear hcz18_3
            try clear hcz18_4
            try clear hcz19_0
            try clear hcz19_1
            try clear hcz19_2
            try clear hcz19_3
            try clear hcz19_4
            try clear hcz24_0
            try clear hcz24_1
            try clear hcz24_2
            try clear hcz24_3
            try clear hcz24_4
            try clear hcz25_0
            try clear hcz25_1
            try clear hcz25_2
            try clear hcz25_3
            try clear hcz25_4
            try clear hcz26_0
            try clear hcz26_1
            try clear hcz26_2
            try clear hcz26_3
            try clear hcz26_4
            try clear hcz30_0
            try clear hcz30_1
            try clear hcz30_2
            try clear hcz30_3
            try clear hcz30_4
            try clear hcz31_0
            try clear hcz31_1
            try clear hcz31_2
            try clear hcz31_3
            try clear hcz31_4
            try clear hcz32_0
            try clear hcz32_1
            try clear hcz32_2
            try clear hcz32_3
            try clear hcz32_4
            try clear hcz35_0
            try clear hcz35_1
            try clear hcz35_2
            try clear hcz35_3
            try clear hcz35_4
            try clear hcz36_0
            try clear hcz36_1
            try clear hcz36_2
            try clear hcz36_3
            try clear hcz36_4
            try clear hcz37_0
            try clear hcz37_1
            try clear hcz37_2
            try clear hcz37_3
            try clear hcz37_4
            try clear hcz38_0
            try clear hcz38_1
            try clear hcz38_2
            try clear hcz38_3
            try clear hcz38_4
            try clear hcz43_0
            try clear hcz43_1
            try clear hcz43_2
            try clear hcz43_3
            try clear hcz43_4
            try clear hcz44_0
            try clear hcz44_1
            try clear hcz44_2
            try clear hcz44_3
            try clear hcz44_4
            try clear hcz45_0
            try clear hcz45_1
            try clear hcz45_2
            try clear hcz45_3
            try clear hcz45_4
            try clear hcz47_0
            try clear hcz47_1
            try clear hcz47_2
            try clear hcz47_3
            try clear hcz47_4
            try clear hcz48_0
            try clear hcz48_1
            try clear hcz48_2
            try clear hcz48_3
            try clear hcz48_4
            try clear hcz51_0
            try clear hcz51_1
            try clear hcz51_2
            try clear hcz51_3
            try clear hcz51_4
            try clear hcz52_0
            try clear hcz52_1
            try clear hcz52_2
            try clear hcz52_3
            try clear hcz52_4
            try clear hcz57_0
            try clear hcz57_1
            try clear hcz57_2
            try clear hcz57_3
            try clear hcz57_4
            try clear hcz59_0
            try clear hcz59_1
            try clear hcz59_2
            try clear hcz59_3
            try clear hcz59_4
            try clear hcz60_0
            try clear hcz60_1
            try clear hcz60_2
            try clear hcz60_3
            try clear hcz60_4
            try clear hcz67_0
            try clear hcz67_1
            try clear hcz67_2
            try clear hcz67_3
            try clear hcz67_4
            try clear hfz11_0
            try clear hfz11_1
            try clear hfz11_2
            try clear hfz11_3
            try clear hfz11_4
            try clear hfz18_0
            try clear hfz18_1
            try clear hfz18_2
            try clear hfz18_3
            try clear hfz18_4
            try clear hfz19_0
            try clear hfz19_1
            try clear hfz19_2
            try clear hfz19_3
            try clear hfz19_4
            try clear hfz24_0
            try clear hfz24_1
            try clear hfz24_2
            try clear hfz24_3
            try clear hfz24_4
            try clear hfz25_0
            try clear hfz25_1
            try clear hfz25_2
            try clear hfz25_3
            try clear hfz25_4
            try clear hfz26_0
            try clear hfz26_1
            try clear hfz26_2
            try clear hfz26_3
            try clear hfz26_4
            try clear hfz30_0
            try clear hfz30_1
            try clear hfz30_2
            try clear hfz30_3
            try clear hfz30_4
            try clear hfz31_0
            try clear hfz31_1
            try clear hfz31_2
            try clear hfz31_3
            try clear hfz31_4
            try clear hfz32_0
            try clear hfz32_1
            try clear hfz32_2
            try clear hfz32_3
            try clear hfz32_4
            try clear hfz35_0
            try clear hfz35_1
            try clear hfz35_2
            try clear hfz35_3
            try clear hfz35_4
            try clear hfz36_0
            try clear hfz36_1
            try clear hfz36_2
            try clear hfz36_3
            try clear hfz36_4
            try clear hfz37_0
            try clear hfz37_1
            try clear hfz37_2
            try clear hfz37_3
            try clear hfz37_4
            try clear hfz38_0
            try clear hfz38_1
            try clear hfz38_2
            try clear hfz38_3
            try clear hfz38_4
            try clear hfz43_0
            try clear hfz43_1
            try clear hfz43_2
            try clear hfz43_3
            try clear hfz43_4
            try clear hfz44_0
            try clear hfz44_1
            try clear hfz44_2
            try clear hfz44_3
            try clear hfz44_4
            try clear hfz45_0
            try clear hfz45_1
            try clear hfz45_2
            try clear hfz45_3
            try clear hfz45_4
            try clear hfz47_0
            try clear hfz47_1
            try clear hfz47_2
            try clear hfz47_3
            try clear hfz47_4
            try clear hfz48_0
            try clear hfz48_1
            try clear hfz48_2
            try clear hfz48_3
            try clear hfz48_4
            try clear hfz51_0
            try clear hfz51_1
            try clear hfz51_2
            try clear hfz51_3
            try clear hfz51_4
            try clear hfz52_0
            try clear hfz52_1
            try clear hfz52_2
            try clear hfz52_3
            try clear hfz52_4
            try clear hfz57_0
            try clear hfz57_1
            try clear hfz57_2
            try clear hfz57_3
            try clear hfz57_4
            try clear hfz59_0
            try clear hfz59_1
            try clear hfz59_2
            try clear hfz59_3
            try clear hfz59_4
            try clear hfz60_0
            try clear hfz60_1
            try clear hfz60_2
            try clear hfz60_3
            try clear hfz60_4
            try clear hfz67_0
            try clear hfz67_1
            try clear hfz67_2
            try clear hfz67_3
            try clear hfz67_4
            try clear p14
            try clear p2
            try clear p20
            try clear p27
            try clear p5
            try clear p6
            try clear p61
            try clear q14
            try clear q20
            try clear q27
            try clear q5
            try clear q61
            obtain ⟨x154000_1, x154001_1, x154002_1, x154003_1, x154004_1, x155001_1, x155004_1, HA, HK1, BK153, BK154, HB⟩ := hrel
            cases gk with
            | zero => exact absurd HA.out (by simp [octroiref04_token.l1])
            | succ k1 =>
              have H := HA.out
              clear HA
              simp only [octroiref04_token.l1] at H
              have HC68 := Aside0.mk H
              clear H
              go_upto_region 11 with (fail)
              go_cut [74] (fun v74 wc => ∃ (kq : Nat) (x74_67 : Bool), v74 = .bool x74_67 ∧ Aside0 (octroiref04_token.j2 kq a0 x74_67 0 x155001_1 (⟨#[]⟩ : ByteArray) a1 x155004_1 = some (r1, r2, r3, r4, r5, r6)) ∧ Aside0 (kq ≤ k1) ∧ Aside0 (wc.heap[gb153]? = some (.cells #[.int .i64 x154000_1, .int .i64 x154001_1, .string x154002_1, .int .i64 x154003_1, .int .i64 x154004_1] 32 (0, 0))) ∧ Aside0 (wc.heap[gb154]? = some (.cells #[.int .i64 0, .int .i64 x155001_1, .string (⟨#[]⟩ : ByteArray), .int .i64 a1, .int .i64 x155004_1] 32 (0, 0))) ∧ Aside0 (Below w.heap.size w wc))
              case first =>
                have H := HC68.out
                clear HC68
                by_cases c69 : x155004_1 < (a0.size : Int)
                · rw [if_pos c69] at H
                  have c69b0 : decide (x155004_1 < (a0.size : Int)) = true := decide_eq_true c69
                  clear c69
                  (first | rw [c69b0] | (simp only [i64_w, i32_w]; rw [c69b0]) | skip)
                  by_cases c70 : 0 ≤ x155004_1
                  · rw [if_pos c70] at H
                    have c70b0 : decide (0 ≤ x155004_1) = true := decide_eq_true c70
                    clear c70
                    replace H := Option.bind_eq_some_iff.mp H
                    obtain ⟨t159, A720, H⟩ := H
                    replace H : (octroiref04_token.j2 k1 a0 t159 0 x155001_1 (⟨#[]⟩ : ByteArray) a1 x155004_1) = some (r1, r2, r3, r4, r5, r6) := H
                    have A72 := Aside0.mk A720
                    clear A720
                    have H' := Aside0.mk H
                    clear H
                    have hnb73 := NB154_153.out
                    have hnc73 := NB153_154.out
                    have hcz74_0 : wr.cell? ⟨gb154, 0, none⟩ = some (.int .i64 0) := (blk_cell BK154.out 0).trans rfl
                    have hcz74_1 : wr.cell? ⟨gb154, 1, none⟩ = some (.int .i64 x155001_1) := (blk_cell BK154.out 1).trans rfl
                    have hcz74_2 : wr.cell? ⟨gb154, 2, none⟩ = some (.string (⟨#[]⟩ : ByteArray)) := (blk_cell BK154.out 2).trans rfl
                    have hcz74_3 : wr.cell? ⟨gb154, 3, none⟩ = some (.int .i64 a1) := (blk_cell BK154.out 3).trans rfl
                    have hcz74_4 : wr.cell? ⟨gb154, 4, none⟩ = some (.int .i64 x155004_1) := (blk_cell BK154.out 4).trans rfl
                    have hfz74_0 := blk_frozen BK154.out 0
                    have hfz74_1 := blk_frozen BK154.out 1
                    have hfz74_2 := blk_frozen BK154.out 2
                    have hfz74_3 := blk_frozen BK154.out 3
                    have hfz74_4 := blk_frozen BK154.out 4
                    have p71 : 0 ≤ (x155004_1 : Int) := of_decide_eq_true (by first | (with_reducible assumption) | assumption)
                    have q71 : x155004_1 < (a0.size : Int) := of_decide_eq_true (by first | (with_reducible assumption) | assumption)
                    have hx71 := bt_at a0 x155004_1
                    replace p71 := eq_true p71
                    replace q71 := eq_true q71
                    go_wp2_with (first | (go_at_call 27; (with_reducible refine (octroiref04_Digit.calls (bt a0 x155004_1) t159 _ A72.out).mono ?_); rintro e w' ⟨rfl, ⟨nd, rfl⟩⟩))
                    go_meet
                    case rel => exact ⟨_, (t159), (by first | rfl | (simp; done) | (simp [*]; done)), H', ⟨by have := HK1.out; first | omega | exact Nat.le_refl _⟩, ⟨by (with_reducible repeat (first | refine blk_drewN ?_ _ | refine blk_drew ?_ | refine blk_alloc ?_ _)); exact BK153.out⟩, ⟨by (with_reducible repeat (first | refine blk_drewN ?_ _ | refine blk_drew ?_ | refine blk_alloc ?_ _)); exact BK154.out⟩, ⟨by repeat (first | (with_reducible first | exact HB.out | apply below_alloc | apply pw_below_drewN | apply below_drew1 | refine below_set ?_ GE153.out | refine below_set ?_ GE154.out) | exact HB.out)⟩⟩
                  · rw [if_neg c70] at H
                    exact absurd H (by simp)
                · rw [if_neg c69] at H
                  have c69b0 : decide (x155004_1 < (a0.size : Int)) = false := decide_eq_false c69
                  clear c69
                  (first | rw [c69b0] | (simp only [i64_w, i32_w]; rw [c69b0]) | skip)
                  have H' := Aside0.mk H
                  clear H
                  have hnb75 := NB154_153.out
                  have hnc75 := NB153_154.out
                  have hcz76_0 : wr.cell? ⟨gb154, 0, none⟩ = some (.int .i64 0) := (blk_cell BK154.out 0).trans rfl
                  have hcz76_1 : wr.cell? ⟨gb154, 1, none⟩ = some (.int .i64 x155001_1) := (blk_cell BK154.out 1).trans rfl
                  have hcz76_2 : wr.cell? ⟨gb154, 2, none⟩ = some (.string (⟨#[]⟩ : ByteArray)) := (blk_cell BK154.out 2).trans rfl
                  have hcz76_3 : wr.cell? ⟨gb154, 3, none⟩ = some (.int .i64 a1) := (blk_cell BK154.out 3).trans rfl
                  have hcz76_4 : wr.cell? ⟨gb154, 4, none⟩ = some (.int .i64 x155004_1) := (blk_cell BK154.out 4).trans rfl
                  have hfz76_0 := blk_frozen BK154.out 0
                  have hfz76_1 := blk_frozen BK154.out 1
                  have hfz76_2 := blk_frozen BK154.out 2
                  have hfz76_3 := blk_frozen BK154.out 3
                  have hfz76_4 := blk_frozen BK154.out 4
                  go_wp2
                  go_meet
                  case rel => exact ⟨_, (false), (by first | rfl | (simp; done) | (simp [*]; done)), H', ⟨by have := HK1.out; first | omega | exact Nat.le_refl _⟩, ⟨by (with_reducible repeat (first | refine blk_drewN ?_ _ | refine blk_drew ?_ | refine blk_alloc ?_ _)); exact BK153.out⟩, ⟨by (with_reducible repeat (first | refine blk_drewN ?_ _ | refine blk_drew ?_ | refine blk_alloc ?_ _)); exact BK154.out⟩, ⟨by repeat (first | (with_reducible first | exact HB.out | apply below_alloc | apply pw_below_drewN | apply below_drew1 | refine below_set ?_ GE153.out | refine below_set ?_ GE154.out) | exact HB.out)⟩⟩
              case rest =>
                clear HC68
                try clear c1
                try clear p1
                try clear q1
                try clear hx1
                try clear c2
                try clear p2
                try clear q2
                try clear hx2
                try clear c3
                try clear c3b0
                try clear c4
                try clear c4b0
                try clear c5
                try clear p5
                try clear q5
                try clear hx5
                try clear c6
                try clear p6
                try clear q6
                try clear hx6
                try clear c7
                try clear p7
                try clear q7
                try clear hx7
                try clear c10
                try clear c12
                try clear c12b0
                try clear c13
                try clear c13b0
                try clear p14
                try clear q14
                try clear hx14
                try clear c16
                try clear c17
                try clear c20
                try clear p20
                try clear q20
                try clear hx20
                try clear c22
                try clear c23
                try clear c26
                try clear c27
                try clear p27
                try clear q27
                try clear hx27
                try clear c28
                try clear c28b0
                try clear c28b1
                try clear c29
                try clear c33
                try clear c33b0
                try clear c34
                try clear c39
                try clear c39b0
                try clear c39b1
                try clear c40
                try clear c40b0
                try clear c40b1
                try clear c41
                try clear c41b0
                try clear c41b1
                try clear c42
                try clear c49
                try clear c49b0
                try clear c50
                try clear c53
                try clear c53b0
                try clear c53b1
                try clear c54
                try clear c54b0
                try clear c54b1
                try clear c55
                try clear c55b0
                try clear c55b1
                try clear c56
                try clear p61
                try clear q61
                try clear hx61
                try clear c63
                try clear p64
                try clear c66
                try clear c69
                try clear c69b0
                try clear c70
                try clear c70b0
                try clear p71
                try clear q71
                try clear hx71
                try clear c73
                try clear c75
                try clear hcz11_0
                try clear hcz11_1
                try clear hcz11_2
                try clear hcz11_3
                try clear hcz11_4
                try clear hcz18_0
                try clear hcz18_1
                try clear hcz18_2
                try clear hcz18_3
                try clear hcz18_4
                try clear hcz19_0
                try clear hcz19_1
                try clear hcz19_2
                try clear hcz19_3
                try clear hcz19_4
                try clear hcz24_0
                try clear hcz24_1
                try clear hcz24_2
                try clear hcz24_3
                try clear hcz24_4
                try clear hcz25_0
                try clear hcz25_1
                try clear hcz25_2
                try clear hcz25_3
                try clear hcz25_4
                try clear hcz26_0
                try clear hcz26_1
                try clear hcz26_2
                try clear hcz26_3
                try clear hcz26_4
                try clear hcz30_0
                try clear hcz30_1
                try clear hcz30_2
                try clear hcz30_3
                try clear hcz30_4
                try clear hcz31_0
                try clear hcz31_1
                try clear hcz31_2
                try clear hcz31_3
                try clear hcz31_4
                try clear hcz32_0
                try clear hcz32_1
                try clear hcz32_2
                try clear hcz32_3
                try clear hcz32_4
                try clear hcz35_0
                try clear hcz35_1
                try clear hcz35_2
                try clear hcz35_3
                try clear hcz35_4
                try clear hcz36_0
                try clear hcz36_1
                try clear hcz36_2
                try clear hcz36_3
                try clear hcz36_4
                try clear hcz37_0
                try clear hcz37_1
                try clear hcz37_2
                try clear hcz37_3
                try clear hcz37_4
                try clear hcz38_0
                try clear hcz38_1
                try clear hcz38_2
                try clear hcz38_3
                try clear hcz38_4
                try clear hcz43_0
                try clear hcz43_1
                try clear hcz43_2
                try clear hcz43_3
                try clear hcz43_4
                try clear hcz44_0
                try clear hcz44_1
                try clear hcz44_2
                try clear hcz44_3
                try clear hcz44_4
                try clear hcz45_0
                try clear hcz45_1
                try clear hcz45_2
                try clear hcz45_3
                try clear hcz45_4
                try clear hcz47_0
                try clear hcz47_1
                try clear hcz47_2
                try clear hcz47_3
                try clear hcz47_4
                try clear hcz48_0
                try clear hcz48_1
                try clear hcz48_2
                try clear hcz48_3
                try clear hcz48_4
                try clear hcz51_0
                try clear hcz51_1
                try clear hcz51_2
                try clear hcz51_3
                try clear hcz51_4
                try clear hcz52_0
                try clear hcz52_1
                try clear hcz52_2
                try clear hcz52_3
                try clear hcz52_4
                try clear hcz57_0
                try clear hcz57_1
                try clear hcz57_2
                try clear hcz57_3
                try clear hcz57_4
                try clear hcz59_0
                try clear hcz59_1
                try clear hcz59_2
                try clear hcz59_3
                try clear hcz59_4
                try clear hcz60_0
                try clear hcz60_1
                try clear hcz60_2
                try clear hcz60_3
                try clear hcz60_4
                try clear hcz67_0
                try clear hcz67_1
                try clear hcz67_2
                try clear hcz67_3
                try clear hcz67_4
                try clear hcz74_0
                try clear hcz74_1
                try clear hcz74_2
                try clear hcz74_3
                try clear hcz74_4
                try clear hcz76_0
                try clear hcz76_1
                try clear hcz76_2
                try clear hcz76_3
                try clear hcz76_4
                try clear hfz11_0
                try clear hfz11_1
                try clear hfz11_2
                try clear hfz11_3
                try clear hfz11_4
                try clear hfz18_0
                try clear hfz18_1
                try clear hfz18_2
                try clear hfz18_3
                try clear hfz18_4
                try clear hfz19_0
                try clear hfz19_1
                try clear hfz19_2
                try clear hfz19_3
                try clear hfz19_4
                try clear hfz24_0
                try clear hfz24_1
                try clear hfz24_2
                try clear hfz24_3
                try clear hfz24_4
                try clear hfz25_0
                try clear hfz25_1
                try clear hfz25_2
                try clear hfz25_3
                try clear hfz25_4
                try clear hfz26_0
                try clear hfz26_1
                try clear hfz26_2
                try clear hfz26_3
                try clear hfz26_4
                try clear hfz30_0
                try clear hfz30_1
                try clear hfz30_2
                try clear hfz30_3
                try clear hfz30_4
                try clear hfz31_0
                try clear hfz31_1
                try clear hfz31_2
                try clear hfz31_3
                try clear hfz31_4
                try clear hfz32_0
                try clear hfz32_1
                try clear hfz32_2
                try clear hfz32_3
                try clear hfz32_4
                try clear hfz35_0
                try clear hfz35_1
                try clear hfz35_2
                try clear hfz35_3
                try clear hfz35_4
                try clear hfz36_0
                try clear hfz36_1
                try clear hfz36_2
                try clear hfz36_3
                try clear hfz36_4
                try clear hfz37_0
                try clear hfz37_1
                try clear hfz37_2
                try clear hfz37_3
                try clear hfz37_4
                try clear hfz38_0
                try clear hfz38_1
                try clear hfz38_2
                try clear hfz38_3
                try clear hfz38_4
                try clear hfz43_0
                try clear hfz43_1
                try clear hfz43_2
                try clear hfz43_3
                try clear hfz43_4
                try clear hfz44_0
                try clear hfz44_1
                try clear hfz44_2
                try clear hfz44_3
                try clear hfz44_4
                try clear hfz45_0
                try clear hfz45_1
                try clear hfz45_2
                try clear hfz45_3
                try clear hfz45_4
                try clear hfz47_0
                try clear hfz47_1
                try clear hfz47_2
                try clear hfz47_3
                try clear hfz47_4
                try clear hfz48_0
                try clear hfz48_1
                try clear hfz48_2
                try clear hfz48_3
                try clear hfz48_4
                try clear hfz51_0
                try clear hfz51_1
                try clear hfz51_2
                try clear hfz51_3
                try clear hfz51_4
                try clear hfz52_0
                try clear hfz52_1
                try clear hfz52_2
                try clear hfz52_3
                try clear hfz52_4
                try clear hfz57_0
                try clear hfz57_1
                try clear hfz57_2
                try clear hfz57_3
                try clear hfz57_4
                try clear hfz59_0
                try clear hfz59_1
                try clear hfz59_2
                try clear hfz59_3
                try clear hfz59_4
                try clear hfz60_0
                try clear hfz60_1
                try clear hfz60_2
                try clear hfz60_3
                try clear hfz60_4
                try clear hfz67_0
                try clear hfz67_1
                try clear hfz67_2
                try clear hfz67_3
                try clear hfz67_4
                try clear hfz74_0
                try clear hfz74_1
                try clear hfz74_2
                try clear hfz74_3
                try clear hfz74_4
                try clear hfz76_0
                try clear hfz76_1
                try clear hfz76_2
                try clear hfz76_3
                try clear hfz76_4
                try clear p1
                try clear p14
                try clear p2
                try clear p20
                try clear p27
                try clear p5
                try clear p6
                try clear p61
                try clear p64
                try clear p71
                try clear q1
                try clear q14
                try clear q2
                try clear q20
                try clear q27
                try clear q5
                try clear q6
                try clear q61
                try clear q71
                obtain ⟨kq, x74_67, rfl, HA, HJ67, BK153, BK154, HB⟩ := hcut
                cases kq with
                | zero => exact absurd HA.out (by simp [octroiref04_token.j2])
                | succ kj67 =>
                  have H := HA.out
                  clear HA
                  simp only [octroiref04_token.j2] at H
                  by_cases c77 : x74_67 = true
                  · subst c77
                    have H1 : (if 0 ≤ x155004_1 then (if x155004_1 < (a0.size : Int) then (if (wrap64 ((wrap64 ((wrap64 (10 * x155001_1)) + (wrap64 (bt a0 x155004_1)))) - 48)) > 1000000000000 then (some (0, wrap64 ((wrap64 ((wrap64 (10 * x155001_1)) + (wrap64 (bt a0 x155004_1)))) - 48), (⟨#[]⟩ : ByteArray), a1, x155004_1, 30)) else (octroiref04_token.l1 kj67 a0 0 (wrap64 ((wrap64 ((wrap64 (10 * x155001_1)) + (wrap64 (bt a0 x155004_1)))) - 48)) (⟨#[]⟩ : ByteArray) a1 (wrap64 (x155004_1 + 1)))) else (none)) else (none)) = some (r1, r2, r3, r4, r5, r6) := by rw [if_pos rfl] at H; exact H
                    clear H
                    have H := H1
                    clear H1
                    by_cases c78 : 0 ≤ x155004_1
                    · rw [if_pos c78] at H
                      have c78b0 : decide (0 ≤ x155004_1) = true := decide_eq_true c78
                      clear c78
                      by_cases c79 : x155004_1 < (a0.size : Int)
                      · rw [if_pos c79] at H
                        have c79b0 : decide (x155004_1 < (a0.size : Int)) = true := decide_eq_true c79
                        clear c79
                        by_cases c81 : (wrap64 ((wrap64 ((wrap64 (10 * x155001_1)) + (wrap64 (bt a0 x155004_1)))) - 48)) > 1000000000000
                        · rw [if_pos c81] at H
                          have c81b0 : decide (1000000000000 < (wrap64 ((wrap64 ((wrap64 (10 * x155001_1)) + (wrap64 (bt a0 x155004_1)))) - 48))) = true := decide_eq_true c81
                          clear c81
                          simp only [Option.some.injEq, Prod.mk.injEq] at H
                          obtain ⟨rfl, rfl, rfl, rfl, rfl, rfl⟩ := H
                          try go_wp2
                          have n0_ := Aside0.mk (blk_drew BK153.out)
                          have n1_ := Aside0.mk (blk_drew BK154.out)
                          have n2_ := Aside0.mk (below_drew1 HB.out)
                          clear BK153
                          clear BK154
                          clear HB
                          have BK153 := n0_
                          have BK154 := n1_
                          have HB := n2_
                          clear n0_ n1_ n2_
                          have p80 : 0 ≤ (x155004_1 : Int) := of_decide_eq_true (by first | (with_reducible assumption) | assumption)
                          have q80 : x155004_1 < (a0.size : Int) := of_decide_eq_true (by first | (with_reducible assumption) | assumption)
                          have hx80 := bt_at a0 x155004_1
                          replace p80 := eq_true p80
                          replace q80 := eq_true q80
                          refine start_ (n := 12) (S := fun w' => w'.cell? ⟨gb154, 0, none⟩ = some (.int .i64 0) ∧ w'.cell? ⟨gb154, 1, none⟩ = some (.int .i64 x155001_1) ∧ w'.cell? ⟨gb154, 2, none⟩ = some (.string (⟨#[]⟩ : ByteArray)) ∧ w'.cell? ⟨gb154, 3, none⟩ = some (.int .i64 a1) ∧ w'.cell? ⟨gb154, 4, none⟩ = some (.int .i64 x155004_1)) (ds := [11]) #[false, false, false, false, false, false, false, false, false, false, false, false] (by kernel_rfl) rfl rfl ⟨(blk_cell BK154.out 0).trans rfl, (blk_cell BK154.out 1).trans rfl, (blk_cell BK154.out 2).trans rfl, (blk_cell BK154.out 3).trans rfl, (blk_cell BK154.out 4).trans rfl⟩ (fun hHeld => ?_); refine with_tabW octroiref04_token.tab12 octroiref04_token.bits12 (fun HT_ HW_ => ?_)
                          generalize wc.drew = w82 at BK153 BK154 HB hHeld ⊢
                          refine pure_ (i := 0) (N := some 75) (v := ?_) (a' := ?_) #[true, false, false, false, false, false, false, false, false, false, false, false] rfl rfl (any_of HT_.out (by kernel_rfl)) (fun _ _ _ h => h) (Or.inl ⟨by rfl, ?_⟩) ?_ ?_
                          rotate_left
                          · intro w'
                            go_simp
                            with_reducible rfl
                          rotate_left
                          · simp only [Act.put, List.setIfInBounds_toArray, List.set_cons_zero, List.set_cons_succ, i64_w, i32_w]
                            rfl
                          refine pure_ (i := 3) (N := some 78) (v := ?_) (a' := ?_) #[true, false, false, true, false, false, false, false, false, false, false, false] rfl rfl (any_of HT_.out (by kernel_rfl)) (fun _ _ _ h => h) (Or.inl ⟨by rfl, ?_⟩) ?_ ?_
                          rotate_left
                          · intro w'
                            go_simp
                            with_reducible rfl
                          rotate_left
                          · simp only [Act.put, List.setIfInBounds_toArray, List.set_cons_zero, List.set_cons_succ, i64_w, i32_w]
                            rfl
                          refine pure_ (i := 4) (N := some 79) (v := ?_) (a' := ?_) #[true, false, false, true, true, false, false, false, false, false, false, false] rfl rfl (any_of HT_.out (by kernel_rfl)) (fun _ _ _ h => h) (Or.inl ⟨by rfl, ?_⟩) ?_ ?_
                          rotate_left
                          · intro w'
                            go_simp
                            with_reducible rfl
                          rotate_left
                          · simp only [Act.put, List.setIfInBounds_toArray, List.set_cons_zero, List.set_cons_succ, i64_w, i32_w]
                            rfl
                          refine take_ (i := 1) (N := some 76) (v := ?_) (a' := ?_) #[true, true, false, true, true, false, false, false, false, false, false, false] rfl rfl (take_ofW HT_.out HW_.out (by kernel_rfl)) (fun _ _ _ h => h) (Or.inl ⟨by rfl, ?_⟩) hHeld ?_ ?_
                          rotate_left
                          · rintro w' ⟨s0, s1, s2, s3, s4⟩
                            go_simp
                            with_reducible rfl
                          rotate_left
                          · simp only [Act.put, List.setIfInBounds_toArray, List.set_cons_zero, List.set_cons_succ, i64_w, i32_w]
                            rfl
                          refine pure_ (i := 2) (N := some 77) (v := ?_) (a' := ?_) #[true, true, true, true, true, false, false, false, false, false, false, false] rfl rfl (any_of HT_.out (by kernel_rfl)) (fun _ _ _ h => h) (Or.inl ⟨by rfl, ?_⟩) ?_ ?_
                          rotate_left
                          · intro w'
                            go_simp
                            with_reducible rfl
                          rotate_left
                          · simp only [Act.put, List.setIfInBounds_toArray, List.set_cons_zero, List.set_cons_succ, i64_w, i32_w]
                            rfl
                          refine take_ (i := 5) (N := some 80) (v := ?_) (a' := ?_) #[true, true, true, true, true, true, false, false, false, false, false, false] rfl rfl (take_ofW HT_.out HW_.out (by kernel_rfl)) (fun _ _ _ h => h) (Or.inl ⟨by rfl, ?_⟩) hHeld ?_ ?_
                          rotate_left
                          · rintro w' ⟨s0, s1, s2, s3, s4⟩
                            go_simp
                            with_reducible rfl
                          rotate_left
                          · simp only [Act.put, List.setIfInBounds_toArray, List.set_cons_zero, List.set_cons_succ, i64_w, i32_w]
                            rfl
                          refine take_ (i := 6) (N := some 81) (v := ?_) (a' := ?_) #[true, true, true, true, true, true, true, false, false, false, false, false] rfl rfl (take_ofW HT_.out HW_.out (by kernel_rfl)) (fun _ _ _ h => h) (Or.inl ⟨by rfl, ?_⟩) hHeld ?_ ?_
                          rotate_left
                          · rintro w' ⟨s0, s1, s2, s3, s4⟩
                            go_simp
                            with_reducible rfl
                          rotate_left
                          · simp only [Act.put, List.setIfInBounds_toArray, List.set_cons_zero, List.set_cons_succ, i64_w, i32_w]
                            rfl
                          refine pure_ (i := 7) (N := some 82) (v := ?_) (a' := ?_) #[true, true, true, true, true, true, true, true, false, false, false, false] rfl rfl (any_of HT_.out (by kernel_rfl)) (fun _ _ _ h => h) (Or.inl ⟨by rfl, ?_⟩) ?_ ?_
                          rotate_left
                          · intro w'
                            go_simp
                            with_reducible rfl
                          rotate_left
                          · simp only [Act.put, List.setIfInBounds_toArray, List.set_cons_zero, List.set_cons_succ, i64_w, i32_w]
                            rfl
                          refine pure_ (i := 8) (N := some 83) (v := ?_) (a' := ?_) #[true, true, true, true, true, true, true, true, true, false, false, false] rfl rfl (any_of HT_.out (by kernel_rfl)) (fun _ _ _ h => h) (Or.inl ⟨by rfl, ?_⟩) ?_ ?_
                          rotate_left
                          · intro w'
                            go_simp
                            with_reducible rfl
                          rotate_left
                          · simp only [Act.put, List.setIfInBounds_toArray, List.set_cons_zero, List.set_cons_succ, i64_w, i32_w]
                            rfl
                          refine pure_ (i := 9) (N := some 84) (v := ?_) (a' := ?_) #[true, true, true, true, true, true, true, true, true, true, false, false] rfl rfl (any_of HT_.out (by kernel_rfl)) (fun _ _ _ h => h) (Or.inl ⟨by rfl, ?_⟩) ?_ ?_
                          rotate_left
                          · intro w'
                            go_simp
                            with_reducible rfl
                          rotate_left
                          · simp only [Act.put, List.setIfInBounds_toArray, List.set_cons_zero, List.set_cons_succ, i64_w, i32_w]
                            rfl
                          refine pure_ (i := 10) (N := some 85) (v := ?_) (a' := ?_) #[true, true, true, true, true, true, true, true, true, true, true, false] rfl rfl (any_of HT_.out (by kernel_rfl)) (fun _ _ _ h => h) (Or.inl ⟨by rfl, ?_⟩) ?_ ?_
                          rotate_left
                          · intro w'
                            go_simp
                            with_reducible rfl
                          rotate_left
                          · simp only [Act.put, List.setIfInBounds_toArray, List.set_cons_zero, List.set_cons_succ, i64_w, i32_w]
                            rfl
                          refine last_ (i := 11) (N := none) #[true, true, true, true, true, true, true, true, true, true, true, true] rfl rfl (one_of HT_.out (by kernel_rfl)) (by decide) (fun K hK => ?_)
                          have hs83 : w82.cell? ⟨gb154, 1, none⟩ = some (.int .i64 x155001_1) := (blk_cell BK154.out 1).trans rfl
                          have hfs83 := blk_frozen BK154.out 1
                          have hns83_0 := NB153_154.out
                          have hms83_0 := NB154_153.out
                          refine skip_ (w1 := ?_) (by rfl) rfl ?_ ?_
                          rotate_left
                          · go_simp
                            rfl
                          refine hK.out _ _ ?_
                          clear hK K
                          refine done_ (done_of HT_.out (by kernel_rfl)) ?_
                          have hnb84 := NB154_153.out
                          have hnc84 := NB153_154.out
                          have hcz85_0 : w82.cell? ⟨gb154, 0, none⟩ = some (.int .i64 0) := (blk_cell BK154.out 0).trans rfl
                          have hcz85_1 : w82.cell? ⟨gb154, 1, none⟩ = some (.int .i64 x155001_1) := (blk_cell BK154.out 1).trans rfl
                          have hcz85_2 : w82.cell? ⟨gb154, 2, none⟩ = some (.string (⟨#[]⟩ : ByteArray)) := (blk_cell BK154.out 2).trans rfl
                          have hcz85_3 : w82.cell? ⟨gb154, 3, none⟩ = some (.int .i64 a1) := (blk_cell BK154.out 3).trans rfl
                          have hcz85_4 : w82.cell? ⟨gb154, 4, none⟩ = some (.int .i64 x155004_1) := (blk_cell BK154.out 4).trans rfl
                          have hfz85_0 := blk_frozen BK154.out 0
                          have hfz85_1 := blk_frozen BK154.out 1
                          have hfz85_2 := blk_frozen BK154.out 2
                          have hfz85_3 := blk_frozen BK154.out 3
                          have hfz85_4 := blk_frozen BK154.out 4
                          have hcz86_0 : w82.cell? ⟨gb153, 0, none⟩ = some (.int .i64 x154000_1) := (blk_cell BK153.out 0).trans rfl
                          have hcz86_1 : w82.cell? ⟨gb153, 1, none⟩ = some (.int .i64 x154001_1) := (blk_cell BK153.out 1).trans rfl
                          have hcz86_2 : w82.cell? ⟨gb153, 2, none⟩ = some (.string x154002_1) := (blk_cell BK153.out 2).trans rfl
                          have hcz86_3 : w82.cell? ⟨gb153, 3, none⟩ = some (.int .i64 x154003_1) := (blk_cell BK153.out 3).trans rfl
                          have hcz86_4 : w82.cell? ⟨gb153, 4, none⟩ = some (.int .i64 x154004_1) := (blk_cell BK153.out 4).trans rfl
                          have hfz86_0 := blk_frozen BK153.out 0
                          have hfz86_1 := blk_frozen BK153.out 1
                          have hfz86_2 := blk_frozen BK153.out 2
                          have hfz86_3 := blk_frozen BK153.out 3
                          have hfz86_4 := blk_frozen BK153.out 4
                          try go_wp2
                          refine bodyPost_ret (results_ct rfl _ _ gb153 32 #[.int .i64 0, .int .i64 (wrap64 ((wrap64 ((wrap64 (10 * x155001_1)) + (wrap64 (bt a0 x155004_1)))) - 48)), .string (⟨#[]⟩ : ByteArray), .int .i64 a1, .int .i64 x155004_1] (0, 0) _ rfl (by (with_reducible repeat (first | refine blk_drewN ?_ _ | refine blk_drew ?_ | refine blk_alloc ?_ _)); refine blk_put (cs := #[.int .i64 0, .int .i64 (wrap64 ((wrap64 ((wrap64 (10 * x155001_1)) + (wrap64 (bt a0 x155004_1)))) - 48)), .string (⟨#[]⟩ : ByteArray), .int .i64 a1, .int .i64 x154004_1]) ?_ 4 _ rfl; (with_reducible repeat (first | refine blk_drewN ?_ _ | refine blk_drew ?_ | refine blk_alloc ?_ _)); refine blk_put (cs := #[.int .i64 0, .int .i64 (wrap64 ((wrap64 ((wrap64 (10 * x155001_1)) + (wrap64 (bt a0 x155004_1)))) - 48)), .string (⟨#[]⟩ : ByteArray), .int .i64 x154003_1, .int .i64 x154004_1]) ?_ 3 _ rfl; (with_reducible repeat (first | refine blk_drewN ?_ _ | refine blk_drew ?_ | refine blk_alloc ?_ _)); refine blk_put (cs := #[.int .i64 0, .int .i64 (wrap64 ((wrap64 ((wrap64 (10 * x155001_1)) + (wrap64 (bt a0 x155004_1)))) - 48)), .string x154002_1, .int .i64 x154003_1, .int .i64 x154004_1]) ?_ 2 _ rfl; (with_reducible repeat (first | refine blk_drewN ?_ _ | refine blk_drew ?_ | refine blk_alloc ?_ _)); refine blk_put (cs := #[.int .i64 0, .int .i64 x154001_1, .string x154002_1, .int .i64 x154003_1, .int .i64 x154004_1]) ?_ 1 _ rfl; (with_reducible repeat (first | refine blk_drewN ?_ _ | refine blk_drew ?_ | refine blk_alloc ?_ _)); refine blk_put (cs := #[.int .i64 x154000_1, .int .i64 x154001_1, .string x154002_1, .int .i64 x154003_1, .int .i64 x154004_1]) ?_ 0 _ rfl; (with_reducible repeat (first | refine blk_drewN ?_ _ | refine blk_drew ?_ | refine blk_alloc ?_ _)); refine blk_far ?_ NB153_154.out _; (with_reducible repeat (first | refine blk_drewN ?_ _ | refine blk_drew ?_ | refine blk_alloc ?_ _)); exact BK153.out) Try.underlying32 rfl (by kernel_rfl)) rfl ?_
                          exact ⟨by first | rfl | (simp [errW_none, errW_some] <;> rfl) | (simp [*, errW_none, errW_some] <;> rfl), by repeat (first | (with_reducible first | exact HB.out | apply below_alloc | apply pw_below_drewN | apply below_drew1 | refine below_set ?_ GE153.out | refine below_set ?_ GE154.out) | exact HB.out)⟩
                        · rw [if_neg c81] at H
                          have c81b0 : decide (1000000000000 < (wrap64 ((wrap64 ((wrap64 (10 * x155001_1)) + (wrap64 (bt a0 x155004_1)))) - 48))) = false := decide_eq_false c81
                          clear c81
                          have H' := Aside0.mk H
                          clear H
                          try go_wp2
                          have n0_ := Aside0.mk (blk_drew BK153.out)
                          have n1_ := Aside0.mk (blk_drew BK154.out)
                          have n2_ := Aside0.mk (below_drew1 HB.out)
                          clear BK153
                          clear BK154
                          clear HB
                          have BK153 := n0_
                          have BK154 := n1_
                          have HB := n2_
                          clear n0_ n1_ n2_
                          have p80 : 0 ≤ (x155004_1 : Int) := of_decide_eq_true (by first | (with_reducible assumption) | assumption)
                          have q80 : x155004_1 < (a0.size : Int) := of_decide_eq_true (by first | (with_reducible assumption) | assumption)
                          have hx80 := bt_at a0 x155004_1
                          replace p80 := eq_true p80
                          replace q80 := eq_true q80
                          refine start_ (n := 12) (S := fun w' => w'.cell? ⟨gb154, 0, none⟩ = some (.int .i64 0) ∧ w'.cell? ⟨gb154, 1, none⟩ = some (.int .i64 x155001_1) ∧ w'.cell? ⟨gb154, 2, none⟩ = some (.string (⟨#[]⟩ : ByteArray)) ∧ w'.cell? ⟨gb154, 3, none⟩ = some (.int .i64 a1) ∧ w'.cell? ⟨gb154, 4, none⟩ = some (.int .i64 x155004_1)) (ds := [11]) #[false, false, false, false, false, false, false, false, false, false, false, false] (by kernel_rfl) rfl rfl ⟨(blk_cell BK154.out 0).trans rfl, (blk_cell BK154.out 1).trans rfl, (blk_cell BK154.out 2).trans rfl, (blk_cell BK154.out 3).trans rfl, (blk_cell BK154.out 4).trans rfl⟩ (fun hHeld => ?_); refine with_tabW octroiref04_token.tab12 octroiref04_token.bits12 (fun HT_ HW_ => ?_)
                          generalize wc.drew = w87 at BK153 BK154 HB hHeld ⊢
                          refine pure_ (i := 0) (N := some 75) (v := ?_) (a' := ?_) #[true, false, false, false, false, false, false, false, false, false, false, false] rfl rfl (any_of HT_.out (by kernel_rfl)) (fun _ _ _ h => h) (Or.inl ⟨by rfl, ?_⟩) ?_ ?_
                          rotate_left
                          · intro w'
                            go_simp
                            with_reducible rfl
                          rotate_left
                          · simp only [Act.put, List.setIfInBounds_toArray, List.set_cons_zero, List.set_cons_succ, i64_w, i32_w]
                            rfl
                          refine pure_ (i := 3) (N := some 78) (v := ?_) (a' := ?_) #[true, false, false, true, false, false, false, false, false, false, false, false] rfl rfl (any_of HT_.out (by kernel_rfl)) (fun _ _ _ h => h) (Or.inl ⟨by rfl, ?_⟩) ?_ ?_
                          rotate_left
                          · intro w'
                            go_simp
                            with_reducible rfl
                          rotate_left
                          · simp only [Act.put, List.setIfInBounds_toArray, List.set_cons_zero, List.set_cons_succ, i64_w, i32_w]
                            rfl
                          refine pure_ (i := 4) (N := some 79) (v := ?_) (a' := ?_) #[true, false, false, true, true, false, false, false, false, false, false, false] rfl rfl (any_of HT_.out (by kernel_rfl)) (fun _ _ _ h => h) (Or.inl ⟨by rfl, ?_⟩) ?_ ?_
                          rotate_left
                          · intro w'
                            go_simp
                            with_reducible rfl
                          rotate_left
                          · simp only [Act.put, List.setIfInBounds_toArray, List.set_cons_zero, List.set_cons_succ, i64_w, i32_w]
                            rfl
                          refine take_ (i := 1) (N := some 76) (v := ?_) (a' := ?_) #[true, true, false, true, true, false, false, false, false, false, false, false] rfl rfl (take_ofW HT_.out HW_.out (by kernel_rfl)) (fun _ _ _ h => h) (Or.inl ⟨by rfl, ?_⟩) hHeld ?_ ?_
                          rotate_left
                          · rintro w' ⟨s0, s1, s2, s3, s4⟩
                            go_simp
                            with_reducible rfl
                          rotate_left
                          · simp only [Act.put, List.setIfInBounds_toArray, List.set_cons_zero, List.set_cons_succ, i64_w, i32_w]
                            rfl
                          refine pure_ (i := 2) (N := some 77) (v := ?_) (a' := ?_) #[true, true, true, true, true, false, false, false, false, false, false, false] rfl rfl (any_of HT_.out (by kernel_rfl)) (fun _ _ _ h => h) (Or.inl ⟨by rfl, ?_⟩) ?_ ?_
                          rotate_left
                          · intro w'
                            go_simp
                            with_reducible rfl
                          rotate_left
                          · simp only [Act.put, List.setIfInBounds_toArray, List.set_cons_zero, List.set_cons_succ, i64_w, i32_w]
                            rfl
                          refine take_ (i := 5) (N := some 80) (v := ?_) (a' := ?_) #[true, true, true, true, true, true, false, false, false, false, false, false] rfl rfl (take_ofW HT_.out HW_.out (by kernel_rfl)) (fun _ _ _ h => h) (Or.inl ⟨by rfl, ?_⟩) hHeld ?_ ?_
                          rotate_left
                          · rintro w' ⟨s0, s1, s2, s3, s4⟩
                            go_simp
                            with_reducible rfl
                          rotate_left
                          · simp only [Act.put, List.setIfInBounds_toArray, List.set_cons_zero, List.set_cons_succ, i64_w, i32_w]
                            rfl
                          refine take_ (i := 6) (N := some 81) (v := ?_) (a' := ?_) #[true, true, true, true, true, true, true, false, false, false, false, false] rfl rfl (take_ofW HT_.out HW_.out (by kernel_rfl)) (fun _ _ _ h => h) (Or.inl ⟨by rfl, ?_⟩) hHeld ?_ ?_
                          rotate_left
                          · rintro w' ⟨s0, s1, s2, s3, s4⟩
                            go_simp
                            with_reducible rfl
                          rotate_left
                          · simp only [Act.put, List.setIfInBounds_toArray, List.set_cons_zero, List.set_cons_succ, i64_w, i32_w]
                            rfl
                          refine pure_ (i := 7) (N := some 82) (v := ?_) (a' := ?_) #[true, true, true, true, true, true, true, true, false, false, false, false] rfl rfl (any_of HT_.out (by kernel_rfl)) (fun _ _ _ h => h) (Or.inl ⟨by rfl, ?_⟩) ?_ ?_
                          rotate_left
                          · intro w'
                            go_simp
                            with_reducible rfl
                          rotate_left
                          · simp only [Act.put, List.setIfInBounds_toArray, List.set_cons_zero, List.set_cons_succ, i64_w, i32_w]
                            rfl
                          refine pure_ (i := 8) (N := some 83) (v := ?_) (a' := ?_) #[true, true, true, true, true, true, true, true, true, false, false, false] rfl rfl (any_of HT_.out (by kernel_rfl)) (fun _ _ _ h => h) (Or.inl ⟨by rfl, ?_⟩) ?_ ?_
                          rotate_left
                          · intro w'
                            go_simp
                            with_reducible rfl
                          rotate_left
                          · simp only [Act.put, List.setIfInBounds_toArray, List.set_cons_zero, List.set_cons_succ, i64_w, i32_w]
                            rfl
                          refine pure_ (i := 9) (N := some 84) (v := ?_) (a' := ?_) #[true, true, true, true, true, true, true, true, true, true, false, false] rfl rfl (any_of HT_.out (by kernel_rfl)) (fun _ _ _ h => h) (Or.inl ⟨by rfl, ?_⟩) ?_ ?_
                          rotate_left
                          · intro w'
                            go_simp
                            with_reducible rfl
                          rotate_left
                          · simp only [Act.put, List.setIfInBounds_toArray, List.set_cons_zero, List.set_cons_succ, i64_w, i32_w]
                            rfl
                          refine pure_ (i := 10) (N := some 85) (v := ?_) (a' := ?_) #[true, true, true, true, true, true, true, true, true, true, true, false] rfl rfl (any_of HT_.out (by kernel_rfl)) (fun _ _ _ h => h) (Or.inl ⟨by rfl, ?_⟩) ?_ ?_
                          rotate_left
                          · intro w'
                            go_simp
                            with_reducible rfl
                          rotate_left
                          · simp only [Act.put, List.setIfInBounds_toArray, List.set_cons_zero, List.set_cons_succ, i64_w, i32_w]
                            rfl
                          refine last_ (i := 11) (N := none) #[true, true, true, true, true, true, true, true, true, true, true, true] rfl rfl (one_of HT_.out (by kernel_rfl)) (by decide) (fun K hK => ?_)
                          have hs88 : w87.cell? ⟨gb154, 1, none⟩ = some (.int .i64 x155001_1) := (blk_cell BK154.out 1).trans rfl
                          have hfs88 := blk_frozen BK154.out 1
                          have hns88_0 := NB153_154.out
                          have hms88_0 := NB154_153.out
                          refine skip_ (w1 := ?_) (by rfl) rfl ?_ ?_
                          rotate_left
                          · go_simp
                            rfl
                          refine hK.out _ _ ?_
                          clear hK K
                          refine done_ (done_of HT_.out (by kernel_rfl)) ?_
                          have hnb89 := NB154_153.out
                          have hnc89 := NB153_154.out
                          have hcz90_0 : w87.cell? ⟨gb154, 0, none⟩ = some (.int .i64 0) := (blk_cell BK154.out 0).trans rfl
                          have hcz90_1 : w87.cell? ⟨gb154, 1, none⟩ = some (.int .i64 x155001_1) := (blk_cell BK154.out 1).trans rfl
                          have hcz90_2 : w87.cell? ⟨gb154, 2, none⟩ = some (.string (⟨#[]⟩ : ByteArray)) := (blk_cell BK154.out 2).trans rfl
                          have hcz90_3 : w87.cell? ⟨gb154, 3, none⟩ = some (.int .i64 a1) := (blk_cell BK154.out 3).trans rfl
                          have hcz90_4 : w87.cell? ⟨gb154, 4, none⟩ = some (.int .i64 x155004_1) := (blk_cell BK154.out 4).trans rfl
                          have hfz90_0 := blk_frozen BK154.out 0
                          have hfz90_1 := blk_frozen BK154.out 1
                          have hfz90_2 := blk_frozen BK154.out 2
                          have hfz90_3 := blk_frozen BK154.out 3
                          have hfz90_4 := blk_frozen BK154.out 4
                          try go_wp2
                          go_roundg kj67
                          case measure => have := HK1.out; have := HJ67.out; omega
                          case rel => exact ⟨(x154000_1), (x154001_1), (x154002_1), (x154003_1), (x154004_1), (wrap64 ((wrap64 ((wrap64 (10 * x155001_1)) + (wrap64 (bt a0 x155004_1)))) - 48)), (wrap64 (x155004_1 + 1)), H', ⟨by have := HK1.out; have := HJ67.out; omega⟩, ⟨by (with_reducible repeat (first | refine blk_drewN ?_ _ | refine blk_drew ?_ | refine blk_alloc ?_ _)); refine blk_far ?_ NB153_154.out _; (with_reducible repeat (first | refine blk_drewN ?_ _ | refine blk_drew ?_ | refine blk_alloc ?_ _)); refine blk_far ?_ NB153_154.out _; (with_reducible repeat (first | refine blk_drewN ?_ _ | refine blk_drew ?_ | refine blk_alloc ?_ _)); exact BK153.out⟩, ⟨by (with_reducible repeat (first | refine blk_drewN ?_ _ | refine blk_drew ?_ | refine blk_alloc ?_ _)); refine blk_put (cs := #[.int .i64 0, .int .i64 (wrap64 ((wrap64 ((wrap64 (10 * x155001_1)) + (wrap64 (bt a0 x155004_1)))) - 48)), .string (⟨#[]⟩ : ByteArray), .int .i64 a1, .int .i64 x155004_1]) ?_ 4 _ rfl; (with_reducible repeat (first | refine blk_drewN ?_ _ | refine blk_drew ?_ | refine blk_alloc ?_ _)); refine blk_put (cs := #[.int .i64 0, .int .i64 x155001_1, .string (⟨#[]⟩ : ByteArray), .int .i64 a1, .int .i64 x155004_1]) ?_ 1 _ rfl; (with_reducible repeat (first | refine blk_drewN ?_ _ | refine blk_drew ?_ | refine blk_alloc ?_ _)); exact BK154.out⟩, ⟨by repeat (first | (with_reducible first | exact HB.out | apply below_alloc | apply pw_below_drewN | apply below_drew1 | refine below_set ?_ GE153.out | refine below_set ?_ GE154.out) | exact HB.out)⟩⟩
                      · rw [if_neg c79] at H
                        exact absurd H (by simp)
                    · rw [if_neg c78] at H
                      exact absurd H (by simp)
                  · replace c77 := Bool.eq_false_iff.mpr c77
                    subst c77
                    have H1 : (some (2, x155001_1, (⟨#[]⟩ : ByteArray), a1, x155004_1, 0)) = some (r1, r2, r3, r4, r5, r6) := by rw [if_neg (show ¬ (false = true) by decide)] at H; exact H
                    clear H
                    have H := H1
                    clear H1
                    simp only [Option.some.injEq, Prod.mk.injEq] at H
                    obtain ⟨rfl, rfl, rfl, rfl, rfl, rfl⟩ := H
                    have hnb91 := NB154_153.out
                    have hnc91 := NB153_154.out
                    have hcz92_0 : wc.cell? ⟨gb154, 0, none⟩ = some (.int .i64 0) := (blk_cell BK154.out 0).trans rfl
                    have hcz92_1 : wc.cell? ⟨gb154, 1, none⟩ = some (.int .i64 x155001_1) := (blk_cell BK154.out 1).trans rfl
                    have hcz92_2 : wc.cell? ⟨gb154, 2, none⟩ = some (.string (⟨#[]⟩ : ByteArray)) := (blk_cell BK154.out 2).trans rfl
                    have hcz92_3 : wc.cell? ⟨gb154, 3, none⟩ = some (.int .i64 a1) := (blk_cell BK154.out 3).trans rfl
                    have hcz92_4 : wc.cell? ⟨gb154, 4, none⟩ = some (.int .i64 x155004_1) := (blk_cell BK154.out 4).trans rfl
                    have hfz92_0 := blk_frozen BK154.out 0
                    have hfz92_1 := blk_frozen BK154.out 1
                    have hfz92_2 := blk_frozen BK154.out 2
                    have hfz92_3 := blk_frozen BK154.out 3
                    have hfz92_4 := blk_frozen BK154.out 4
                    have hcz93_0 : wc.cell? ⟨gb153, 0, none⟩ = some (.int .i64 x154000_1) := (blk_cell BK153.out 0).trans rfl
                    have hcz93_1 : wc.cell? ⟨gb153, 1, none⟩ = some (.int .i64 x154001_1) := (blk_cell BK153.out 1).trans rfl
                    have hcz93_2 : wc.cell? ⟨gb153, 2, none⟩ = some (.string x154002_1) := (blk_cell BK153.out 2).trans rfl
                    have hcz93_3 : wc.cell? ⟨gb153, 3, none⟩ = some (.int .i64 x154003_1) := (blk_cell BK153.out 3).trans rfl
                    have hcz93_4 : wc.cell? ⟨gb153, 4, none⟩ = some (.int .i64 x154004_1) := (blk_cell BK153.out 4).trans rfl
                    have hfz93_0 := blk_frozen BK153.out 0
                    have hfz93_1 := blk_frozen BK153.out 1
                    have hfz93_2 := blk_frozen BK153.out 2
                    have hfz93_3 := blk_frozen BK153.out 3
                    have hfz93_4 := blk_frozen BK153.out 4
                    go_wp2
                    refine bodyPost_ret (results_ct rfl _ _ gb153 32 #[.int .i64 2, .int .i64 x155001_1, .string (⟨#[]⟩ : ByteArray), .int .i64 a1, .int .i64 x155004_1] (0, 0) _ rfl (by (with_reducible repeat (first | refine blk_drewN ?_ _ | refine blk_drew ?_ | refine blk_alloc ?_ _)); refine blk_put (cs := #[.int .i64 2, .int .i64 x155001_1, .string (⟨#[]⟩ : ByteArray), .int .i64 a1, .int .i64 x154004_1]) ?_ 4 _ rfl; (with_reducible repeat (first | refine blk_drewN ?_ _ | refine blk_drew ?_ | refine blk_alloc ?_ _)); refine blk_put (cs := #[.int .i64 2, .int .i64 x155001_1, .string (⟨#[]⟩ : ByteArray), .int .i64 x154003_1, .int .i64 x154004_1]) ?_ 3 _ rfl; (with_reducible repeat (first | refine blk_drewN ?_ _ | refine blk_drew ?_ | refine blk_alloc ?_ _)); refine blk_put (cs := #[.int .i64 2, .int .i64 x155001_1, .string x154002_1, .int .i64 x154003_1, .int .i64 x154004_1]) ?_ 2 _ rfl; (with_reducible repeat (first | refine blk_drewN ?_ _ | refine blk_drew ?_ | refine blk_alloc ?_ _)); refine blk_put (cs := #[.int .i64 2, .int .i64 x154001_1, .string x154002_1, .int .i64 x154003_1, .int .i64 x154004_1]) ?_ 1 _ rfl; (with_reducible repeat (first | refine blk_drewN ?_ _ | refine blk_drew ?_ | refine blk_alloc ?_ _)); refine blk_put (cs := #[.int .i64 x154000_1, .int .i64 x154001_1, .string x154002_1, .int .i64 x154003_1, .int .i64 x154004_1]) ?_ 0 _ rfl; (with_reducible repeat (first | refine blk_drewN ?_ _ | refine blk_drew ?_ | refine blk_alloc ?_ _)); refine blk_far ?_ NB153_154.out _; (with_reducible repeat (first | refine blk_drewN ?_ _ | refine blk_drew ?_ | refine blk_alloc ?_ _)); exact BK153.out) Try.underlying32 rfl (by kernel_rfl)) rfl ?_
                    exact ⟨by first | rfl | (simp [errW_none, errW_some] <;> rfl) | (simp [*, errW_none, errW_some] <;> rfl), by repeat (first | (with_reducible first | exact HB.out | apply below_alloc | apply pw_below_drewN | apply below_drew1 | refine below_set ?_ GE153.out | refine below_set ?_ GE154.out) | exact HB.out)⟩
        · replace c63 := Bool.eq_false_iff.mpr c63
          subst c63
          have H1 : ((octroiref04_mark.f k a0 a1).bind fun t160 => (if t160 = 0 then (some (0, 0, (⟨#[]⟩ : ByteArray), a1, a1, 40)) else (if a1 ≤ (wrap64 (a1 + t160)) then (if (wrap64 (a1 + t160)) ≤ (a0.size : Int) then (some (3, 0, a0.extract (a1 : Int).toNat ((wrap64 (a1 + t160)) : Int).toNat, a1, wrap64 (a1 + t160), 0)) else (none)) else (none)))) = some (r1, r2, r3, r4, r5, r6) := by rw [if_neg (show ¬ (false = true) by decide)] at H; exact H
          clear H
          have H := H1
          clear H1
          replace H := Option.bind_eq_some_iff.mp H
          obtain ⟨t160, A940, H⟩ := H
          replace H : (if t160 = 0 then (some (0, 0, (⟨#[]⟩ : ByteArray), a1, a1, 40)) else (if a1 ≤ (wrap64 (a1 + t160)) then (if (wrap64 (a1 + t160)) ≤ (a0.size : Int) then (some (3, 0, a0.extract (a1 : Int).toNat ((wrap64 (a1 + t160)) : Int).toNat, a1, wrap64 (a1 + t160), 0)) else (none)) else (none))) = some (r1, r2, r3, r4, r5, r6) := H
          have A94 := Aside0.mk A940
          clear A940
          by_cases c95 : t160 = 0
          · rw [if_pos c95] at H
            have c95b0 : (t160 == 0) = true := beq_iff_eq.mpr c95
            have c95b1 : (t160 != 0) = false := bne_eq_false_iff_eq.mpr c95
            clear c95
            simp only [Option.some.injEq, Prod.mk.injEq] at H
            obtain ⟨rfl, rfl, rfl, rfl, rfl, rfl⟩ := H
            go_enter Try.func20, Try.ntmps20
            go_wp2_with (first | ((with_reducible refine gate_dst (N := 4) rfl ?_); refine box_event ?hg (N := 4) ?hd (cs := #[.int .i64 0, .int .i64 0, .string (⟨#[]⟩ : ByteArray), .int .i64 0, .int .i64 0]) (t := 32) ?hr ?_; (case hd => rfl); (case hg => rfl); (case hr => first | (go_simp; done) | (go_simp; rfl)); intro gb153 hg w96 hbox hb; have n0_ := Aside0.mk (below_step (by repeat (first | (with_reducible first | exact HB.out | apply below_alloc | apply pw_below_drewN | apply below_drew1) | exact HB.out)) hb); have n1_ := Aside0.mk (hbox); have n2_ := Aside0.mk ((by rw [hg]; exact (below_size (by repeat (first | (with_reducible first | exact HB.out | apply below_alloc | apply pw_below_drewN | apply below_drew1) | exact HB.out))) : w.heap.size ≤ gb153)); have n3_ := Aside0.mk ((by rw [hg]; exact (below_size (by repeat (first | (with_reducible first | exact HB.out | apply below_alloc | apply pw_below_drewN | apply below_drew1) | exact HB.out))) : w.heap.size ≤ gb153)); clear HB; have HB := n0_; have BK153 := n1_; have GW153 := n2_; have GE153 := n3_; clear n0_ n1_ n2_ n3_; clear hb hbox hg) | ((with_reducible refine gate_dst (N := 6) rfl ?_); refine box_event ?hg (N := 6) ?hd (cs := #[.int .i64 0, .int .i64 0, .string (⟨#[]⟩ : ByteArray), .int .i64 0, .int .i64 0]) (t := 32) ?hr ?_; (case hd => rfl); (case hg => rfl); (case hr => first | (go_simp; done) | (go_simp; rfl)); intro gb154 hg w97 hbox hb; have n0_ := Aside0.mk (blk_below (g := gb153) (o := .cells #[.int .i64 0, .int .i64 0, .string (⟨#[]⟩ : ByteArray), .int .i64 0, .int .i64 0] 32 (0, 0)) (by (with_reducible repeat (first | refine blk_drewN ?_ _ | refine blk_drew ?_ | refine blk_alloc ?_ _)); exact BK153.out) hb); have n1_ := Aside0.mk (below_step (by repeat (first | (with_reducible first | exact HB.out | apply below_alloc | apply pw_below_drewN | apply below_drew1 | refine below_set ?_ GE153.out) | exact HB.out)) hb); have n2_ := Aside0.mk (hbox); have n3_ := Aside0.mk ((by rw [hg]; exact (below_size (by repeat (first | (with_reducible first | exact HB.out | apply below_alloc | apply pw_below_drewN | apply below_drew1 | refine below_set ?_ GE153.out) | exact HB.out))) : w.heap.size ≤ gb154)); have n4_ := Aside0.mk ((by rw [hg]; exact (below_size (by repeat (first | (with_reducible first | exact HB.out | apply below_alloc | apply pw_below_drewN | apply below_drew1 | refine below_set ?_ GE153.out) | exact HB.out))) : w.heap.size ≤ gb154)); have n5_ := Aside0.mk ((by rw [hg]; exact Nat.ne_of_lt (blk_lt (g := gb153) (o := .cells #[.int .i64 0, .int .i64 0, .string (⟨#[]⟩ : ByteArray), .int .i64 0, .int .i64 0] 32 (0, 0)) (by (with_reducible repeat (first | refine blk_drewN ?_ _ | refine blk_drew ?_ | refine blk_alloc ?_ _)); exact BK153.out)) : gb153 ≠ gb154)); have n6_ := Aside0.mk ((by rw [hg]; exact Nat.ne_of_gt (blk_lt (g := gb153) (o := .cells #[.int .i64 0, .int .i64 0, .string (⟨#[]⟩ : ByteArray), .int .i64 0, .int .i64 0] 32 (0, 0)) (by (with_reducible repeat (first | refine blk_drewN ?_ _ | refine blk_drew ?_ | refine blk_alloc ?_ _)); exact BK153.out)) : gb154 ≠ gb153)); clear BK153; clear HB; have BK153 := n0_; have HB := n1_; have BK154 := n2_; have GW154 := n3_; have GE154 := n4_; have NB153_154 := n5_; have NB154_153 := n6_; clear n0_ n1_ n2_ n3_ n4_ n5_ n6_; clear hb hbox hg; have hnb98 := NB154_153.out; have hnc98 := NB153_154.out; have hcz99_0 : w97.cell? ⟨gb154, 0, none⟩ = some (.int .i64 0) := (blk_cell BK154.out 0).trans rfl; have hcz99_1 : w97.cell? ⟨gb154, 1, none⟩ = some (.int .i64 0) := (blk_cell BK154.out 1).trans rfl; have hcz99_2 : w97.cell? ⟨gb154, 2, none⟩ = some (.string (⟨#[]⟩ : ByteArray)) := (blk_cell BK154.out 2).trans rfl; have hcz99_3 : w97.cell? ⟨gb154, 3, none⟩ = some (.int .i64 0) := (blk_cell BK154.out 3).trans rfl; have hcz99_4 : w97.cell? ⟨gb154, 4, none⟩ = some (.int .i64 0) := (blk_cell BK154.out 4).trans rfl; have hfz99_0 := blk_frozen BK154.out 0; have hfz99_1 := blk_frozen BK154.out 1; have hfz99_2 := blk_frozen BK154.out 2; have hfz99_3 := blk_frozen BK154.out 3; have hfz99_4 := blk_frozen BK154.out 4; have p5 : 0 ≤ (a1 : Int) := of_decide_eq_true (by first | (with_reducible assumption) | assumption); have q5 : a1 < (a0.size : Int) := of_decide_eq_true (by first | (with_reducible assumption) | assumption); have hx5 := bt_at a0 a1; replace p5 := eq_true p5; replace q5 := eq_true q5) | ((with_reducible refine gate_callee (f := 26) rfl ?_); refine goesL_ (some 14) rfl rfl Try.func26 (by kernel_rfl) rfl #[.int .u8 (bt a0 a1)] rfl (by (try simp only [List.map_toArray, List.map_cons, List.map_nil]); first | done | rfl | (simp only [List.length_drop, List.length_take]; rfl)) ?_; (with_reducible refine (octroiref04_Letter.calls (bt a0 a1) false _ A6.out).mono ?_); rintro e w' ⟨rfl, ⟨nd, rfl⟩⟩; refine ⟨_, rfl, ?_⟩; have p61 : 0 ≤ (a1 : Int) := of_decide_eq_true (by first | (with_reducible assumption) | assumption); have q61 : a1 < (a0.size : Int) := of_decide_eq_true (by first | (with_reducible assumption) | assumption); have hx61 := bt_at a0 a1; replace p61 := eq_true p61; replace q61 := eq_true q61) | ((with_reducible refine gate_callee (f := 27) rfl ?_); refine goesL_ (some 62) rfl rfl Try.func27 (by kernel_rfl) rfl #[.int .u8 (bt a0 a1)] rfl (by (try simp only [List.map_toArray, List.map_cons, List.map_nil]); first | done | rfl | (simp only [List.length_drop, List.length_take]; rfl)) ?_; (with_reducible refine (octroiref04_Digit.calls (bt a0 a1) false _ A62.out).mono ?_); rintro e w' ⟨rfl, ⟨nd, rfl⟩⟩; refine ⟨_, rfl, ?_⟩) | ((with_reducible refine gate_callee (f := 32) rfl ?_); refine goesL_ (some 98) rfl rfl Try.func32 (by kernel_rfl) rfl #[.string a0, .int .i64 a1] rfl (by (try simp only [List.map_toArray, List.map_cons, List.map_nil]); first | done | rfl | (simp only [List.length_drop, List.length_take]; rfl)) ?_; (with_reducible refine (octroiref04_mark.calls k a0 a1 t160 _ A94.out).mono ?_); rintro e w' ⟨rfl, ⟨nd, rfl⟩⟩; refine ⟨_, rfl, ?_⟩; have hcz100_0 : w97.cell? ⟨gb153, 0, none⟩ = some (.int .i64 0) := (blk_cell BK153.out 0).trans rfl; have hcz100_1 : w97.cell? ⟨gb153, 1, none⟩ = some (.int .i64 0) := (blk_cell BK153.out 1).trans rfl; have hcz100_2 : w97.cell? ⟨gb153, 2, none⟩ = some (.string (⟨#[]⟩ : ByteArray)) := (blk_cell BK153.out 2).trans rfl; have hcz100_3 : w97.cell? ⟨gb153, 3, none⟩ = some (.int .i64 0) := (blk_cell BK153.out 3).trans rfl; have hcz100_4 : w97.cell? ⟨gb153, 4, none⟩ = some (.int .i64 0) := (blk_cell BK153.out 4).trans rfl; have hfz100_0 := blk_frozen BK153.out 0; have hfz100_1 := blk_frozen BK153.out 1; have hfz100_2 := blk_frozen BK153.out 2; have hfz100_3 := blk_frozen BK153.out 3; have hfz100_4 := blk_frozen BK153.out 4))
            refine bodyPost_ret (results_ct rfl _ _ gb153 32 #[.int .i64 0, .int .i64 0, .string (⟨#[]⟩ : ByteArray), .int .i64 a1, .int .i64 a1] (0, 0) _ rfl (by (with_reducible repeat (first | refine blk_drewN ?_ _ | refine blk_drew ?_ | refine blk_alloc ?_ _)); refine blk_put (cs := #[.int .i64 0, .int .i64 0, .string (⟨#[]⟩ : ByteArray), .int .i64 a1, .int .i64 0]) ?_ 4 _ rfl; (with_reducible repeat (first | refine blk_drewN ?_ _ | refine blk_drew ?_ | refine blk_alloc ?_ _)); refine blk_put (cs := #[.int .i64 0, .int .i64 0, .string (⟨#[]⟩ : ByteArray), .int .i64 0, .int .i64 0]) ?_ 3 _ rfl; (with_reducible repeat (first | refine blk_drewN ?_ _ | refine blk_drew ?_ | refine blk_alloc ?_ _)); refine blk_put (cs := #[.int .i64 0, .int .i64 0, .string (⟨#[]⟩ : ByteArray), .int .i64 0, .int .i64 0]) ?_ 2 _ rfl; (with_reducible repeat (first | refine blk_drewN ?_ _ | refine blk_drew ?_ | refine blk_alloc ?_ _)); refine blk_put (cs := #[.int .i64 0, .int .i64 0, .string (⟨#[]⟩ : ByteArray), .int .i64 0, .int .i64 0]) ?_ 1 _ rfl; (with_reducible repeat (first | refine blk_drewN ?_ _ | refine blk_drew ?_ | refine blk_alloc ?_ _)); refine blk_put (cs := #[.int .i64 0, .int .i64 0, .string (⟨#[]⟩ : ByteArray), .int .i64 0, .int .i64 0]) ?_ 0 _ rfl; (with_reducible repeat (first | refine blk_drewN ?_ _ | refine blk_drew ?_ | refine blk_alloc ?_ _)); refine blk_far ?_ NB153_154.out _; (with_reducible repeat (first | refine blk_drewN ?_ _ | refine blk_drew ?_ | refine blk_alloc ?_ _)); refine blk_far ?_ NB153_154.out _; (with_reducible repeat (first | refine blk_drewN ?_ _ | refine blk_drew ?_ | refine blk_alloc ?_ _)); refine blk_far ?_ NB153_154.out _; (with_reducible repeat (first | refine blk_drewN ?_ _ | refine blk_drew ?_ | refine blk_alloc ?_ _)); refine blk_far ?_ NB153_154.out _; (with_reducible repeat (first | refine blk_drewN ?_ _ | refine blk_drew ?_ | refine blk_alloc ?_ _)); refine blk_far ?_ NB153_154.out _; (with_reducible repeat (first | refine blk_drewN ?_ _ | refine blk_drew ?_ | refine blk_alloc ?_ _)); exact BK153.out) Try.underlying32 rfl (by kernel_rfl)) rfl ?_
            exact ⟨by first | rfl | (simp [errW_none, errW_some] <;> rfl) | (simp [*, errW_none, errW_some] <;> rfl), by repeat (first | (with_reducible first | exact HB.out | apply below_alloc | apply pw_below_drewN | apply below_drew1 | refine below_set ?_ GE153.out | refine below_set ?_ GE154.out) | exact HB.out)⟩
          · rw [if_neg c95] at H
            have c95b0 : (t160 == 0) = false := beq_eq_false_iff_ne.mpr c95
            have c95b1 : (t160 != 0) = true := bne_iff_ne.mpr c95
            have c101b0 := eq_true (of_decide_eq_true (by first | (with_reducible assumption) | assumption) : 0 ≤ a1)
            by_cases c102 : a1 ≤ (wrap64 (a1 + t160))
            · rw [if_pos c102] at H
              have c102b0 := eq_true c102
              have c102b1 : decide (a1 ≤ (wrap64 (a1 + t160))) = true := decide_eq_true c102
              by_cases c103 : (wrap64 (a1 + t160)) ≤ (a0.size : Int)
              · rw [if_pos c103] at H
                have c103b0 := eq_true c103
                have c103b1 : decide ((wrap64 (a1 + t160)) ≤ (a0.size : Int)) = true := decide_eq_true c103
                simp only [Option.some.injEq, Prod.mk.injEq] at H
                obtain ⟨rfl, rfl, rfl, rfl, rfl, rfl⟩ := H
                go_enter Try.func20, Try.ntmps20
                go_wp2_with (first | ((with_reducible refine gate_dst (N := 4) rfl ?_); refine box_event ?hg (N := 4) ?hd (cs := #[.int .i64 0, .int .i64 0, .string (⟨#[]⟩ : ByteArray), .int .i64 0, .int .i64 0]) (t := 32) ?hr ?_; (case hd => rfl); (case hg => rfl); (case hr => first | (go_simp; done) | (go_simp; rfl)); intro gb153 hg w104 hbox hb; have n0_ := Aside0.mk (below_step (by repeat (first | (with_reducible first | exact HB.out | apply below_alloc | apply pw_below_drewN | apply below_drew1) | exact HB.out)) hb); have n1_ := Aside0.mk (hbox); have n2_ := Aside0.mk ((by rw [hg]; exact (below_size (by repeat (first | (with_reducible first | exact HB.out | apply below_alloc | apply pw_below_drewN | apply below_drew1) | exact HB.out))) : w.heap.size ≤ gb153)); have n3_ := Aside0.mk ((by rw [hg]; exact (below_size (by repeat (first | (with_reducible first | exact HB.out | apply below_alloc | apply pw_below_drewN | apply below_drew1) | exact HB.out))) : w.heap.size ≤ gb153)); clear HB; have HB := n0_; have BK153 := n1_; have GW153 := n2_; have GE153 := n3_; clear n0_ n1_ n2_ n3_; clear hb hbox hg) | ((with_reducible refine gate_dst (N := 6) rfl ?_); refine box_event ?hg (N := 6) ?hd (cs := #[.int .i64 0, .int .i64 0, .string (⟨#[]⟩ : ByteArray), .int .i64 0, .int .i64 0]) (t := 32) ?hr ?_; (case hd => rfl); (case hg => rfl); (case hr => first | (go_simp; done) | (go_simp; rfl)); intro gb154 hg w105 hbox hb; have n0_ := Aside0.mk (blk_below (g := gb153) (o := .cells #[.int .i64 0, .int .i64 0, .string (⟨#[]⟩ : ByteArray), .int .i64 0, .int .i64 0] 32 (0, 0)) (by (with_reducible repeat (first | refine blk_drewN ?_ _ | refine blk_drew ?_ | refine blk_alloc ?_ _)); exact BK153.out) hb); have n1_ := Aside0.mk (below_step (by repeat (first | (with_reducible first | exact HB.out | apply below_alloc | apply pw_below_drewN | apply below_drew1 | refine below_set ?_ GE153.out) | exact HB.out)) hb); have n2_ := Aside0.mk (hbox); have n3_ := Aside0.mk ((by rw [hg]; exact (below_size (by repeat (first | (with_reducible first | exact HB.out | apply below_alloc | apply pw_below_drewN | apply below_drew1 | refine below_set ?_ GE153.out) | exact HB.out))) : w.heap.size ≤ gb154)); have n4_ := Aside0.mk ((by rw [hg]; exact (below_size (by repeat (first | (with_reducible first | exact HB.out | apply below_alloc | apply pw_below_drewN | apply below_drew1 | refine below_set ?_ GE153.out) | exact HB.out))) : w.heap.size ≤ gb154)); have n5_ := Aside0.mk ((by rw [hg]; exact Nat.ne_of_lt (blk_lt (g := gb153) (o := .cells #[.int .i64 0, .int .i64 0, .string (⟨#[]⟩ : ByteArray), .int .i64 0, .int .i64 0] 32 (0, 0)) (by (with_reducible repeat (first | refine blk_drewN ?_ _ | refine blk_drew ?_ | refine blk_alloc ?_ _)); exact BK153.out)) : gb153 ≠ gb154)); have n6_ := Aside0.mk ((by rw [hg]; exact Nat.ne_of_gt (blk_lt (g := gb153) (o := .cells #[.int .i64 0, .int .i64 0, .string (⟨#[]⟩ : ByteArray), .int .i64 0, .int .i64 0] 32 (0, 0)) (by (with_reducible repeat (first | refine blk_drewN ?_ _ | refine blk_drew ?_ | refine blk_alloc ?_ _)); exact BK153.out)) : gb154 ≠ gb153)); clear BK153; clear HB; have BK153 := n0_; have HB := n1_; have BK154 := n2_; have GW154 := n3_; have GE154 := n4_; have NB153_154 := n5_; have NB154_153 := n6_; clear n0_ n1_ n2_ n3_ n4_ n5_ n6_; clear hb hbox hg; have hnb106 := NB154_153.out; have hnc106 := NB153_154.out; have hcz107_0 : w105.cell? ⟨gb154, 0, none⟩ = some (.int .i64 0) := (blk_cell BK154.out 0).trans rfl; have hcz107_1 : w105.cell? ⟨gb154, 1, none⟩ = some (.int .i64 0) := (blk_cell BK154.out 1).trans rfl; have hcz107_2 : w105.cell? ⟨gb154, 2, none⟩ = some (.string (⟨#[]⟩ : ByteArray)) := (blk_cell BK154.out 2).trans rfl; have hcz107_3 : w105.cell? ⟨gb154, 3, none⟩ = some (.int .i64 0) := (blk_cell BK154.out 3).trans rfl; have hcz107_4 : w105.cell? ⟨gb154, 4, none⟩ = some (.int .i64 0) := (blk_cell BK154.out 4).trans rfl; have hfz107_0 := blk_frozen BK154.out 0; have hfz107_1 := blk_frozen BK154.out 1; have hfz107_2 := blk_frozen BK154.out 2; have hfz107_3 := blk_frozen BK154.out 3; have hfz107_4 := blk_frozen BK154.out 4) | ((with_reducible refine gate_store (t := 32) (p := 6) rfl ?_); refine store_event (t := 32) (p := 6) (v := ?vo_w108) (w1 := (((((w105.setCell ⟨gb154, 0, none⟩ (.int .i64 0)).setCell ⟨gb154, 1, none⟩ (.int .i64 0)).setCell ⟨gb154, 2, none⟩ (.string (⟨#[]⟩ : ByteArray))).setCell ⟨gb154, 3, none⟩ (.int .i64 a1)).setCell ⟨gb154, 4, none⟩ (.int .i64 a1))) ?hg ?ho ?hn ?hr ?_; (case ho => rfl); (case hg => rfl); (case hn => rfl); (case hr => first | (go_simp; done) | (go_simp; rfl)); intro w108 hw; have n0_ : Aside0 (w108.heap[gb153]? = some (.cells #[.int .i64 0, .int .i64 0, .string (⟨#[]⟩ : ByteArray), .int .i64 0, .int .i64 0] 32 (0, 0))) := ⟨(by rw [hw]; exact (by (with_reducible repeat (first | refine blk_drewN ?_ _ | refine blk_drew ?_ | refine blk_alloc ?_ _)); refine blk_far ?_ NB153_154.out _; (with_reducible repeat (first | refine blk_drewN ?_ _ | refine blk_drew ?_ | refine blk_alloc ?_ _)); refine blk_far ?_ NB153_154.out _; (with_reducible repeat (first | refine blk_drewN ?_ _ | refine blk_drew ?_ | refine blk_alloc ?_ _)); refine blk_far ?_ NB153_154.out _; (with_reducible repeat (first | refine blk_drewN ?_ _ | refine blk_drew ?_ | refine blk_alloc ?_ _)); refine blk_far ?_ NB153_154.out _; (with_reducible repeat (first | refine blk_drewN ?_ _ | refine blk_drew ?_ | refine blk_alloc ?_ _)); refine blk_far ?_ NB153_154.out _; (with_reducible repeat (first | refine blk_drewN ?_ _ | refine blk_drew ?_ | refine blk_alloc ?_ _)); exact BK153.out))⟩; have n1_ : Aside0 (w108.heap[gb154]? = some (.cells #[.int .i64 0, .int .i64 0, .string (⟨#[]⟩ : ByteArray), .int .i64 a1, .int .i64 a1] 32 (0, 0))) := ⟨(by rw [hw]; exact (by (with_reducible repeat (first | refine blk_drewN ?_ _ | refine blk_drew ?_ | refine blk_alloc ?_ _)); refine blk_put (cs := #[.int .i64 0, .int .i64 0, .string (⟨#[]⟩ : ByteArray), .int .i64 a1, .int .i64 0]) ?_ 4 _ rfl; (with_reducible repeat (first | refine blk_drewN ?_ _ | refine blk_drew ?_ | refine blk_alloc ?_ _)); refine blk_put (cs := #[.int .i64 0, .int .i64 0, .string (⟨#[]⟩ : ByteArray), .int .i64 0, .int .i64 0]) ?_ 3 _ rfl; (with_reducible repeat (first | refine blk_drewN ?_ _ | refine blk_drew ?_ | refine blk_alloc ?_ _)); refine blk_put (cs := #[.int .i64 0, .int .i64 0, .string (⟨#[]⟩ : ByteArray), .int .i64 0, .int .i64 0]) ?_ 2 _ rfl; (with_reducible repeat (first | refine blk_drewN ?_ _ | refine blk_drew ?_ | refine blk_alloc ?_ _)); refine blk_put (cs := #[.int .i64 0, .int .i64 0, .string (⟨#[]⟩ : ByteArray), .int .i64 0, .int .i64 0]) ?_ 1 _ rfl; (with_reducible repeat (first | refine blk_drewN ?_ _ | refine blk_drew ?_ | refine blk_alloc ?_ _)); refine blk_put (cs := #[.int .i64 0, .int .i64 0, .string (⟨#[]⟩ : ByteArray), .int .i64 0, .int .i64 0]) ?_ 0 _ rfl; (with_reducible repeat (first | refine blk_drewN ?_ _ | refine blk_drew ?_ | refine blk_alloc ?_ _)); exact BK154.out))⟩; have n2_ : Aside0 (Below w.heap.size w w108) := ⟨(by rw [hw]; exact (by repeat (first | (with_reducible first | exact HB.out | apply below_alloc | apply pw_below_drewN | apply below_drew1 | refine below_set ?_ GE153.out | refine below_set ?_ GE154.out) | exact HB.out)))⟩; clear hw; clear BK153; clear BK154; clear HB; have BK153 := n0_; have BK154 := n1_; have HB := n2_; clear n0_ n1_ n2_; have p5 : 0 ≤ (a1 : Int) := of_decide_eq_true (by first | (with_reducible assumption) | assumption); have q5 : a1 < (a0.size : Int) := of_decide_eq_true (by first | (with_reducible assumption) | assumption); have hx5 := bt_at a0 a1; replace p5 := eq_true p5; replace q5 := eq_true q5) | ((with_reducible refine gate_callee (f := 26) rfl ?_); refine goesL_ (some 14) rfl rfl Try.func26 (by kernel_rfl) rfl #[.int .u8 (bt a0 a1)] rfl (by (try simp only [List.map_toArray, List.map_cons, List.map_nil]); first | done | rfl | (simp only [List.length_drop, List.length_take]; rfl)) ?_; (with_reducible refine (octroiref04_Letter.calls (bt a0 a1) false _ A6.out).mono ?_); rintro e w' ⟨rfl, ⟨nd, rfl⟩⟩; refine ⟨_, rfl, ?_⟩; (try (rw [drewN_self w108]; generalize hq_ : World.drewN w108 _ = w108; have n0_ : Aside0 (w108.heap[gb153]? = some (.cells #[.int .i64 0, .int .i64 0, .string (⟨#[]⟩ : ByteArray), .int .i64 0, .int .i64 0] 32 (0, 0))) := ⟨by rw [← hq_]; exact (by (with_reducible repeat (first | refine blk_drewN ?_ _ | refine blk_drew ?_ | refine blk_alloc ?_ _)); exact BK153.out)⟩; have n1_ : Aside0 (w108.heap[gb154]? = some (.cells #[.int .i64 0, .int .i64 0, .string (⟨#[]⟩ : ByteArray), .int .i64 a1, .int .i64 a1] 32 (0, 0))) := ⟨by rw [← hq_]; exact (by (with_reducible repeat (first | refine blk_drewN ?_ _ | refine blk_drew ?_ | refine blk_alloc ?_ _)); exact BK154.out)⟩; have n2_ : Aside0 (Below w.heap.size w w108) := ⟨by rw [← hq_]; exact (by repeat (first | (with_reducible first | exact HB.out | apply below_alloc | apply pw_below_drewN | apply below_drew1 | refine below_set ?_ GE153.out | refine below_set ?_ GE154.out) | exact HB.out))⟩; clear BK153 BK154 HB hq_; have BK153 := n0_; have BK154 := n1_; have HB := n2_; clear n0_ n1_ n2_)); have p61 : 0 ≤ (a1 : Int) := of_decide_eq_true (by first | (with_reducible assumption) | assumption); have q61 : a1 < (a0.size : Int) := of_decide_eq_true (by first | (with_reducible assumption) | assumption); have hx61 := bt_at a0 a1; replace p61 := eq_true p61; replace q61 := eq_true q61) | ((with_reducible refine gate_callee (f := 27) rfl ?_); refine goesL_ (some 62) rfl rfl Try.func27 (by kernel_rfl) rfl #[.int .u8 (bt a0 a1)] rfl (by (try simp only [List.map_toArray, List.map_cons, List.map_nil]); first | done | rfl | (simp only [List.length_drop, List.length_take]; rfl)) ?_; (with_reducible refine (octroiref04_Digit.calls (bt a0 a1) false _ A62.out).mono ?_); rintro e w' ⟨rfl, ⟨nd, rfl⟩⟩; refine ⟨_, rfl, ?_⟩; (try (rw [drewN_self w108]; generalize hq_ : World.drewN w108 _ = w108; have n0_ : Aside0 (w108.heap[gb153]? = some (.cells #[.int .i64 0, .int .i64 0, .string (⟨#[]⟩ : ByteArray), .int .i64 0, .int .i64 0] 32 (0, 0))) := ⟨by rw [← hq_]; exact (by (with_reducible repeat (first | refine blk_drewN ?_ _ | refine blk_drew ?_ | refine blk_alloc ?_ _)); exact BK153.out)⟩; have n1_ : Aside0 (w108.heap[gb154]? = some (.cells #[.int .i64 0, .int .i64 0, .string (⟨#[]⟩ : ByteArray), .int .i64 a1, .int .i64 a1] 32 (0, 0))) := ⟨by rw [← hq_]; exact (by (with_reducible repeat (first | refine blk_drewN ?_ _ | refine blk_drew ?_ | refine blk_alloc ?_ _)); exact BK154.out)⟩; have n2_ : Aside0 (Below w.heap.size w w108) := ⟨by rw [← hq_]; exact (by repeat (first | (with_reducible first | exact HB.out | apply below_alloc | apply pw_below_drewN | apply below_drew1 | refine below_set ?_ GE153.out | refine below_set ?_ GE154.out) | exact HB.out))⟩; clear BK153 BK154 HB hq_; have BK153 := n0_; have BK154 := n1_; have HB := n2_; clear n0_ n1_ n2_))) | ((with_reducible refine gate_callee (f := 32) rfl ?_); refine goesL_ (some 98) rfl rfl Try.func32 (by kernel_rfl) rfl #[.string a0, .int .i64 a1] rfl (by (try simp only [List.map_toArray, List.map_cons, List.map_nil]); first | done | rfl | (simp only [List.length_drop, List.length_take]; rfl)) ?_; (with_reducible refine (octroiref04_mark.calls k a0 a1 t160 _ A94.out).mono ?_); rintro e w' ⟨rfl, ⟨nd, rfl⟩⟩; refine ⟨_, rfl, ?_⟩; (try (rw [drewN_self w108]; generalize hq_ : World.drewN w108 _ = w108; have n0_ : Aside0 (w108.heap[gb153]? = some (.cells #[.int .i64 0, .int .i64 0, .string (⟨#[]⟩ : ByteArray), .int .i64 0, .int .i64 0] 32 (0, 0))) := ⟨by rw [← hq_]; exact (by (with_reducible repeat (first | refine blk_drewN ?_ _ | refine blk_drew ?_ | refine blk_alloc ?_ _)); exact BK153.out)⟩; have n1_ : Aside0 (w108.heap[gb154]? = some (.cells #[.int .i64 0, .int .i64 0, .string (⟨#[]⟩ : ByteArray), .int .i64 a1, .int .i64 a1] 32 (0, 0))) := ⟨by rw [← hq_]; exact (by (with_reducible repeat (first | refine blk_drewN ?_ _ | refine blk_drew ?_ | refine blk_alloc ?_ _)); exact BK154.out)⟩; have n2_ : Aside0 (Below w.heap.size w w108) := ⟨by rw [← hq_]; exact (by repeat (first | (with_reducible first | exact HB.out | apply below_alloc | apply pw_below_drewN | apply below_drew1 | refine below_set ?_ GE153.out | refine below_set ?_ GE154.out) | exact HB.out))⟩; clear BK153 BK154 HB hq_; have BK153 := n0_; have BK154 := n1_; have HB := n2_; clear n0_ n1_ n2_)); have hcz109_0 : w108.cell? ⟨gb154, 0, none⟩ = some (.int .i64 0) := (blk_cell BK154.out 0).trans rfl; have hcz109_1 : w108.cell? ⟨gb154, 1, none⟩ = some (.int .i64 0) := (blk_cell BK154.out 1).trans rfl; have hcz109_2 : w108.cell? ⟨gb154, 2, none⟩ = some (.string (⟨#[]⟩ : ByteArray)) := (blk_cell BK154.out 2).trans rfl; have hcz109_3 : w108.cell? ⟨gb154, 3, none⟩ = some (.int .i64 a1) := (blk_cell BK154.out 3).trans rfl; have hcz109_4 : w108.cell? ⟨gb154, 4, none⟩ = some (.int .i64 a1) := (blk_cell BK154.out 4).trans rfl; have hfz109_0 := blk_frozen BK154.out 0; have hfz109_1 := blk_frozen BK154.out 1; have hfz109_2 := blk_frozen BK154.out 2; have hfz109_3 := blk_frozen BK154.out 3; have hfz109_4 := blk_frozen BK154.out 4) | ((with_reducible refine gate_store (t := 3) (p := 102) rfl ?_); refine store_event (t := 3) (p := 102) (v := ?vo_w110) (w1 := (w108.setCell ⟨gb154, 0, none⟩ (.int .i64 3))) ?hg ?ho ?hn ?hr ?_; (case ho => rfl); (case hg => rfl); (case hn => rfl); (case hr => first | (go_simp; done) | (go_simp; rfl)); intro w110 hw; have n0_ : Aside0 (w110.heap[gb153]? = some (.cells #[.int .i64 0, .int .i64 0, .string (⟨#[]⟩ : ByteArray), .int .i64 0, .int .i64 0] 32 (0, 0))) := ⟨(by rw [hw]; exact (by (with_reducible repeat (first | refine blk_drewN ?_ _ | refine blk_drew ?_ | refine blk_alloc ?_ _)); refine blk_far ?_ NB153_154.out _; (with_reducible repeat (first | refine blk_drewN ?_ _ | refine blk_drew ?_ | refine blk_alloc ?_ _)); exact BK153.out))⟩; have n1_ : Aside0 (w110.heap[gb154]? = some (.cells #[.int .i64 3, .int .i64 0, .string (⟨#[]⟩ : ByteArray), .int .i64 a1, .int .i64 a1] 32 (0, 0))) := ⟨(by rw [hw]; exact (by (with_reducible repeat (first | refine blk_drewN ?_ _ | refine blk_drew ?_ | refine blk_alloc ?_ _)); refine blk_put (cs := #[.int .i64 0, .int .i64 0, .string (⟨#[]⟩ : ByteArray), .int .i64 a1, .int .i64 a1]) ?_ 0 _ rfl; (with_reducible repeat (first | refine blk_drewN ?_ _ | refine blk_drew ?_ | refine blk_alloc ?_ _)); exact BK154.out))⟩; have n2_ : Aside0 (Below w.heap.size w w110) := ⟨(by rw [hw]; exact (by repeat (first | (with_reducible first | exact HB.out | apply below_alloc | apply pw_below_drewN | apply below_drew1 | refine below_set ?_ GE153.out | refine below_set ?_ GE154.out) | exact HB.out)))⟩; clear hw; clear BK153; clear BK154; clear HB; have BK153 := n0_; have BK154 := n1_; have HB := n2_; clear n0_ n1_ n2_; have hcz111_0 : w110.cell? ⟨gb154, 0, none⟩ = some (.int .i64 3) := (blk_cell BK154.out 0).trans rfl; have hcz111_1 : w110.cell? ⟨gb154, 1, none⟩ = some (.int .i64 0) := (blk_cell BK154.out 1).trans rfl; have hcz111_2 : w110.cell? ⟨gb154, 2, none⟩ = some (.string (⟨#[]⟩ : ByteArray)) := (blk_cell BK154.out 2).trans rfl; have hcz111_3 : w110.cell? ⟨gb154, 3, none⟩ = some (.int .i64 a1) := (blk_cell BK154.out 3).trans rfl; have hcz111_4 : w110.cell? ⟨gb154, 4, none⟩ = some (.int .i64 a1) := (blk_cell BK154.out 4).trans rfl; have hfz111_0 := blk_frozen BK154.out 0; have hfz111_1 := blk_frozen BK154.out 1; have hfz111_2 := blk_frozen BK154.out 2; have hfz111_3 := blk_frozen BK154.out 3; have hfz111_4 := blk_frozen BK154.out 4) | ((with_reducible refine gate_store (t := 3) (p := 106) rfl ?_); refine store_event (t := 3) (p := 106) (v := ?vo_w112) (w1 := (w110.setCell ⟨gb154, 4, none⟩ (.int .i64 (wrap64 (a1 + t160))))) ?hg ?ho ?hn ?hr ?_; (case ho => rfl); (case hg => rfl); (case hn => rfl); (case hr => first | (go_simp; done) | (go_simp; rfl)); intro w112 hw; have n0_ : Aside0 (w112.heap[gb153]? = some (.cells #[.int .i64 0, .int .i64 0, .string (⟨#[]⟩ : ByteArray), .int .i64 0, .int .i64 0] 32 (0, 0))) := ⟨(by rw [hw]; exact (by (with_reducible repeat (first | refine blk_drewN ?_ _ | refine blk_drew ?_ | refine blk_alloc ?_ _)); refine blk_far ?_ NB153_154.out _; (with_reducible repeat (first | refine blk_drewN ?_ _ | refine blk_drew ?_ | refine blk_alloc ?_ _)); exact BK153.out))⟩; have n1_ : Aside0 (w112.heap[gb154]? = some (.cells #[.int .i64 3, .int .i64 0, .string (⟨#[]⟩ : ByteArray), .int .i64 a1, .int .i64 (wrap64 (a1 + t160))] 32 (0, 0))) := ⟨(by rw [hw]; exact (by (with_reducible repeat (first | refine blk_drewN ?_ _ | refine blk_drew ?_ | refine blk_alloc ?_ _)); refine blk_put (cs := #[.int .i64 3, .int .i64 0, .string (⟨#[]⟩ : ByteArray), .int .i64 a1, .int .i64 a1]) ?_ 4 _ rfl; (with_reducible repeat (first | refine blk_drewN ?_ _ | refine blk_drew ?_ | refine blk_alloc ?_ _)); exact BK154.out))⟩; have n2_ : Aside0 (Below w.heap.size w w112) := ⟨(by rw [hw]; exact (by repeat (first | (with_reducible first | exact HB.out | apply below_alloc | apply pw_below_drewN | apply below_drew1 | refine below_set ?_ GE153.out | refine below_set ?_ GE154.out) | exact HB.out)))⟩; clear hw; clear BK153; clear BK154; clear HB; have BK153 := n0_; have BK154 := n1_; have HB := n2_; clear n0_ n1_ n2_; have hcz113_0 : w112.cell? ⟨gb154, 0, none⟩ = some (.int .i64 3) := (blk_cell BK154.out 0).trans rfl; have hcz113_1 : w112.cell? ⟨gb154, 1, none⟩ = some (.int .i64 0) := (blk_cell BK154.out 1).trans rfl; have hcz113_2 : w112.cell? ⟨gb154, 2, none⟩ = some (.string (⟨#[]⟩ : ByteArray)) := (blk_cell BK154.out 2).trans rfl; have hcz113_3 : w112.cell? ⟨gb154, 3, none⟩ = some (.int .i64 a1) := (blk_cell BK154.out 3).trans rfl; have hcz113_4 : w112.cell? ⟨gb154, 4, none⟩ = some (.int .i64 (wrap64 (a1 + t160))) := (blk_cell BK154.out 4).trans rfl; have hfz113_0 := blk_frozen BK154.out 0; have hfz113_1 := blk_frozen BK154.out 1; have hfz113_2 := blk_frozen BK154.out 2; have hfz113_3 := blk_frozen BK154.out 3; have hfz113_4 := blk_frozen BK154.out 4; have hcz114_0 : w112.cell? ⟨gb153, 0, none⟩ = some (.int .i64 0) := (blk_cell BK153.out 0).trans rfl; have hcz114_1 : w112.cell? ⟨gb153, 1, none⟩ = some (.int .i64 0) := (blk_cell BK153.out 1).trans rfl; have hcz114_2 : w112.cell? ⟨gb153, 2, none⟩ = some (.string (⟨#[]⟩ : ByteArray)) := (blk_cell BK153.out 2).trans rfl; have hcz114_3 : w112.cell? ⟨gb153, 3, none⟩ = some (.int .i64 0) := (blk_cell BK153.out 3).trans rfl; have hcz114_4 : w112.cell? ⟨gb153, 4, none⟩ = some (.int .i64 0) := (blk_cell BK153.out 4).trans rfl; have hfz114_0 := blk_frozen BK153.out 0; have hfz114_1 := blk_frozen BK153.out 1; have hfz114_2 := blk_frozen BK153.out 2; have hfz114_3 := blk_frozen BK153.out 3; have hfz114_4 := blk_frozen BK153.out 4))
                refine bodyPost_ret (results_ct rfl _ _ gb153 32 #[.int .i64 3, .int .i64 0, .string (a0.extract (a1 : Int).toNat ((wrap64 (a1 + t160)) : Int).toNat), .int .i64 a1, .int .i64 (wrap64 (a1 + t160))] (0, 0) _ rfl (by (with_reducible repeat (first | refine blk_drewN ?_ _ | refine blk_drew ?_ | refine blk_alloc ?_ _)); refine blk_put (cs := #[.int .i64 3, .int .i64 0, .string (a0.extract (a1 : Int).toNat ((wrap64 (a1 + t160)) : Int).toNat), .int .i64 a1, .int .i64 0]) ?_ 4 _ rfl; (with_reducible repeat (first | refine blk_drewN ?_ _ | refine blk_drew ?_ | refine blk_alloc ?_ _)); refine blk_put (cs := #[.int .i64 3, .int .i64 0, .string (a0.extract (a1 : Int).toNat ((wrap64 (a1 + t160)) : Int).toNat), .int .i64 0, .int .i64 0]) ?_ 3 _ rfl; (with_reducible repeat (first | refine blk_drewN ?_ _ | refine blk_drew ?_ | refine blk_alloc ?_ _)); refine blk_put (cs := #[.int .i64 3, .int .i64 0, .string (⟨#[]⟩ : ByteArray), .int .i64 0, .int .i64 0]) ?_ 2 _ rfl; (with_reducible repeat (first | refine blk_drewN ?_ _ | refine blk_drew ?_ | refine blk_alloc ?_ _)); refine blk_put (cs := #[.int .i64 3, .int .i64 0, .string (⟨#[]⟩ : ByteArray), .int .i64 0, .int .i64 0]) ?_ 1 _ rfl; (with_reducible repeat (first | refine blk_drewN ?_ _ | refine blk_drew ?_ | refine blk_alloc ?_ _)); refine blk_put (cs := #[.int .i64 0, .int .i64 0, .string (⟨#[]⟩ : ByteArray), .int .i64 0, .int .i64 0]) ?_ 0 _ rfl; (with_reducible repeat (first | refine blk_drewN ?_ _ | refine blk_drew ?_ | refine blk_alloc ?_ _)); refine blk_far ?_ NB153_154.out _; (with_reducible repeat (first | refine blk_drewN ?_ _ | refine blk_drew ?_ | refine blk_alloc ?_ _)); exact BK153.out) Try.underlying32 rfl (by kernel_rfl)) rfl ?_
                exact ⟨by first | rfl | (simp [errW_none, errW_some] <;> rfl) | (simp [*, errW_none, errW_some] <;> rfl), by repeat (first | (with_reducible first | exact HB.out | apply below_alloc | apply pw_below_drewN | apply below_drew1 | refine below_set ?_ GE153.out | refine below_set ?_ GE154.out) | exact HB.out)⟩
              · rw [if_neg c103] at H
                exact absurd H (by simp)
            · rw [if_neg c102] at H
              exact absurd H (by simp)
    · rw [if_neg c4] at H
      exact absurd H (by simp)
  · rw [if_neg c3] at H
    exact absurd H (by simp)

end Go.Proofs.Ytfkikmiajldojaa.S
