-- printed by wip/tools/myprint.py of this repo out of the translation (over the kit's print.py, with contracts from outside). Not trusted: Lean checks it.
import Derived.Test.YtfkikmiajldojaaSx0
import Derived.Test.YtfkikmiajldojaaSfScanGap
import Derived.Test.YtfkikmiajldojaaSfScanOne
import Derived.Test.YtfkikmiajldojaaGw
namespace Go.Proofs.Ytfkikmiajldojaa.S
open Go.RowKit Go.Proofs.YtfkikmiajldojaaW.PrintWords Go.Proofs.YtfkikmiajldojaaW.PrintLast Go.Proofs.YtfkikmiajldojaaW.PrintMore
attribute [local go_sem] max2_int min2_int max_two min_two max_three min_three max_four min_four   -- for this text's walks alone
set_option linter.unusedVariables false
set_option linter.unusedSimpArgs false

/-! ### scan_Scan: function 9 -/
def scan_Scan.l0 : Nat → ByteArray → List (S32) → Int → Option ((List (S32)) × Int × Int)
  | 0, _, _, _ => none
  | k + 1, x0, x5, x6 => if x6 < (x0.size : Int) then (if 0 ≤ x6 then (if x6 ≤ (x0.size : Int) then ((scan_one.f k (x0.extract (x6 : Int).toNat x0.size)).bind fun bt117 => (if bt117.2.2.2.2.2.2 = 0 then (if x5.length < 2932031007402 then (if 0 ≤ (wrap64 (x6 + bt117.2.2.2.2.2.1)) then (if (wrap64 (x6 + bt117.2.2.2.2.2.1)) ≤ (x0.size : Int) then ((scan_gap.f k (x0.extract ((wrap64 (x6 + bt117.2.2.2.2.2.1)) : Int).toNat x0.size)).bind fun t128 => (scan_Scan.l0 k x0 (x5 ++ [(⟨bt117.1, bt117.2.1, bt117.2.2.1, x6, wrap64 (x6 + bt117.2.2.2.2.2.1)⟩ : S32)]) (wrap64 ((wrap64 (x6 + bt117.2.2.2.2.2.1)) + t128)))) else (none)) else (none)) else (none)) else (some (([] : List (S32)), x6, bt117.2.2.2.2.2.2)))) else (none)) else (none)) else (if x5.length < 2932031007402 then (some ((x5 ++ [(⟨0, 0, (⟨#[]⟩ : ByteArray), (x0.size : Int), (x0.size : Int)⟩ : S32)]), 0, 0)) else (none))
def scan_Scan.f (k : Nat) (a0 : ByteArray) : Option ((List (S32)) × Int × Int) := if (a0.size : Int) > 8192 then (some (([] : List (S32)), 8192, 2)) else ((scan_gap.f k a0).bind fun t113 => (scan_Scan.l0 k a0 ([] : List (S32)) t113))
theorem scan_Scan.mono_l : ∀ k, (∀ y0 y1 y2, LeO (scan_Scan.l0 k y0 y1 y2) (scan_Scan.l0 (k + 1) y0 y1 y2))
  | 0 => fun _ _ _ r h => by simp [scan_Scan.l0] at h
  | k + 1 => by
    have ih0 := scan_Scan.mono_l k
    · intro y0 y1 y2
      unfold scan_Scan.l0
      repeat' first
      | (with_reducible exact ih0 _ _ _)
      | (with_reducible exact scan_gap.mono _ _)
      | (with_reducible exact scan_one.mono _ _)
      | (with_reducible exact LeO.refl _)
      | (with_reducible exact LeO.none _)
      | (with_reducible refine LeO.ite ?_ ?_)
      | (with_reducible refine LeO.bind ?_ (fun _ => ?_))
      | exact ih0 _ _ _
      | exact scan_gap.mono _ _
      | exact scan_one.mono _ _
      | exact LeO.none _
      | refine LeO.ite ?_ ?_
      | refine LeO.bind ?_ (fun _ => ?_)
theorem scan_Scan.mono : ∀ a0 k, LeO (scan_Scan.f k a0) (scan_Scan.f (k + 1) a0) := by
  intro a0 k
  have ih0 := scan_Scan.mono_l k
  unfold scan_Scan.f
  repeat' first
      | (with_reducible exact ih0 _ _ _)
      | (with_reducible exact scan_gap.mono _ _)
      | (with_reducible exact scan_one.mono _ _)
      | (with_reducible exact LeO.refl _)
      | (with_reducible exact LeO.none _)
      | (with_reducible refine LeO.ite ?_ ?_)
      | (with_reducible refine LeO.bind ?_ (fun _ => ?_))
      | exact ih0 _ _ _
      | exact scan_gap.mono _ _
      | exact scan_one.mono _ _
      | exact LeO.none _
      | refine LeO.ite ?_ ?_
      | refine LeO.bind ?_ (fun _ => ?_)
set_option maxHeartbeats 8000000 in
set_option maxRecDepth 100000 in
theorem scan_Scan.calls (k : Nat) (a0 : ByteArray) (r1 : List (S32)) (r2 : Int) (r3 : Int) (w : World) (hG : GW w) (h : scan_Scan.f k a0 = some (r1, r2, r3)) :
    Calls Try.prog 9 #[.string a0] w fun e w' => ∃ v0_ : Value, e = .returned (.tuple #[v0_, .int .i64 r2, .int .i64 r3]) ∧ Kd.R k32 32 w' w.heap.size (fun _ => True) v0_ r1 ∧ Below w.heap.size w w' := by
  have hu32 := Try.underlying32
  have HB := Aside0.mk (Below.refl w.heap.size w)
  have H : (if (a0.size : Int) > 8192 then (some (([] : List (S32)), 8192, 2)) else ((scan_gap.f k a0).bind fun t113 => (scan_Scan.l0 k a0 ([] : List (S32)) t113))) = some (r1, r2, r3) := h
  clear h
  by_cases c2 : (a0.size : Int) > 8192
  · rw [if_pos c2] at H
    have c2b0 : decide (8192 < (a0.size : Int)) = true := decide_eq_true c2
    have c2b1 : decide (8192 < a0.size) = true := decide_eq_true (by omega)
    clear c2
    simp only [Option.some.injEq, Prod.mk.injEq] at H
    obtain ⟨rfl, rfl, rfl⟩ := H
    go_enter Try.func9, Try.ntmps9
    go_wp2
    go_ret3
    exact ⟨_, by first | rfl | (simp [errW_none, errW_some] <;> rfl) | (simp [*, errW_none, errW_some] <;> rfl), by first | exact Kd.R_nil _ _ _ _ _ | exact Kd.N_nil _ _ _ _ _ | exact Kd.V_nil _ _ _ _ _ | exact Kd.Q_nil _ _ _ _ _ | exact Kd.S_nil _ _ _ _ _, by repeat (first | (with_reducible first | exact HB.out | apply below_alloc | apply pw_below_drewN | apply below_drew1) | exact HB.out)⟩
  · rw [if_neg c2] at H
    have c2b0 : decide (8192 < (a0.size : Int)) = false := decide_eq_false c2
    have c2b1 : decide (8192 < a0.size) = false := decide_eq_false (by omega)
    clear c2
    replace H := Option.bind_eq_some_iff.mp H
    obtain ⟨t113, A30, H⟩ := H
    replace H : (scan_Scan.l0 k a0 ([] : List (S32)) t113) = some (r1, r2, r3) := H
    have A3 := Aside0.mk A30
    clear A30
    have H' := Aside0.mk H
    clear H
    go_enter Try.func9, Try.ntmps9
    go_wp2_with (first | ((with_reducible refine gate_callee (f := 17) rfl ?_); refine goesL_ (some 14) rfl rfl Try.func17 (by kernel_rfl) rfl #[.string a0] rfl (by (try simp only [List.map_toArray, List.map_cons, List.map_nil]); first | done | rfl | (simp only [List.length_drop, List.length_take]; rfl)) ?_; (with_reducible refine (scan_gap.calls k a0 t113 _ A3.out).mono ?_); rintro e w' ⟨rfl, ⟨nd, rfl⟩⟩; refine ⟨_, rfl, ?_⟩))
    (try simp only [Act.put, List.setIfInBounds_toArray, List.set_cons_zero, List.set_cons_succ])
    go_loopg [5, 6] k (fun kq v5 v6 w' => ∃ (x5_1 : List (S32)) (x6_1 : Int), v6 = .int .i64 x6_1 ∧ Aside0 (scan_Scan.l0 kq a0 x5_1 x6_1 = some (r1, r2, r3)) ∧ Aside0 (kq ≤ k) ∧ Aside0 (Kd.R k32 32 w' w.heap.size (fun _ => True) v5 x5_1) ∧ Aside0 (Below w.heap.size w w'))
    case atStart => exact ⟨(([] : List (S32))), (t113), (by first | rfl | (simp; done) | (simp [*]; done)), H', ⟨Nat.le_refl _⟩, ⟨by first | exact Kd.R_nil _ _ _ _ _ | exact Kd.N_nil _ _ _ _ _ | exact Kd.V_nil _ _ _ _ _ | exact Kd.Q_nil _ _ _ _ _ | exact Kd.S_nil _ _ _ _ _⟩, ⟨by repeat (first | (with_reducible first | exact HB.out | apply below_alloc | apply pw_below_drewN | apply below_drew1) | exact HB.out)⟩⟩
    case round =>
      clear H'
      try clear c1
      try clear c2
      try clear c2b0
      try clear c2b1
      try clear p2
      obtain ⟨x5_1, x6_1, rfl, HA, HK1, HO_5, HB⟩ := hrel
      cases gk with
      | zero => exact absurd HA.out (by simp [scan_Scan.l0])
      | succ k1 =>
        have H := HA.out
        clear HA
        simp only [scan_Scan.l0] at H
        by_cases c4 : x6_1 < (a0.size : Int)
        · rw [if_pos c4] at H
          have c4b0 : decide (x6_1 < (a0.size : Int)) = true := decide_eq_true c4
          clear c4
          by_cases c5 : 0 ≤ x6_1
          · rw [if_pos c5] at H
            have c5b0 := eq_true c5
            have c5b1 : decide (0 ≤ x6_1) = true := decide_eq_true c5
            clear c5
            by_cases c6 : x6_1 ≤ (a0.size : Int)
            · rw [if_pos c6] at H
              have c6b0 := eq_true c6
              have c6b1 : decide (x6_1 ≤ (a0.size : Int)) = true := decide_eq_true c6
              clear c6
              replace H := Option.bind_eq_some_iff.mp H
              obtain ⟨⟨t117, t118, t119, t120, t121, t122, t123⟩, A70, H⟩ := H
              replace H : (if t123 = 0 then (if x5_1.length < 2932031007402 then (if 0 ≤ (wrap64 (x6_1 + t122)) then (if (wrap64 (x6_1 + t122)) ≤ (a0.size : Int) then ((scan_gap.f k1 (a0.extract ((wrap64 (x6_1 + t122)) : Int).toNat a0.size)).bind fun t128 => (scan_Scan.l0 k1 a0 (x5_1 ++ [(⟨t117, t118, t119, x6_1, wrap64 (x6_1 + t122)⟩ : S32)]) (wrap64 ((wrap64 (x6_1 + t122)) + t128)))) else (none)) else (none)) else (none)) else (some (([] : List (S32)), x6_1, t123))) = some (r1, r2, r3) := H
              have A7 := Aside0.mk A70
              clear A70
              by_cases c8 : t123 = 0
              · rw [if_pos c8] at H
                have c8b0 : (t123 == 0) = true := beq_iff_eq.mpr c8
                have c8b1 : (t123 != 0) = false := bne_eq_false_iff_eq.mpr c8
                clear c8
                by_cases c9 : x5_1.length < 2932031007402
                · rw [if_pos c9] at H
                  have LMc9 := Aside0.mk c9
                  clear c9
                  obtain ⟨y125, hy125⟩ : ∃ y_ : List (S32), y_ = (x5_1 ++ [(⟨t117, t118, t119, x6_1, wrap64 (x6_1 + t122)⟩ : S32)]) := ⟨_, rfl⟩
                  replace H : (if 0 ≤ (wrap64 (x6_1 + t122)) then (if (wrap64 (x6_1 + t122)) ≤ (a0.size : Int) then ((scan_gap.f k1 (a0.extract ((wrap64 (x6_1 + t122)) : Int).toNat a0.size)).bind fun t128 => (scan_Scan.l0 k1 a0 y125 (wrap64 ((wrap64 (x6_1 + t122)) + t128)))) else (none)) else (none)) = some (r1, r2, r3) := by first | (rw [hy125]; with_reducible exact H) | (have H2_ := (Option.bind_some _ _).symm.trans H; rw [hy125]; with_reducible exact H2_) | (have H2_ := (Option.bind_some _ _).symm.trans H; with_reducible exact H2_) | with_reducible exact H | (rw [hy125]; exact H) | exact H
                  have Ny125 := Aside0.mk hy125
                  clear hy125
                  obtain ⟨ji10, hji10⟩ : ∃ j_ : Int, (wrap64 (x6_1 + t122)) = j_ := ⟨_, rfl⟩
                  replace H : (if 0 ≤ (ji10) then (if (ji10) ≤ (a0.size : Int) then ((scan_gap.f k1 (a0.extract ((ji10) : Int).toNat a0.size)).bind fun t128 => (scan_Scan.l0 k1 a0 y125 (wrap64 ((ji10) + t128)))) else (none)) else (none)) = some (r1, r2, r3) := by first | (rw [hji10] at H; exact H) | (simp only [hji10] at H ⊢; exact H)
                  (try rw [hji10] at A7)
                  (try rw [hji10] at Ny125)
                  have hji10w : (IntKind.i64.wrap (x6_1 + t122)) = ji10 := (i64_w _).trans hji10
                  by_cases c11 : 0 ≤ (ji10)
                  · rw [if_pos c11] at H
                    have c11b0 := eq_true c11
                    have c11b1 : decide (0 ≤ (ji10)) = true := decide_eq_true c11
                    clear c11
                    by_cases c12 : (ji10) ≤ (a0.size : Int)
                    · rw [if_pos c12] at H
                      have c12b0 := eq_true c12
                      have c12b1 : decide ((ji10) ≤ (a0.size : Int)) = true := decide_eq_true c12
                      clear c12
                      replace H := Option.bind_eq_some_iff.mp H
                      obtain ⟨t128, A130, H⟩ := H
                      replace H : (scan_Scan.l0 k1 a0 y125 (wrap64 ((ji10) + t128))) = some (r1, r2, r3) := H
                      have A13 := Aside0.mk A130
                      clear A130
                      have H' := Aside0.mk H
                      clear H
                      go_wp2_with (first | ((with_reducible refine gate_callee (f := 18) rfl ?_); refine goesL_ (some 23) rfl rfl Try.func18 (by kernel_rfl) rfl #[.string (a0.extract (x6_1 : Int).toNat a0.size)] rfl (by (try simp only [List.map_toArray, List.map_cons, List.map_nil]); first | done | rfl | (simp only [List.length_drop, List.length_take]; rfl)) ?_; (with_reducible refine (scan_one.calls k1 (a0.extract (x6_1 : Int).toNat a0.size) t117 t118 t119 t120 t121 t122 t123 _ ?side1 A7.out).mono ?_); (case side1 => (first | exact hG | ((repeat (first | exact hG | apply GW.drewN | apply GW.drew | apply GW.alloc)); done) | exact GW.below hG (by repeat (first | (with_reducible first | exact HB.out | apply below_alloc | apply pw_below_drewN | apply below_drew1) | exact HB.out)))); rintro e w14 ⟨rfl, hb⟩; refine ⟨_, rfl, ?_⟩; have n0_ := Aside0.mk (Kd.R_below (by (with_reducible repeat (first | apply Kd.R_alloc | apply Kd.R_drewN | apply Kd.R_drew)); exact HO_5.out) hb); have n1_ := Aside0.mk (below_step (by repeat (first | (with_reducible first | exact HB.out | apply below_alloc | apply pw_below_drewN | apply below_drew1) | exact HB.out)) hb); clear HO_5; clear HB; have HO_5 := n0_; have HB := n1_; clear n0_ n1_; (try clear hb); (try clear hb2); (try clear hk); (try clear hi)) | ((with_reducible refine gate_dst (N := 7) rfl ?_); refine box_event ?hg (N := 7) ?hd (cs := #[.int .i64 0, .int .i64 0, .string (⟨#[]⟩ : ByteArray), .int .i64 0, .int .i64 0]) (t := 32) ?hr ?_; (case hd => rfl); (case hg => rfl); (case hr => first | (go_simp; done) | (go_simp; rfl)); intro gb124 hg w15 hbox hb; have n0_ := Aside0.mk (Kd.R_below (Kd.R_elderB (by (with_reducible repeat (first | apply Kd.R_alloc | apply Kd.R_drewN | apply Kd.R_drew)); exact HO_5.out) gb124 (Nat.le_of_eq hg.symm)) hb); have n1_ := Aside0.mk (below_step (by repeat (first | (with_reducible first | exact HB.out | apply below_alloc | apply pw_below_drewN | apply below_drew1) | exact HB.out)) hb); have n2_ := Aside0.mk (hbox); have n3_ := Aside0.mk ((by rw [hg]; exact (below_size (by repeat (first | (with_reducible first | exact HB.out | apply below_alloc | apply pw_below_drewN | apply below_drew1) | exact HB.out))) : w.heap.size ≤ gb124)); have n4_ := Aside0.mk ((by rw [hg]; exact (below_size (by repeat (first | (with_reducible first | exact HB.out | apply below_alloc | apply pw_below_drewN | apply below_drew1) | exact HB.out))) : w.heap.size ≤ gb124)); clear HO_5; clear HB; have HO_5 := n0_; have HB := n1_; have BK124 := n2_; have GW124 := n3_; have GE124 := n4_; clear n0_ n1_ n2_ n3_ n4_; clear hb hbox hg; have hcz16_0 : w15.cell? ⟨gb124, 0, none⟩ = some (.int .i64 0) := (blk_cell BK124.out 0).trans rfl; have hcz16_1 : w15.cell? ⟨gb124, 1, none⟩ = some (.int .i64 0) := (blk_cell BK124.out 1).trans rfl; have hcz16_2 : w15.cell? ⟨gb124, 2, none⟩ = some (.string (⟨#[]⟩ : ByteArray)) := (blk_cell BK124.out 2).trans rfl; have hcz16_3 : w15.cell? ⟨gb124, 3, none⟩ = some (.int .i64 0) := (blk_cell BK124.out 3).trans rfl; have hcz16_4 : w15.cell? ⟨gb124, 4, none⟩ = some (.int .i64 0) := (blk_cell BK124.out 4).trans rfl; have hfz16_0 := blk_frozen BK124.out 0; have hfz16_1 := blk_frozen BK124.out 1; have hfz16_2 := blk_frozen BK124.out 2; have hfz16_3 := blk_frozen BK124.out 3; have hfz16_4 := blk_frozen BK124.out 4) | ((with_reducible refine gate_store (t := 32) (p := 7) rfl ?_); refine store_event (t := 32) (p := 7) (v := ?vo_w17) (w1 := (((((w15.setCell ⟨gb124, 0, none⟩ (.int .i64 t117)).setCell ⟨gb124, 1, none⟩ (.int .i64 t118)).setCell ⟨gb124, 2, none⟩ (.string t119)).setCell ⟨gb124, 3, none⟩ (.int .i64 t120)).setCell ⟨gb124, 4, none⟩ (.int .i64 t121))) ?hg ?ho ?hn ?hr ?_; (case ho => rfl); (case hg => rfl); (case hn => rfl); (case hr => first | (go_simp; done) | (go_simp; rfl)); intro w17 hw; have n0_ : Aside0 (Kd.R k32 32 w17 w.heap.size (fun k_ => k_ ≠ gb124) u5 x5_1) := ⟨(by rw [hw]; exact (by (with_reducible repeat (first | apply Kd.R_alloc | apply Kd.R_drewN | apply Kd.R_drew)); exact Kd.R_mono (Kd.R_far (p := ⟨gb124, 4, none⟩) (Kd.R_far (p := ⟨gb124, 3, none⟩) (Kd.R_far (p := ⟨gb124, 2, none⟩) (Kd.R_far (p := ⟨gb124, 1, none⟩) (Kd.R_far (p := ⟨gb124, 0, none⟩) (Kd.R_mono HO_5.out (fun k_ hk => (⟨hk, hk.2⟩ : _ ∧ k_ ≠ gb124))) (fun _ hk => hk.2) (.int .i64 t117)) (fun _ hk => hk.2) (.int .i64 t118)) (fun _ hk => hk.2) (.string t119)) (fun _ hk => hk.2) (.int .i64 t120)) (fun _ hk => hk.2) (.int .i64 t121)) (fun _ hk => hk.1.2)))⟩; have n1_ : Aside0 (w17.heap[gb124]? = some (.cells #[.int .i64 t117, .int .i64 t118, .string t119, .int .i64 t120, .int .i64 t121] 32 (0, 0))) := ⟨(by rw [hw]; exact (by (with_reducible repeat (first | refine blk_drewN ?_ _ | refine blk_drew ?_ | refine blk_alloc ?_ _)); refine blk_put (cs := #[.int .i64 t117, .int .i64 t118, .string t119, .int .i64 t120, .int .i64 0]) ?_ 4 _ rfl; (with_reducible repeat (first | refine blk_drewN ?_ _ | refine blk_drew ?_ | refine blk_alloc ?_ _)); refine blk_put (cs := #[.int .i64 t117, .int .i64 t118, .string t119, .int .i64 0, .int .i64 0]) ?_ 3 _ rfl; (with_reducible repeat (first | refine blk_drewN ?_ _ | refine blk_drew ?_ | refine blk_alloc ?_ _)); refine blk_put (cs := #[.int .i64 t117, .int .i64 t118, .string (⟨#[]⟩ : ByteArray), .int .i64 0, .int .i64 0]) ?_ 2 _ rfl; (with_reducible repeat (first | refine blk_drewN ?_ _ | refine blk_drew ?_ | refine blk_alloc ?_ _)); refine blk_put (cs := #[.int .i64 t117, .int .i64 0, .string (⟨#[]⟩ : ByteArray), .int .i64 0, .int .i64 0]) ?_ 1 _ rfl; (with_reducible repeat (first | refine blk_drewN ?_ _ | refine blk_drew ?_ | refine blk_alloc ?_ _)); refine blk_put (cs := #[.int .i64 0, .int .i64 0, .string (⟨#[]⟩ : ByteArray), .int .i64 0, .int .i64 0]) ?_ 0 _ rfl; (with_reducible repeat (first | refine blk_drewN ?_ _ | refine blk_drew ?_ | refine blk_alloc ?_ _)); exact BK124.out))⟩; have n2_ : Aside0 (Below w.heap.size w w17) := ⟨(by rw [hw]; exact (by repeat (first | (with_reducible first | exact HB.out | apply below_alloc | apply pw_below_drewN | apply below_drew1 | refine below_set ?_ GE124.out) | exact HB.out)))⟩; clear hw; clear HO_5; clear BK124; clear HB; have HO_5 := n0_; have BK124 := n1_; have HB := n2_; clear n0_ n1_ n2_; have hcz18_0 : w17.cell? ⟨gb124, 0, none⟩ = some (.int .i64 t117) := (blk_cell BK124.out 0).trans rfl; have hcz18_1 : w17.cell? ⟨gb124, 1, none⟩ = some (.int .i64 t118) := (blk_cell BK124.out 1).trans rfl; have hcz18_2 : w17.cell? ⟨gb124, 2, none⟩ = some (.string t119) := (blk_cell BK124.out 2).trans rfl; have hcz18_3 : w17.cell? ⟨gb124, 3, none⟩ = some (.int .i64 t120) := (blk_cell BK124.out 3).trans rfl; have hcz18_4 : w17.cell? ⟨gb124, 4, none⟩ = some (.int .i64 t121) := (blk_cell BK124.out 4).trans rfl; have hfz18_0 := blk_frozen BK124.out 0; have hfz18_1 := blk_frozen BK124.out 1; have hfz18_2 := blk_frozen BK124.out 2; have hfz18_3 := blk_frozen BK124.out 3; have hfz18_4 := blk_frozen BK124.out 4) | ((with_reducible refine gate_store (t := 3) (p := 35) rfl ?_); refine store_event (t := 3) (p := 35) (v := ?vo_w19) (w1 := (w17.setCell ⟨gb124, 3, none⟩ (.int .i64 x6_1))) ?hg ?ho ?hn ?hr ?_; (case ho => rfl); (case hg => rfl); (case hn => rfl); (case hr => first | (go_simp; done) | (go_simp; rfl)); intro w19 hw; have n0_ : Aside0 (Kd.R k32 32 w19 w.heap.size (fun k_ => k_ ≠ gb124) u5 x5_1) := ⟨(by rw [hw]; exact (by (with_reducible repeat (first | apply Kd.R_alloc | apply Kd.R_drewN | apply Kd.R_drew)); exact Kd.R_mono (Kd.R_far (p := ⟨gb124, 3, none⟩) (Kd.R_mono HO_5.out (fun k_ hk => (⟨hk, hk⟩ : _ ∧ k_ ≠ gb124))) (fun _ hk => hk.2) (.int .i64 x6_1)) (fun _ hk => hk.1)))⟩; have n1_ : Aside0 (w19.heap[gb124]? = some (.cells #[.int .i64 t117, .int .i64 t118, .string t119, .int .i64 x6_1, .int .i64 t121] 32 (0, 0))) := ⟨(by rw [hw]; exact (by (with_reducible repeat (first | refine blk_drewN ?_ _ | refine blk_drew ?_ | refine blk_alloc ?_ _)); refine blk_put (cs := #[.int .i64 t117, .int .i64 t118, .string t119, .int .i64 t120, .int .i64 t121]) ?_ 3 _ rfl; (with_reducible repeat (first | refine blk_drewN ?_ _ | refine blk_drew ?_ | refine blk_alloc ?_ _)); exact BK124.out))⟩; have n2_ : Aside0 (Below w.heap.size w w19) := ⟨(by rw [hw]; exact (by repeat (first | (with_reducible first | exact HB.out | apply below_alloc | apply pw_below_drewN | apply below_drew1 | refine below_set ?_ GE124.out) | exact HB.out)))⟩; clear hw; clear HO_5; clear BK124; clear HB; have HO_5 := n0_; have BK124 := n1_; have HB := n2_; clear n0_ n1_ n2_; have hcz20_0 : w19.cell? ⟨gb124, 0, none⟩ = some (.int .i64 t117) := (blk_cell BK124.out 0).trans rfl; have hcz20_1 : w19.cell? ⟨gb124, 1, none⟩ = some (.int .i64 t118) := (blk_cell BK124.out 1).trans rfl; have hcz20_2 : w19.cell? ⟨gb124, 2, none⟩ = some (.string t119) := (blk_cell BK124.out 2).trans rfl; have hcz20_3 : w19.cell? ⟨gb124, 3, none⟩ = some (.int .i64 x6_1) := (blk_cell BK124.out 3).trans rfl; have hcz20_4 : w19.cell? ⟨gb124, 4, none⟩ = some (.int .i64 t121) := (blk_cell BK124.out 4).trans rfl; have hfz20_0 := blk_frozen BK124.out 0; have hfz20_1 := blk_frozen BK124.out 1; have hfz20_2 := blk_frozen BK124.out 2; have hfz20_3 := blk_frozen BK124.out 3; have hfz20_4 := blk_frozen BK124.out 4) | ((with_reducible refine gate_builtin (b := .append) (xs := #[.tmp 37, .tmp 39]) rfl ?_); at_builtin; refine Kd.R_append k32 (w0 := w) w.heap.size rfl (.tmp 37) (.tmp 39) 23 32 (.agg #[(.int .i64 0), (.int .i64 0), (.string ⟨#[]⟩), (.int .i64 0), (.int .i64 0)]) 48 rfl Try.underlying23 info32 rfl (by decide) (by omega) u5 x5_1 (⟨t117, t118, t119, x6_1, ji10⟩ : S32) [.int .i64 t117, .int .i64 t118, .string t119, .int .i64 x6_1, .int .i64 ji10] (fun k_ => k_ ≠ gb124) (fun _ => False) rfl (by first | (go_simp; done) | (go_simp; rfl)) ?aP (fun _ hk => hk.elim) ?aF ?aO ?aB ?aS ?aL ?_; (case aP => exact k32_mkM _ _ _ (⟨t117, t118, t119, x6_1, ji10⟩ : S32)); (case aB => exact (by repeat (first | (with_reducible first | exact HB.out | apply below_alloc | apply pw_below_drewN | apply below_drew1 | refine below_set ?_ GE124.out) | exact HB.out))); (case aF => exact (fun k_ hk => Kd.freshB (g := gb124) (o := .cells #[.int .i64 t117, .int .i64 t118, .string t119, .int .i64 x6_1, .int .i64 ji10] 32 (0, 0)) (by (with_reducible repeat (first | refine blk_drewN ?_ _ | refine blk_drew ?_ | refine blk_alloc ?_ _)); refine blk_put (cs := #[.int .i64 t117, .int .i64 t118, .string t119, .int .i64 x6_1, .int .i64 t121]) ?_ 4 _ rfl; (with_reducible repeat (first | refine blk_drewN ?_ _ | refine blk_drew ?_ | refine blk_alloc ?_ _)); exact BK124.out) k_ hk)); (case aO => exact (by (with_reducible repeat (first | apply Kd.R_alloc | apply Kd.R_drewN | apply Kd.R_drew)); exact Kd.R_mono (Kd.R_far (p := ⟨gb124, 4, none⟩) (Kd.R_mono HO_5.out (fun k_ hk => (⟨hk, hk⟩ : _ ∧ k_ ≠ gb124))) (fun _ hk => hk.2) (.int .i64 ji10)) (fun _ hk => hk.1))); (case aS => exact (below_size (by repeat (first | (with_reducible first | exact HB.out | apply below_alloc | apply pw_below_drewN | apply below_drew1 | refine below_set ?_ GE124.out) | exact HB.out)))); (case aL => have := LMc9.out; omega); intro v126 w21 ho hb hg hat; rw [← Ny125.out] at ho; have n0_ := Aside0.mk (blk_grown (g := gb124) (o := .cells #[.int .i64 t117, .int .i64 t118, .string t119, .int .i64 x6_1, .int .i64 ji10] 32 (0, 0)) (by (with_reducible repeat (first | refine blk_drewN ?_ _ | refine blk_drew ?_ | refine blk_alloc ?_ _)); refine blk_put (cs := #[.int .i64 t117, .int .i64 t118, .string t119, .int .i64 x6_1, .int .i64 t121]) ?_ 4 _ rfl; (with_reducible repeat (first | refine blk_drewN ?_ _ | refine blk_drew ?_ | refine blk_alloc ?_ _)); exact BK124.out) hg (Kd.R_away HO_5.out (fun _ hk => hk))); have n1_ := Aside0.mk (hb); have n2_ := Aside0.mk (ho); clear BK124; clear HB; clear HO_5; have BK124 := n0_; have HB := n1_; have HO127 := n2_; clear n0_ n1_ n2_; clear ho hb hg hat) | ((with_reducible refine gate_callee (f := 17) rfl ?_); refine goesL_ (some 48) rfl rfl Try.func17 (by kernel_rfl) rfl #[.string (a0.extract ((ji10) : Int).toNat a0.size)] rfl (by (try simp only [List.map_toArray, List.map_cons, List.map_nil]); first | done | (simp only [hji10]; rfl) | rfl | (simp only [List.length_drop, List.length_take]; rfl)) ?_; (with_reducible refine (scan_gap.calls k1 (a0.extract ((ji10) : Int).toNat a0.size) t128 _ A13.out).mono ?_); rintro e w' ⟨rfl, ⟨nd, rfl⟩⟩; refine ⟨_, rfl, ?_⟩))
                      go_roundg k1
                      case measure => have := HK1.out; omega
                      case rel => exact ⟨(y125), (wrap64 ((ji10) + t128)), (by first | rfl | (simp; done) | (simp only [← hji10] <;> (first | rfl | simp)) | (simp [*]; done)), H', ⟨by have := HK1.out; omega⟩, ⟨by (with_reducible repeat (first | apply Kd.R_alloc | apply Kd.R_drewN | apply Kd.R_drew)); exact Kd.R_mono HO127.out (fun _ hk => trivial)⟩, ⟨by repeat (first | (with_reducible first | exact HB.out | apply below_alloc | apply pw_below_drewN | apply below_drew1 | refine below_set ?_ GE124.out) | exact HB.out)⟩⟩
                    · rw [if_neg c12] at H
                      exact absurd H (by simp)
                  · rw [if_neg c11] at H
                    exact absurd H (by simp)
                · rw [if_neg c9] at H
                  exact absurd H (by simp)
              · rw [if_neg c8] at H
                have c8b0 : (t123 == 0) = false := beq_eq_false_iff_ne.mpr c8
                have c8b1 : (t123 != 0) = true := bne_iff_ne.mpr c8
                simp only [Option.some.injEq, Prod.mk.injEq] at H
                obtain ⟨rfl, rfl, rfl⟩ := H
                go_wp2_with (first | ((with_reducible refine gate_callee (f := 18) rfl ?_); refine goesL_ (some 23) rfl rfl Try.func18 (by kernel_rfl) rfl #[.string (a0.extract (x6_1 : Int).toNat a0.size)] rfl (by (try simp only [List.map_toArray, List.map_cons, List.map_nil]); first | done | rfl | (simp only [List.length_drop, List.length_take]; rfl)) ?_; (with_reducible refine (scan_one.calls k1 (a0.extract (x6_1 : Int).toNat a0.size) t117 t118 t119 t120 t121 t122 t123 _ ?side1 A7.out).mono ?_); (case side1 => (first | exact hG | ((repeat (first | exact hG | apply GW.drewN | apply GW.drew | apply GW.alloc)); done) | exact GW.below hG (by repeat (first | (with_reducible first | exact HB.out | apply below_alloc | apply pw_below_drewN | apply below_drew1) | exact HB.out)))); rintro e w22 ⟨rfl, hb⟩; refine ⟨_, rfl, ?_⟩; have n0_ := Aside0.mk (Kd.R_below (by (with_reducible repeat (first | apply Kd.R_alloc | apply Kd.R_drewN | apply Kd.R_drew)); exact HO_5.out) hb); have n1_ := Aside0.mk (below_step (by repeat (first | (with_reducible first | exact HB.out | apply below_alloc | apply pw_below_drewN | apply below_drew1) | exact HB.out)) hb); clear HO_5; clear HB; have HO_5 := n0_; have HB := n1_; clear n0_ n1_; (try clear hb); (try clear hb2); (try clear hk); (try clear hi)) | ((with_reducible refine gate_dst (N := 7) rfl ?_); refine box_event ?hg (N := 7) ?hd (cs := #[.int .i64 0, .int .i64 0, .string (⟨#[]⟩ : ByteArray), .int .i64 0, .int .i64 0]) (t := 32) ?hr ?_; (case hd => rfl); (case hg => rfl); (case hr => first | (go_simp; done) | (go_simp; rfl)); intro gb124 hg w23 hbox hb; have n0_ := Aside0.mk (Kd.R_below (Kd.R_elderB (by (with_reducible repeat (first | apply Kd.R_alloc | apply Kd.R_drewN | apply Kd.R_drew)); exact HO_5.out) gb124 (Nat.le_of_eq hg.symm)) hb); have n1_ := Aside0.mk (below_step (by repeat (first | (with_reducible first | exact HB.out | apply below_alloc | apply pw_below_drewN | apply below_drew1) | exact HB.out)) hb); have n2_ := Aside0.mk (hbox); have n3_ := Aside0.mk ((by rw [hg]; exact (below_size (by repeat (first | (with_reducible first | exact HB.out | apply below_alloc | apply pw_below_drewN | apply below_drew1) | exact HB.out))) : w.heap.size ≤ gb124)); have n4_ := Aside0.mk ((by rw [hg]; exact (below_size (by repeat (first | (with_reducible first | exact HB.out | apply below_alloc | apply pw_below_drewN | apply below_drew1) | exact HB.out))) : w.heap.size ≤ gb124)); clear HO_5; clear HB; have HO_5 := n0_; have HB := n1_; have BK124 := n2_; have GW124 := n3_; have GE124 := n4_; clear n0_ n1_ n2_ n3_ n4_; clear hb hbox hg; have hcz24_0 : w23.cell? ⟨gb124, 0, none⟩ = some (.int .i64 0) := (blk_cell BK124.out 0).trans rfl; have hcz24_1 : w23.cell? ⟨gb124, 1, none⟩ = some (.int .i64 0) := (blk_cell BK124.out 1).trans rfl; have hcz24_2 : w23.cell? ⟨gb124, 2, none⟩ = some (.string (⟨#[]⟩ : ByteArray)) := (blk_cell BK124.out 2).trans rfl; have hcz24_3 : w23.cell? ⟨gb124, 3, none⟩ = some (.int .i64 0) := (blk_cell BK124.out 3).trans rfl; have hcz24_4 : w23.cell? ⟨gb124, 4, none⟩ = some (.int .i64 0) := (blk_cell BK124.out 4).trans rfl; have hfz24_0 := blk_frozen BK124.out 0; have hfz24_1 := blk_frozen BK124.out 1; have hfz24_2 := blk_frozen BK124.out 2; have hfz24_3 := blk_frozen BK124.out 3; have hfz24_4 := blk_frozen BK124.out 4))
                go_ret3
                exact ⟨_, by first | rfl | (simp [errW_none, errW_some] <;> rfl) | (simp [*, errW_none, errW_some] <;> rfl), by first | exact Kd.R_nil _ _ _ _ _ | exact Kd.N_nil _ _ _ _ _ | exact Kd.V_nil _ _ _ _ _ | exact Kd.Q_nil _ _ _ _ _ | exact Kd.S_nil _ _ _ _ _, by repeat (first | (with_reducible first | exact HB.out | apply below_alloc | apply pw_below_drewN | apply below_drew1 | refine below_set ?_ GE124.out) | exact HB.out)⟩
            · rw [if_neg c6] at H
              exact absurd H (by simp)
          · rw [if_neg c5] at H
            exact absurd H (by simp)
        · rw [if_neg c4] at H
          have c4b0 : decide (x6_1 < (a0.size : Int)) = false := decide_eq_false c4
          clear c4
          by_cases c25 : x5_1.length < 2932031007402
          · rw [if_pos c25] at H
            have LMc25 := Aside0.mk c25
            clear c25
            obtain ⟨y114, hy114⟩ : ∃ y_ : List (S32), y_ = (x5_1 ++ [(⟨0, 0, (⟨#[]⟩ : ByteArray), (a0.size : Int), (a0.size : Int)⟩ : S32)]) := ⟨_, rfl⟩
            replace H : (some (y114, 0, 0)) = some (r1, r2, r3) := by first | (rw [hy114]; with_reducible exact H) | (have H2_ := (Option.bind_some _ _).symm.trans H; rw [hy114]; with_reducible exact H2_) | (have H2_ := (Option.bind_some _ _).symm.trans H; with_reducible exact H2_) | with_reducible exact H | (rw [hy114]; exact H) | exact H
            have Ny114 := Aside0.mk hy114
            clear hy114
            simp only [Option.some.injEq, Prod.mk.injEq] at H
            obtain ⟨rfl, rfl, rfl⟩ := H
            go_wp2_with (first | ((with_reducible refine gate_builtin (b := .append) (xs := #[.tmp 50, .tmp 56]) rfl ?_); at_builtin; refine Kd.R_append k32 (w0 := w) w.heap.size rfl (.tmp 50) (.tmp 56) 23 32 (.agg #[(.int .i64 0), (.int .i64 0), (.string ⟨#[]⟩), (.int .i64 0), (.int .i64 0)]) 48 rfl Try.underlying23 info32 rfl (by decide) (by omega) u5 x5_1 (⟨0, 0, (⟨#[]⟩ : ByteArray), (a0.size : Int), (a0.size : Int)⟩ : S32) [.int .i64 0, .int .i64 0, .string (⟨#[]⟩ : ByteArray), .int .i64 (a0.size : Int), .int .i64 (a0.size : Int)] (fun _ => True) (fun _ => False) rfl rfl ?aP (fun _ hk => hk.elim) ?aF ?aO ?aB ?aS ?aL ?_; (case aP => exact k32_mkM _ _ _ (⟨0, 0, (⟨#[]⟩ : ByteArray), (a0.size : Int), (a0.size : Int)⟩ : S32)); (case aB => exact (by repeat (first | (with_reducible first | exact HB.out | apply below_alloc | apply pw_below_drewN | apply below_drew1) | exact HB.out))); (case aF => exact (fun _ _ => trivial)); (case aO => exact (by (with_reducible repeat (first | apply Kd.R_alloc | apply Kd.R_drewN | apply Kd.R_drew)); exact HO_5.out)); (case aS => exact (below_size (by repeat (first | (with_reducible first | exact HB.out | apply below_alloc | apply pw_below_drewN | apply below_drew1) | exact HB.out)))); (case aL => have := LMc25.out; omega); intro v115 w26 ho hb hg hat; rw [← Ny114.out] at ho; have n0_ := Aside0.mk (hb); have n1_ := Aside0.mk (ho); clear HB; clear HO_5; have HB := n0_; have HO116 := n1_; clear n0_ n1_; clear ho hb hg hat))
            go_ret3
            exact ⟨_, by first | rfl | (simp [errW_none, errW_some] <;> rfl) | (simp [*, errW_none, errW_some] <;> rfl), by (with_reducible repeat (first | apply Kd.R_alloc | apply Kd.R_drewN | apply Kd.R_drew)); exact HO116.out, by repeat (first | (with_reducible first | exact HB.out | apply below_alloc | apply pw_below_drewN | apply below_drew1) | exact HB.out)⟩
          · rw [if_neg c25] at H
            exact absurd H (by simp)

end Go.Proofs.Ytfkikmiajldojaa.S
