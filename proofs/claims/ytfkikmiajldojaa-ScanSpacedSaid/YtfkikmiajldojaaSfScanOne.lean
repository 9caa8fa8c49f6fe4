-- printed by wip/tools/myprint.py of this repo out of the translation (over the kit's print.py, with contracts from outside). Not trusted: Lean checks it.
import Derived.Test.YtfkikmiajldojaaSx0
import Derived.Test.YtfkikmiajldojaaSfScanLetter
import Derived.Test.YtfkikmiajldojaaSfScanDigit
import Derived.Test.YtfkikmiajldojaaSfScanNumber
import Derived.Test.YtfkikmiajldojaaGw
import Derived.Test.YtfkikmiajldojaaScanA
import Derived.Test.YtfkikmiajldojaaStrings
namespace Go.Proofs.Ytfkikmiajldojaa.S
open Go.RowKit Go.Proofs.YtfkikmiajldojaaW.PrintWords Go.Proofs.YtfkikmiajldojaaW.PrintLast Go.Proofs.YtfkikmiajldojaaW.PrintMore
attribute [local go_sem] max2_int min2_int max_two min_two max_three min_three max_four min_four   -- for this text's walks alone
set_option linter.unusedVariables false
set_option linter.unusedSimpArgs false

/-! ### scan_one: function 18 -/
def scan_one.j0 : Nat → ByteArray → Int → Bool → Option (Int × Int × ByteArray × Int × Int × Int × Int)
  | 0, _, _, _ => none
  | k + 1, x0, x5, x43 => if x43 = true then (if 0 ≤ 2 then (if 2 ≤ (x0.size : Int) then (some (3, 0, x0.extract 0 2, 0, 0, 2, 0)) else (none)) else (none)) else ((strings_IndexByte.f (⟨#[40, 41, 123, 125, 44, 58, 43, 45, 42, 36, 61, 60, 62]⟩ : ByteArray) x5).bind fun t112 => (if t112 ≥ 0 then (if 0 ≤ 1 then (if 1 ≤ (x0.size : Int) then (some (3, 0, x0.extract 0 1, 0, 0, 1, 0)) else (none)) else (none)) else (some (0, 0, (⟨#[]⟩ : ByteArray), 0, 0, 0, 40))))
def scan_one.f (k : Nat) (a0 : ByteArray) : Option (Int × Int × ByteArray × Int × Int × Int × Int) := if 0 < (a0.size : Int) then ((scan_letter.f (bt a0 0)).bind fun t105 => (if t105 = true then ((scan_run_inner.f a0).bind fun t106 => (if t106 > 32 then (some (0, 0, (⟨#[]⟩ : ByteArray), 0, 0, 0, 2)) else (if 0 ≤ t106 then (if t106 ≤ (a0.size : Int) then (some (1, 0, a0.extract 0 (t106 : Int).toNat, 0, 0, t106, 0)) else (none)) else (none)))) else ((scan_digit.f (bt a0 0)).bind fun t107 => (if t107 = true then ((scan_run_digit.f a0).bind fun t108 => (if 0 ≤ t108 then (if t108 ≤ (a0.size : Int) then ((scan_number.f k (a0.extract 0 (t108 : Int).toNat)).bind fun bt109 => (if bt109.2 = true then (some (2, bt109.1, (⟨#[]⟩ : ByteArray), 0, 0, t108, 0)) else (some (0, 0, (⟨#[]⟩ : ByteArray), 0, 0, 0, 30)))) else (none)) else (none))) else (if (a0.size : Int) > 1 then (if 1 < (a0.size : Int) then (if (bt a0 1) = 61 then (if 0 ≤ 2 then (if 2 ≤ (a0.size : Int) then (if 1 + (a0.extract 0 2).size ≤ 9223372036854775807 then (if ((⟨#[32]⟩ : ByteArray) ++ (a0.extract 0 2)).size + 1 ≤ 9223372036854775807 then ((strings_Contains.f (⟨#[32, 60, 61, 32, 62, 61, 32, 61, 61, 32, 33, 61, 32]⟩ : ByteArray) (((⟨#[32]⟩ : ByteArray) ++ (a0.extract 0 2)) ++ (⟨#[32]⟩ : ByteArray))).bind fun t111 => (scan_one.j0 k a0 (bt a0 0) t111)) else (none)) else (none)) else (none)) else (none)) else (scan_one.j0 k a0 (bt a0 0) false)) else (none)) else (scan_one.j0 k a0 (bt a0 0) false)))))) else (none)
theorem scan_one.mono_l : ∀ k, (∀ y0 y1 y2, LeO (scan_one.j0 k y0 y1 y2) (scan_one.j0 (k + 1) y0 y1 y2))
  | 0 => fun _ _ _ r h => by simp [scan_one.j0] at h
  | k + 1 => by
    have ih0 := scan_one.mono_l k
    · intro y0 y1 y2
      unfold scan_one.j0
      repeat' first
      | (with_reducible exact ih0 _ _ _)
      | (with_reducible exact scan_number.mono _ _)
      | (with_reducible exact LeO.refl _)
      | (with_reducible exact LeO.none _)
      | (with_reducible refine LeO.ite ?_ ?_)
      | (with_reducible refine LeO.bind ?_ (fun _ => ?_))
      | exact ih0 _ _ _
      | exact scan_number.mono _ _
      | exact LeO.none _
      | refine LeO.ite ?_ ?_
      | refine LeO.bind ?_ (fun _ => ?_)
theorem scan_one.mono : ∀ a0 k, LeO (scan_one.f k a0) (scan_one.f (k + 1) a0) := by
  intro a0 k
  have ih0 := scan_one.mono_l k
  unfold scan_one.f
  repeat' first
      | (with_reducible exact ih0 _ _ _)
      | (with_reducible exact scan_number.mono _ _)
      | (with_reducible exact LeO.refl _)
      | (with_reducible exact LeO.none _)
      | (with_reducible refine LeO.ite ?_ ?_)
      | (with_reducible refine LeO.bind ?_ (fun _ => ?_))
      | exact ih0 _ _ _
      | exact scan_number.mono _ _
      | exact LeO.none _
      | refine LeO.ite ?_ ?_
      | refine LeO.bind ?_ (fun _ => ?_)
set_option maxHeartbeats 8000000 in
set_option maxRecDepth 100000 in
theorem scan_one.calls (k : Nat) (a0 : ByteArray) (r1 : Int) (r2 : Int) (r3 : ByteArray) (r4 : Int) (r5 : Int) (r6 : Int) (r7 : Int) (w : World) (hG : GW w) (h : scan_one.f k a0 = some (r1, r2, r3, r4, r5, r6, r7)) :
    Calls Try.prog 18 #[.string a0] w fun e w' => e = .returned (.tuple #[.agg #[.int .i64 r1, .int .i64 r2, .string r3, .int .i64 r4, .int .i64 r5], .int .i64 r6, .int .i64 r7]) ∧ Below w.heap.size w w' := by
  have hu32 := Try.underlying32
  have HB := Aside0.mk (Below.refl w.heap.size w)
  have H : (if 0 < (a0.size : Int) then ((scan_letter.f (bt a0 0)).bind fun t105 => (if t105 = true then ((scan_run_inner.f a0).bind fun t106 => (if t106 > 32 then (some (0, 0, (⟨#[]⟩ : ByteArray), 0, 0, 0, 2)) else (if 0 ≤ t106 then (if t106 ≤ (a0.size : Int) then (some (1, 0, a0.extract 0 (t106 : Int).toNat, 0, 0, t106, 0)) else (none)) else (none)))) else ((scan_digit.f (bt a0 0)).bind fun t107 => (if t107 = true then ((scan_run_digit.f a0).bind fun t108 => (if 0 ≤ t108 then (if t108 ≤ (a0.size : Int) then ((scan_number.f k (a0.extract 0 (t108 : Int).toNat)).bind fun bt109 => (if bt109.2 = true then (some (2, bt109.1, (⟨#[]⟩ : ByteArray), 0, 0, t108, 0)) else (some (0, 0, (⟨#[]⟩ : ByteArray), 0, 0, 0, 30)))) else (none)) else (none))) else (if (a0.size : Int) > 1 then (if 1 < (a0.size : Int) then (if (bt a0 1) = 61 then (if 0 ≤ 2 then (if 2 ≤ (a0.size : Int) then (if 1 + (a0.extract 0 2).size ≤ 9223372036854775807 then (if ((⟨#[32]⟩ : ByteArray) ++ (a0.extract 0 2)).size + 1 ≤ 9223372036854775807 then ((strings_Contains.f (⟨#[32, 60, 61, 32, 62, 61, 32, 61, 61, 32, 33, 61, 32]⟩ : ByteArray) (((⟨#[32]⟩ : ByteArray) ++ (a0.extract 0 2)) ++ (⟨#[32]⟩ : ByteArray))).bind fun t111 => (scan_one.j0 k a0 (bt a0 0) t111)) else (none)) else (none)) else (none)) else (none)) else (scan_one.j0 k a0 (bt a0 0) false)) else (none)) else (scan_one.j0 k a0 (bt a0 0) false)))))) else (none)) = some (r1, r2, r3, r4, r5, r6, r7) := h
  clear h
  by_cases c2 : 0 < (a0.size : Int)
  · rw [if_pos c2] at H
    have c2b0 : decide (0 < (a0.size : Int)) = true := decide_eq_true c2
    have c2b1 : decide (0 < a0.size) = true := decide_eq_true (by omega)
    clear c2
    replace H := Option.bind_eq_some_iff.mp H
    obtain ⟨t105, A40, H⟩ := H
    replace H : (if t105 = true then ((scan_run_inner.f a0).bind fun t106 => (if t106 > 32 then (some (0, 0, (⟨#[]⟩ : ByteArray), 0, 0, 0, 2)) else (if 0 ≤ t106 then (if t106 ≤ (a0.size : Int) then (some (1, 0, a0.extract 0 (t106 : Int).toNat, 0, 0, t106, 0)) else (none)) else (none)))) else ((scan_digit.f (bt a0 0)).bind fun t107 => (if t107 = true then ((scan_run_digit.f a0).bind fun t108 => (if 0 ≤ t108 then (if t108 ≤ (a0.size : Int) then ((scan_number.f k (a0.extract 0 (t108 : Int).toNat)).bind fun bt109 => (if bt109.2 = true then (some (2, bt109.1, (⟨#[]⟩ : ByteArray), 0, 0, t108, 0)) else (some (0, 0, (⟨#[]⟩ : ByteArray), 0, 0, 0, 30)))) else (none)) else (none))) else (if (a0.size : Int) > 1 then (if 1 < (a0.size : Int) then (if (bt a0 1) = 61 then (if 0 ≤ 2 then (if 2 ≤ (a0.size : Int) then (if 1 + (a0.extract 0 2).size ≤ 9223372036854775807 then (if ((⟨#[32]⟩ : ByteArray) ++ (a0.extract 0 2)).size + 1 ≤ 9223372036854775807 then ((strings_Contains.f (⟨#[32, 60, 61, 32, 62, 61, 32, 61, 61, 32, 33, 61, 32]⟩ : ByteArray) (((⟨#[32]⟩ : ByteArray) ++ (a0.extract 0 2)) ++ (⟨#[32]⟩ : ByteArray))).bind fun t111 => (scan_one.j0 k a0 (bt a0 0) t111)) else (none)) else (none)) else (none)) else (none)) else (scan_one.j0 k a0 (bt a0 0) false)) else (none)) else (scan_one.j0 k a0 (bt a0 0) false))))) = some (r1, r2, r3, r4, r5, r6, r7) := H
    have A4 := Aside0.mk A40
    clear A40
    by_cases c5 : t105 = true
    · subst c5
      have H1 : ((scan_run_inner.f a0).bind fun t106 => (if t106 > 32 then (some (0, 0, (⟨#[]⟩ : ByteArray), 0, 0, 0, 2)) else (if 0 ≤ t106 then (if t106 ≤ (a0.size : Int) then (some (1, 0, a0.extract 0 (t106 : Int).toNat, 0, 0, t106, 0)) else (none)) else (none)))) = some (r1, r2, r3, r4, r5, r6, r7) := by rw [if_pos rfl] at H; exact H
      clear H
      have H := H1
      clear H1
      replace H := Option.bind_eq_some_iff.mp H
      obtain ⟨t106, A60, H⟩ := H
      replace H : (if t106 > 32 then (some (0, 0, (⟨#[]⟩ : ByteArray), 0, 0, 0, 2)) else (if 0 ≤ t106 then (if t106 ≤ (a0.size : Int) then (some (1, 0, a0.extract 0 (t106 : Int).toNat, 0, 0, t106, 0)) else (none)) else (none))) = some (r1, r2, r3, r4, r5, r6, r7) := H
      have A6 := Aside0.mk A60
      clear A60
      by_cases c7 : t106 > 32
      · rw [if_pos c7] at H
        have c7b0 : decide (32 < t106) = true := decide_eq_true c7
        clear c7
        simp only [Option.some.injEq, Prod.mk.injEq] at H
        obtain ⟨rfl, rfl, rfl, rfl, rfl, rfl, rfl⟩ := H
        go_enter Try.func18, Try.ntmps18
        go_wp2_with (first | ((with_reducible refine gate_dst (N := 2) rfl ?_); refine box_event ?hg (N := 2) ?hd (cs := #[.int .i64 0, .int .i64 0, .string (⟨#[]⟩ : ByteArray), .int .i64 0, .int .i64 0]) (t := 32) ?hr ?_; (case hd => rfl); (case hg => rfl); (case hr => first | (go_simp; done) | (go_simp; rfl)); intro gb104 hg w8 hbox hb; have n0_ := Aside0.mk (below_step (by repeat (first | (with_reducible first | exact HB.out | apply below_alloc | apply pw_below_drewN | apply below_drew1) | exact HB.out)) hb); have n1_ := Aside0.mk (hbox); have n2_ := Aside0.mk ((by rw [hg]; exact (below_size (by repeat (first | (with_reducible first | exact HB.out | apply below_alloc | apply pw_below_drewN | apply below_drew1) | exact HB.out))) : w.heap.size ≤ gb104)); have n3_ := Aside0.mk ((by rw [hg]; exact (below_size (by repeat (first | (with_reducible first | exact HB.out | apply below_alloc | apply pw_below_drewN | apply below_drew1) | exact HB.out))) : w.heap.size ≤ gb104)); clear HB; have HB := n0_; have BK104 := n1_; have GW104 := n2_; have GE104 := n3_; clear n0_ n1_ n2_ n3_; clear hb hbox hg; have p3 : 0 ≤ (0 : Int) := (by omega); have q3 : 0 < a0.size := (by have : (0 : Int) < (a0.size : Int) := of_decide_eq_true (by first | (with_reducible assumption) | assumption); omega); have hx3 : ∀ h : 0 < a0.size, ((a0[0]'h).toNat : Int) = bt a0 0 := bt_at a0 0; clear p3; have qi3 : (0 < (a0.size : Int)) = True := eq_true (of_decide_eq_true (by first | (with_reducible assumption) | assumption)); replace q3 := eq_true q3) | ((with_reducible refine gate_callee (f := 22) rfl ?_); refine goesL_ (some 14) rfl rfl Try.func22 (by kernel_rfl) rfl #[.int .u8 (bt a0 0)] rfl (by (try simp only [List.map_toArray, List.map_cons, List.map_nil]); first | done | rfl | (simp only [List.length_drop, List.length_take]; rfl)) ?_; (with_reducible refine (scan_letter.calls (bt a0 0) true _ A4.out).mono ?_); rintro e w' ⟨rfl, ⟨nd, rfl⟩⟩; refine ⟨_, rfl, ?_⟩; (try (rw [drewN_self w8]; generalize hq_ : World.drewN w8 _ = w8; have n0_ : Aside0 (w8.heap[gb104]? = some (.cells #[.int .i64 0, .int .i64 0, .string (⟨#[]⟩ : ByteArray), .int .i64 0, .int .i64 0] 32 (0, 0))) := ⟨by rw [← hq_]; exact (by (with_reducible repeat (first | refine blk_drewN ?_ _ | refine blk_drew ?_ | refine blk_alloc ?_ _)); exact BK104.out)⟩; have n1_ : Aside0 (Below w.heap.size w w8) := ⟨by rw [← hq_]; exact (by repeat (first | (with_reducible first | exact HB.out | apply below_alloc | apply pw_below_drewN | apply below_drew1 | refine below_set ?_ GE104.out) | exact HB.out))⟩; clear BK104 HB hq_; have BK104 := n0_; have HB := n1_; clear n0_ n1_))) | ((with_reducible refine gate_callee (f := 21) rfl ?_); refine goesL_ (some 16) rfl rfl Try.func21 (by kernel_rfl) rfl #[.string a0, .func (.func 25) #[] #[]] rfl (by (try simp only [List.map_toArray, List.map_cons, List.map_nil]); first | done | rfl | (simp only [List.length_drop, List.length_take]; rfl)) ?_; (with_reducible refine (scan_run_inner.calls a0 t106 _ A6.out).mono ?_); rintro e w' ⟨rfl, ⟨nd, rfl⟩⟩; refine ⟨_, rfl, ?_⟩; (try (rw [drewN_self w8]; generalize hq_ : World.drewN w8 _ = w8; have n0_ : Aside0 (w8.heap[gb104]? = some (.cells #[.int .i64 0, .int .i64 0, .string (⟨#[]⟩ : ByteArray), .int .i64 0, .int .i64 0] 32 (0, 0))) := ⟨by rw [← hq_]; exact (by (with_reducible repeat (first | refine blk_drewN ?_ _ | refine blk_drew ?_ | refine blk_alloc ?_ _)); exact BK104.out)⟩; have n1_ : Aside0 (Below w.heap.size w w8) := ⟨by rw [← hq_]; exact (by repeat (first | (with_reducible first | exact HB.out | apply below_alloc | apply pw_below_drewN | apply below_drew1 | refine below_set ?_ GE104.out) | exact HB.out))⟩; clear BK104 HB hq_; have BK104 := n0_; have HB := n1_; clear n0_ n1_)); have hcz9_0 : w8.cell? ⟨gb104, 0, none⟩ = some (.int .i64 0) := (blk_cell BK104.out 0).trans rfl; have hcz9_1 : w8.cell? ⟨gb104, 1, none⟩ = some (.int .i64 0) := (blk_cell BK104.out 1).trans rfl; have hcz9_2 : w8.cell? ⟨gb104, 2, none⟩ = some (.string (⟨#[]⟩ : ByteArray)) := (blk_cell BK104.out 2).trans rfl; have hcz9_3 : w8.cell? ⟨gb104, 3, none⟩ = some (.int .i64 0) := (blk_cell BK104.out 3).trans rfl; have hcz9_4 : w8.cell? ⟨gb104, 4, none⟩ = some (.int .i64 0) := (blk_cell BK104.out 4).trans rfl; have hfz9_0 := blk_frozen BK104.out 0; have hfz9_1 := blk_frozen BK104.out 1; have hfz9_2 := blk_frozen BK104.out 2; have hfz9_3 := blk_frozen BK104.out 3; have hfz9_4 := blk_frozen BK104.out 4))
        refine bodyPost_ret (results_ctt rfl _ _ gb104 32 #[.int .i64 0, .int .i64 0, .string (⟨#[]⟩ : ByteArray), .int .i64 0, .int .i64 0] (0, 0) _ rfl (by (with_reducible repeat (first | refine blk_drewN ?_ _ | refine blk_drew ?_ | refine blk_alloc ?_ _)); refine blk_put (cs := #[.int .i64 0, .int .i64 0, .string (⟨#[]⟩ : ByteArray), .int .i64 0, .int .i64 0]) ?_ 4 _ rfl; (with_reducible repeat (first | refine blk_drewN ?_ _ | refine blk_drew ?_ | refine blk_alloc ?_ _)); refine blk_put (cs := #[.int .i64 0, .int .i64 0, .string (⟨#[]⟩ : ByteArray), .int .i64 0, .int .i64 0]) ?_ 3 _ rfl; (with_reducible repeat (first | refine blk_drewN ?_ _ | refine blk_drew ?_ | refine blk_alloc ?_ _)); refine blk_put (cs := #[.int .i64 0, .int .i64 0, .string (⟨#[]⟩ : ByteArray), .int .i64 0, .int .i64 0]) ?_ 2 _ rfl; (with_reducible repeat (first | refine blk_drewN ?_ _ | refine blk_drew ?_ | refine blk_alloc ?_ _)); refine blk_put (cs := #[.int .i64 0, .int .i64 0, .string (⟨#[]⟩ : ByteArray), .int .i64 0, .int .i64 0]) ?_ 1 _ rfl; (with_reducible repeat (first | refine blk_drewN ?_ _ | refine blk_drew ?_ | refine blk_alloc ?_ _)); refine blk_put (cs := #[.int .i64 0, .int .i64 0, .string (⟨#[]⟩ : ByteArray), .int .i64 0, .int .i64 0]) ?_ 0 _ rfl; (with_reducible repeat (first | refine blk_drewN ?_ _ | refine blk_drew ?_ | refine blk_alloc ?_ _)); exact BK104.out) Try.underlying32 rfl (by kernel_rfl)) rfl ?_
        exact ⟨by first | rfl | (simp [errW_none, errW_some] <;> rfl) | (simp [*, errW_none, errW_some] <;> rfl), by repeat (first | (with_reducible first | exact HB.out | apply below_alloc | apply pw_below_drewN | apply below_drew1 | refine below_set ?_ GE104.out) | exact HB.out)⟩
      · rw [if_neg c7] at H
        have c7b0 : decide (32 < t106) = false := decide_eq_false c7
        clear c7
        by_cases c10 : 0 ≤ t106
        · rw [if_pos c10] at H
          have c10b0 := eq_true c10
          have c10b1 : decide (0 ≤ t106) = true := decide_eq_true c10
          clear c10
          by_cases c11 : t106 ≤ (a0.size : Int)
          · rw [if_pos c11] at H
            have c11b0 := eq_true c11
            have c11b1 : decide (t106 ≤ (a0.size : Int)) = true := decide_eq_true c11
            clear c11
            simp only [Option.some.injEq, Prod.mk.injEq] at H
            obtain ⟨rfl, rfl, rfl, rfl, rfl, rfl, rfl⟩ := H
            go_enter Try.func18, Try.ntmps18
            go_wp2_with (first | ((with_reducible refine gate_dst (N := 2) rfl ?_); refine box_event ?hg (N := 2) ?hd (cs := #[.int .i64 0, .int .i64 0, .string (⟨#[]⟩ : ByteArray), .int .i64 0, .int .i64 0]) (t := 32) ?hr ?_; (case hd => rfl); (case hg => rfl); (case hr => first | (go_simp; done) | (go_simp; rfl)); intro gb104 hg w12 hbox hb; have n0_ := Aside0.mk (below_step (by repeat (first | (with_reducible first | exact HB.out | apply below_alloc | apply pw_below_drewN | apply below_drew1) | exact HB.out)) hb); have n1_ := Aside0.mk (hbox); have n2_ := Aside0.mk ((by rw [hg]; exact (below_size (by repeat (first | (with_reducible first | exact HB.out | apply below_alloc | apply pw_below_drewN | apply below_drew1) | exact HB.out))) : w.heap.size ≤ gb104)); have n3_ := Aside0.mk ((by rw [hg]; exact (below_size (by repeat (first | (with_reducible first | exact HB.out | apply below_alloc | apply pw_below_drewN | apply below_drew1) | exact HB.out))) : w.heap.size ≤ gb104)); clear HB; have HB := n0_; have BK104 := n1_; have GW104 := n2_; have GE104 := n3_; clear n0_ n1_ n2_ n3_; clear hb hbox hg; have p3 : 0 ≤ (0 : Int) := (by omega); have q3 : 0 < a0.size := (by have : (0 : Int) < (a0.size : Int) := of_decide_eq_true (by first | (with_reducible assumption) | assumption); omega); have hx3 : ∀ h : 0 < a0.size, ((a0[0]'h).toNat : Int) = bt a0 0 := bt_at a0 0; clear p3; have qi3 : (0 < (a0.size : Int)) = True := eq_true (of_decide_eq_true (by first | (with_reducible assumption) | assumption)); replace q3 := eq_true q3) | ((with_reducible refine gate_callee (f := 22) rfl ?_); refine goesL_ (some 14) rfl rfl Try.func22 (by kernel_rfl) rfl #[.int .u8 (bt a0 0)] rfl (by (try simp only [List.map_toArray, List.map_cons, List.map_nil]); first | done | rfl | (simp only [List.length_drop, List.length_take]; rfl)) ?_; (with_reducible refine (scan_letter.calls (bt a0 0) true _ A4.out).mono ?_); rintro e w' ⟨rfl, ⟨nd, rfl⟩⟩; refine ⟨_, rfl, ?_⟩; (try (rw [drewN_self w12]; generalize hq_ : World.drewN w12 _ = w12; have n0_ : Aside0 (w12.heap[gb104]? = some (.cells #[.int .i64 0, .int .i64 0, .string (⟨#[]⟩ : ByteArray), .int .i64 0, .int .i64 0] 32 (0, 0))) := ⟨by rw [← hq_]; exact (by (with_reducible repeat (first | refine blk_drewN ?_ _ | refine blk_drew ?_ | refine blk_alloc ?_ _)); exact BK104.out)⟩; have n1_ : Aside0 (Below w.heap.size w w12) := ⟨by rw [← hq_]; exact (by repeat (first | (with_reducible first | exact HB.out | apply below_alloc | apply pw_below_drewN | apply below_drew1 | refine below_set ?_ GE104.out) | exact HB.out))⟩; clear BK104 HB hq_; have BK104 := n0_; have HB := n1_; clear n0_ n1_))) | ((with_reducible refine gate_callee (f := 21) rfl ?_); refine goesL_ (some 16) rfl rfl Try.func21 (by kernel_rfl) rfl #[.string a0, .func (.func 25) #[] #[]] rfl (by (try simp only [List.map_toArray, List.map_cons, List.map_nil]); first | done | rfl | (simp only [List.length_drop, List.length_take]; rfl)) ?_; (with_reducible refine (scan_run_inner.calls a0 t106 _ A6.out).mono ?_); rintro e w' ⟨rfl, ⟨nd, rfl⟩⟩; refine ⟨_, rfl, ?_⟩; (try (rw [drewN_self w12]; generalize hq_ : World.drewN w12 _ = w12; have n0_ : Aside0 (w12.heap[gb104]? = some (.cells #[.int .i64 0, .int .i64 0, .string (⟨#[]⟩ : ByteArray), .int .i64 0, .int .i64 0] 32 (0, 0))) := ⟨by rw [← hq_]; exact (by (with_reducible repeat (first | refine blk_drewN ?_ _ | refine blk_drew ?_ | refine blk_alloc ?_ _)); exact BK104.out)⟩; have n1_ : Aside0 (Below w.heap.size w w12) := ⟨by rw [← hq_]; exact (by repeat (first | (with_reducible first | exact HB.out | apply below_alloc | apply pw_below_drewN | apply below_drew1 | refine below_set ?_ GE104.out) | exact HB.out))⟩; clear BK104 HB hq_; have BK104 := n0_; have HB := n1_; clear n0_ n1_)); have hcz13_0 : w12.cell? ⟨gb104, 0, none⟩ = some (.int .i64 0) := (blk_cell BK104.out 0).trans rfl; have hcz13_1 : w12.cell? ⟨gb104, 1, none⟩ = some (.int .i64 0) := (blk_cell BK104.out 1).trans rfl; have hcz13_2 : w12.cell? ⟨gb104, 2, none⟩ = some (.string (⟨#[]⟩ : ByteArray)) := (blk_cell BK104.out 2).trans rfl; have hcz13_3 : w12.cell? ⟨gb104, 3, none⟩ = some (.int .i64 0) := (blk_cell BK104.out 3).trans rfl; have hcz13_4 : w12.cell? ⟨gb104, 4, none⟩ = some (.int .i64 0) := (blk_cell BK104.out 4).trans rfl; have hfz13_0 := blk_frozen BK104.out 0; have hfz13_1 := blk_frozen BK104.out 1; have hfz13_2 := blk_frozen BK104.out 2; have hfz13_3 := blk_frozen BK104.out 3; have hfz13_4 := blk_frozen BK104.out 4))
            refine bodyPost_ret (results_ctt rfl _ _ gb104 32 #[.int .i64 1, .int .i64 0, .string (a0.extract 0 (t106 : Int).toNat), .int .i64 0, .int .i64 0] (0, 0) _ rfl (by (with_reducible repeat (first | refine blk_drewN ?_ _ | refine blk_drew ?_ | refine blk_alloc ?_ _)); refine blk_put (cs := #[.int .i64 1, .int .i64 0, .string (a0.extract 0 (t106 : Int).toNat), .int .i64 0, .int .i64 0]) ?_ 4 _ rfl; (with_reducible repeat (first | refine blk_drewN ?_ _ | refine blk_drew ?_ | refine blk_alloc ?_ _)); refine blk_put (cs := #[.int .i64 1, .int .i64 0, .string (a0.extract 0 (t106 : Int).toNat), .int .i64 0, .int .i64 0]) ?_ 3 _ rfl; (with_reducible repeat (first | refine blk_drewN ?_ _ | refine blk_drew ?_ | refine blk_alloc ?_ _)); refine blk_put (cs := #[.int .i64 1, .int .i64 0, .string (⟨#[]⟩ : ByteArray), .int .i64 0, .int .i64 0]) ?_ 2 _ rfl; (with_reducible repeat (first | refine blk_drewN ?_ _ | refine blk_drew ?_ | refine blk_alloc ?_ _)); refine blk_put (cs := #[.int .i64 1, .int .i64 0, .string (⟨#[]⟩ : ByteArray), .int .i64 0, .int .i64 0]) ?_ 1 _ rfl; (with_reducible repeat (first | refine blk_drewN ?_ _ | refine blk_drew ?_ | refine blk_alloc ?_ _)); refine blk_put (cs := #[.int .i64 0, .int .i64 0, .string (⟨#[]⟩ : ByteArray), .int .i64 0, .int .i64 0]) ?_ 0 _ rfl; (with_reducible repeat (first | refine blk_drewN ?_ _ | refine blk_drew ?_ | refine blk_alloc ?_ _)); exact BK104.out) Try.underlying32 rfl (by kernel_rfl)) rfl ?_
            exact ⟨by first | rfl | (simp [errW_none, errW_some] <;> rfl) | (simp [*, errW_none, errW_some] <;> rfl), by repeat (first | (with_reducible first | exact HB.out | apply below_alloc | apply pw_below_drewN | apply below_drew1 | refine below_set ?_ GE104.out) | exact HB.out)⟩
          · rw [if_neg c11] at H
            exact absurd H (by simp)
        · rw [if_neg c10] at H
          exact absurd H (by simp)
    · replace c5 := Bool.eq_false_iff.mpr c5
      subst c5
      have H1 : ((scan_digit.f (bt a0 0)).bind fun t107 => (if t107 = true then ((scan_run_digit.f a0).bind fun t108 => (if 0 ≤ t108 then (if t108 ≤ (a0.size : Int) then ((scan_number.f k (a0.extract 0 (t108 : Int).toNat)).bind fun bt109 => (if bt109.2 = true then (some (2, bt109.1, (⟨#[]⟩ : ByteArray), 0, 0, t108, 0)) else (some (0, 0, (⟨#[]⟩ : ByteArray), 0, 0, 0, 30)))) else (none)) else (none))) else (if (a0.size : Int) > 1 then (if 1 < (a0.size : Int) then (if (bt a0 1) = 61 then (if 0 ≤ 2 then (if 2 ≤ (a0.size : Int) then (if 1 + (a0.extract 0 2).size ≤ 9223372036854775807 then (if ((⟨#[32]⟩ : ByteArray) ++ (a0.extract 0 2)).size + 1 ≤ 9223372036854775807 then ((strings_Contains.f (⟨#[32, 60, 61, 32, 62, 61, 32, 61, 61, 32, 33, 61, 32]⟩ : ByteArray) (((⟨#[32]⟩ : ByteArray) ++ (a0.extract 0 2)) ++ (⟨#[32]⟩ : ByteArray))).bind fun t111 => (scan_one.j0 k a0 (bt a0 0) t111)) else (none)) else (none)) else (none)) else (none)) else (scan_one.j0 k a0 (bt a0 0) false)) else (none)) else (scan_one.j0 k a0 (bt a0 0) false)))) = some (r1, r2, r3, r4, r5, r6, r7) := by rw [if_neg (show ¬ (false = true) by decide)] at H; exact H
      clear H
      have H := H1
      clear H1
      replace H := Option.bind_eq_some_iff.mp H
      obtain ⟨t107, A140, H⟩ := H
      replace H : (if t107 = true then ((scan_run_digit.f a0).bind fun t108 => (if 0 ≤ t108 then (if t108 ≤ (a0.size : Int) then ((scan_number.f k (a0.extract 0 (t108 : Int).toNat)).bind fun bt109 => (if bt109.2 = true then (some (2, bt109.1, (⟨#[]⟩ : ByteArray), 0, 0, t108, 0)) else (some (0, 0, (⟨#[]⟩ : ByteArray), 0, 0, 0, 30)))) else (none)) else (none))) else (if (a0.size : Int) > 1 then (if 1 < (a0.size : Int) then (if (bt a0 1) = 61 then (if 0 ≤ 2 then (if 2 ≤ (a0.size : Int) then (if 1 + (a0.extract 0 2).size ≤ 9223372036854775807 then (if ((⟨#[32]⟩ : ByteArray) ++ (a0.extract 0 2)).size + 1 ≤ 9223372036854775807 then ((strings_Contains.f (⟨#[32, 60, 61, 32, 62, 61, 32, 61, 61, 32, 33, 61, 32]⟩ : ByteArray) (((⟨#[32]⟩ : ByteArray) ++ (a0.extract 0 2)) ++ (⟨#[32]⟩ : ByteArray))).bind fun t111 => (scan_one.j0 k a0 (bt a0 0) t111)) else (none)) else (none)) else (none)) else (none)) else (scan_one.j0 k a0 (bt a0 0) false)) else (none)) else (scan_one.j0 k a0 (bt a0 0) false))) = some (r1, r2, r3, r4, r5, r6, r7) := H
      have A14 := Aside0.mk A140
      clear A140
      by_cases c15 : t107 = true
      · subst c15
        have H1 : ((scan_run_digit.f a0).bind fun t108 => (if 0 ≤ t108 then (if t108 ≤ (a0.size : Int) then ((scan_number.f k (a0.extract 0 (t108 : Int).toNat)).bind fun bt109 => (if bt109.2 = true then (some (2, bt109.1, (⟨#[]⟩ : ByteArray), 0, 0, t108, 0)) else (some (0, 0, (⟨#[]⟩ : ByteArray), 0, 0, 0, 30)))) else (none)) else (none))) = some (r1, r2, r3, r4, r5, r6, r7) := by rw [if_pos rfl] at H; exact H
        clear H
        have H := H1
        clear H1
        replace H := Option.bind_eq_some_iff.mp H
        obtain ⟨t108, A160, H⟩ := H
        replace H : (if 0 ≤ t108 then (if t108 ≤ (a0.size : Int) then ((scan_number.f k (a0.extract 0 (t108 : Int).toNat)).bind fun bt109 => (if bt109.2 = true then (some (2, bt109.1, (⟨#[]⟩ : ByteArray), 0, 0, t108, 0)) else (some (0, 0, (⟨#[]⟩ : ByteArray), 0, 0, 0, 30)))) else (none)) else (none)) = some (r1, r2, r3, r4, r5, r6, r7) := H
        have A16 := Aside0.mk A160
        clear A160
        by_cases c17 : 0 ≤ t108
        · rw [if_pos c17] at H
          have c17b0 := eq_true c17
          have c17b1 : decide (0 ≤ t108) = true := decide_eq_true c17
          clear c17
          by_cases c18 : t108 ≤ (a0.size : Int)
          · rw [if_pos c18] at H
            have c18b0 := eq_true c18
            have c18b1 : decide (t108 ≤ (a0.size : Int)) = true := decide_eq_true c18
            clear c18
            replace H := Option.bind_eq_some_iff.mp H
            obtain ⟨⟨t109, t110⟩, A190, H⟩ := H
            replace H : (if t110 = true then (some (2, t109, (⟨#[]⟩ : ByteArray), 0, 0, t108, 0)) else (some (0, 0, (⟨#[]⟩ : ByteArray), 0, 0, 0, 30))) = some (r1, r2, r3, r4, r5, r6, r7) := H
            have A19 := Aside0.mk A190
            clear A190
            by_cases c20 : t110 = true
            · subst c20
              have H1 : (some (2, t109, (⟨#[]⟩ : ByteArray), 0, 0, t108, 0)) = some (r1, r2, r3, r4, r5, r6, r7) := by rw [if_pos rfl] at H; exact H
              clear H
              have H := H1
              clear H1
              simp only [Option.some.injEq, Prod.mk.injEq] at H
              obtain ⟨rfl, rfl, rfl, rfl, rfl, rfl, rfl⟩ := H
              go_enter Try.func18, Try.ntmps18
              go_wp2_with (first | ((with_reducible refine gate_dst (N := 2) rfl ?_); refine box_event ?hg (N := 2) ?hd (cs := #[.int .i64 0, .int .i64 0, .string (⟨#[]⟩ : ByteArray), .int .i64 0, .int .i64 0]) (t := 32) ?hr ?_; (case hd => rfl); (case hg => rfl); (case hr => first | (go_simp; done) | (go_simp; rfl)); intro gb104 hg w21 hbox hb; have n0_ := Aside0.mk (below_step (by repeat (first | (with_reducible first | exact HB.out | apply below_alloc | apply pw_below_drewN | apply below_drew1) | exact HB.out)) hb); have n1_ := Aside0.mk (hbox); have n2_ := Aside0.mk ((by rw [hg]; exact (below_size (by repeat (first | (with_reducible first | exact HB.out | apply below_alloc | apply pw_below_drewN | apply below_drew1) | exact HB.out))) : w.heap.size ≤ gb104)); have n3_ := Aside0.mk ((by rw [hg]; exact (below_size (by repeat (first | (with_reducible first | exact HB.out | apply below_alloc | apply pw_below_drewN | apply below_drew1) | exact HB.out))) : w.heap.size ≤ gb104)); clear HB; have HB := n0_; have BK104 := n1_; have GW104 := n2_; have GE104 := n3_; clear n0_ n1_ n2_ n3_; clear hb hbox hg; have p3 : 0 ≤ (0 : Int) := (by omega); have q3 : 0 < a0.size := (by have : (0 : Int) < (a0.size : Int) := of_decide_eq_true (by first | (with_reducible assumption) | assumption); omega); have hx3 : ∀ h : 0 < a0.size, ((a0[0]'h).toNat : Int) = bt a0 0 := bt_at a0 0; clear p3; have qi3 : (0 < (a0.size : Int)) = True := eq_true (of_decide_eq_true (by first | (with_reducible assumption) | assumption)); replace q3 := eq_true q3) | ((with_reducible refine gate_callee (f := 22) rfl ?_); refine goesL_ (some 14) rfl rfl Try.func22 (by kernel_rfl) rfl #[.int .u8 (bt a0 0)] rfl (by (try simp only [List.map_toArray, List.map_cons, List.map_nil]); first | done | rfl | (simp only [List.length_drop, List.length_take]; rfl)) ?_; (with_reducible refine (scan_letter.calls (bt a0 0) false _ A4.out).mono ?_); rintro e w' ⟨rfl, ⟨nd, rfl⟩⟩; refine ⟨_, rfl, ?_⟩; (try (rw [drewN_self w21]; generalize hq_ : World.drewN w21 _ = w21; have n0_ : Aside0 (w21.heap[gb104]? = some (.cells #[.int .i64 0, .int .i64 0, .string (⟨#[]⟩ : ByteArray), .int .i64 0, .int .i64 0] 32 (0, 0))) := ⟨by rw [← hq_]; exact (by (with_reducible repeat (first | refine blk_drewN ?_ _ | refine blk_drew ?_ | refine blk_alloc ?_ _)); exact BK104.out)⟩; have n1_ : Aside0 (Below w.heap.size w w21) := ⟨by rw [← hq_]; exact (by repeat (first | (with_reducible first | exact HB.out | apply below_alloc | apply pw_below_drewN | apply below_drew1 | refine below_set ?_ GE104.out) | exact HB.out))⟩; clear BK104 HB hq_; have BK104 := n0_; have HB := n1_; clear n0_ n1_))) | ((with_reducible refine gate_callee (f := 29) rfl ?_); refine goesL_ (some 27) rfl rfl Try.func29 (by kernel_rfl) rfl #[.int .u8 (bt a0 0)] rfl (by (try simp only [List.map_toArray, List.map_cons, List.map_nil]); first | done | rfl | (simp only [List.length_drop, List.length_take]; rfl)) ?_; (with_reducible refine (scan_digit.calls (bt a0 0) true _ A14.out).mono ?_); rintro e w' ⟨rfl, ⟨nd, rfl⟩⟩; refine ⟨_, rfl, ?_⟩; (try (rw [drewN_self w21]; generalize hq_ : World.drewN w21 _ = w21; have n0_ : Aside0 (w21.heap[gb104]? = some (.cells #[.int .i64 0, .int .i64 0, .string (⟨#[]⟩ : ByteArray), .int .i64 0, .int .i64 0] 32 (0, 0))) := ⟨by rw [← hq_]; exact (by (with_reducible repeat (first | refine blk_drewN ?_ _ | refine blk_drew ?_ | refine blk_alloc ?_ _)); exact BK104.out)⟩; have n1_ : Aside0 (Below w.heap.size w w21) := ⟨by rw [← hq_]; exact (by repeat (first | (with_reducible first | exact HB.out | apply below_alloc | apply pw_below_drewN | apply below_drew1 | refine below_set ?_ GE104.out) | exact HB.out))⟩; clear BK104 HB hq_; have BK104 := n0_; have HB := n1_; clear n0_ n1_))) | ((with_reducible refine gate_callee (f := 21) rfl ?_); refine goesL_ (some 29) rfl rfl Try.func21 (by kernel_rfl) rfl #[.string a0, .func (.func 29) #[] #[]] rfl (by (try simp only [List.map_toArray, List.map_cons, List.map_nil]); first | done | rfl | (simp only [List.length_drop, List.length_take]; rfl)) ?_; (with_reducible refine (scan_run_digit.calls a0 t108 _ A16.out).mono ?_); rintro e w' ⟨rfl, ⟨nd, rfl⟩⟩; refine ⟨_, rfl, ?_⟩; (try (rw [drewN_self w21]; generalize hq_ : World.drewN w21 _ = w21; have n0_ : Aside0 (w21.heap[gb104]? = some (.cells #[.int .i64 0, .int .i64 0, .string (⟨#[]⟩ : ByteArray), .int .i64 0, .int .i64 0] 32 (0, 0))) := ⟨by rw [← hq_]; exact (by (with_reducible repeat (first | refine blk_drewN ?_ _ | refine blk_drew ?_ | refine blk_alloc ?_ _)); exact BK104.out)⟩; have n1_ : Aside0 (Below w.heap.size w w21) := ⟨by rw [← hq_]; exact (by repeat (first | (with_reducible first | exact HB.out | apply below_alloc | apply pw_below_drewN | apply below_drew1 | refine below_set ?_ GE104.out) | exact HB.out))⟩; clear BK104 HB hq_; have BK104 := n0_; have HB := n1_; clear n0_ n1_))) | ((with_reducible refine gate_callee (f := 30) rfl ?_); refine goesL_ (some 34) rfl rfl Try.func30 (by kernel_rfl) rfl #[.string (a0.extract 0 (t108 : Int).toNat)] rfl (by (try simp only [List.map_toArray, List.map_cons, List.map_nil]); first | done | rfl | (simp only [List.length_drop, List.length_take]; rfl)) ?_; (with_reducible refine (scan_number.calls k (a0.extract 0 (t108 : Int).toNat) t109 true _ A19.out).mono ?_); rintro e w' ⟨rfl, ⟨nd, rfl⟩⟩; refine ⟨_, rfl, ?_⟩; (try (rw [drewN_self w21]; generalize hq_ : World.drewN w21 _ = w21; have n0_ : Aside0 (w21.heap[gb104]? = some (.cells #[.int .i64 0, .int .i64 0, .string (⟨#[]⟩ : ByteArray), .int .i64 0, .int .i64 0] 32 (0, 0))) := ⟨by rw [← hq_]; exact (by (with_reducible repeat (first | refine blk_drewN ?_ _ | refine blk_drew ?_ | refine blk_alloc ?_ _)); exact BK104.out)⟩; have n1_ : Aside0 (Below w.heap.size w w21) := ⟨by rw [← hq_]; exact (by repeat (first | (with_reducible first | exact HB.out | apply below_alloc | apply pw_below_drewN | apply below_drew1 | refine below_set ?_ GE104.out) | exact HB.out))⟩; clear BK104 HB hq_; have BK104 := n0_; have HB := n1_; clear n0_ n1_)); have hcz22_0 : w21.cell? ⟨gb104, 0, none⟩ = some (.int .i64 0) := (blk_cell BK104.out 0).trans rfl; have hcz22_1 : w21.cell? ⟨gb104, 1, none⟩ = some (.int .i64 0) := (blk_cell BK104.out 1).trans rfl; have hcz22_2 : w21.cell? ⟨gb104, 2, none⟩ = some (.string (⟨#[]⟩ : ByteArray)) := (blk_cell BK104.out 2).trans rfl; have hcz22_3 : w21.cell? ⟨gb104, 3, none⟩ = some (.int .i64 0) := (blk_cell BK104.out 3).trans rfl; have hcz22_4 : w21.cell? ⟨gb104, 4, none⟩ = some (.int .i64 0) := (blk_cell BK104.out 4).trans rfl; have hfz22_0 := blk_frozen BK104.out 0; have hfz22_1 := blk_frozen BK104.out 1; have hfz22_2 := blk_frozen BK104.out 2; have hfz22_3 := blk_frozen BK104.out 3; have hfz22_4 := blk_frozen BK104.out 4))
              refine bodyPost_ret (results_ctt rfl _ _ gb104 32 #[.int .i64 2, .int .i64 t109, .string (⟨#[]⟩ : ByteArray), .int .i64 0, .int .i64 0] (0, 0) _ rfl (by (with_reducible repeat (first | refine blk_drewN ?_ _ | refine blk_drew ?_ | refine blk_alloc ?_ _)); refine blk_put (cs := #[.int .i64 2, .int .i64 t109, .string (⟨#[]⟩ : ByteArray), .int .i64 0, .int .i64 0]) ?_ 4 _ rfl; (with_reducible repeat (first | refine blk_drewN ?_ _ | refine blk_drew ?_ | refine blk_alloc ?_ _)); refine blk_put (cs := #[.int .i64 2, .int .i64 t109, .string (⟨#[]⟩ : ByteArray), .int .i64 0, .int .i64 0]) ?_ 3 _ rfl; (with_reducible repeat (first | refine blk_drewN ?_ _ | refine blk_drew ?_ | refine blk_alloc ?_ _)); refine blk_put (cs := #[.int .i64 2, .int .i64 t109, .string (⟨#[]⟩ : ByteArray), .int .i64 0, .int .i64 0]) ?_ 2 _ rfl; (with_reducible repeat (first | refine blk_drewN ?_ _ | refine blk_drew ?_ | refine blk_alloc ?_ _)); refine blk_put (cs := #[.int .i64 2, .int .i64 0, .string (⟨#[]⟩ : ByteArray), .int .i64 0, .int .i64 0]) ?_ 1 _ rfl; (with_reducible repeat (first | refine blk_drewN ?_ _ | refine blk_drew ?_ | refine blk_alloc ?_ _)); refine blk_put (cs := #[.int .i64 0, .int .i64 0, .string (⟨#[]⟩ : ByteArray), .int .i64 0, .int .i64 0]) ?_ 0 _ rfl; (with_reducible repeat (first | refine blk_drewN ?_ _ | refine blk_drew ?_ | refine blk_alloc ?_ _)); exact BK104.out) Try.underlying32 rfl (by kernel_rfl)) rfl ?_
              exact ⟨by first | rfl | (simp [errW_none, errW_some] <;> rfl) | (simp [*, errW_none, errW_some] <;> rfl), by repeat (first | (with_reducible first | exact HB.out | apply below_alloc | apply pw_below_drewN | apply below_drew1 | refine below_set ?_ GE104.out) | exact HB.out)⟩
            · replace c20 := Bool.eq_false_iff.mpr c20
              subst c20
              have H1 : (some (0, 0, (⟨#[]⟩ : ByteArray), 0, 0, 0, 30)) = some (r1, r2, r3, r4, r5, r6, r7) := by rw [if_neg (show ¬ (false = true) by decide)] at H; exact H
              clear H
              have H := H1
              clear H1
              simp only [Option.some.injEq, Prod.mk.injEq] at H
              obtain ⟨rfl, rfl, rfl, rfl, rfl, rfl, rfl⟩ := H
              go_enter Try.func18, Try.ntmps18
              go_wp2_with (first | ((with_reducible refine gate_dst (N := 2) rfl ?_); refine box_event ?hg (N := 2) ?hd (cs := #[.int .i64 0, .int .i64 0, .string (⟨#[]⟩ : ByteArray), .int .i64 0, .int .i64 0]) (t := 32) ?hr ?_; (case hd => rfl); (case hg => rfl); (case hr => first | (go_simp; done) | (go_simp; rfl)); intro gb104 hg w23 hbox hb; have n0_ := Aside0.mk (below_step (by repeat (first | (with_reducible first | exact HB.out | apply below_alloc | apply pw_below_drewN | apply below_drew1) | exact HB.out)) hb); have n1_ := Aside0.mk (hbox); have n2_ := Aside0.mk ((by rw [hg]; exact (below_size (by repeat (first | (with_reducible first | exact HB.out | apply below_alloc | apply pw_below_drewN | apply below_drew1) | exact HB.out))) : w.heap.size ≤ gb104)); have n3_ := Aside0.mk ((by rw [hg]; exact (below_size (by repeat (first | (with_reducible first | exact HB.out | apply below_alloc | apply pw_below_drewN | apply below_drew1) | exact HB.out))) : w.heap.size ≤ gb104)); clear HB; have HB := n0_; have BK104 := n1_; have GW104 := n2_; have GE104 := n3_; clear n0_ n1_ n2_ n3_; clear hb hbox hg; have p3 : 0 ≤ (0 : Int) := (by omega); have q3 : 0 < a0.size := (by have : (0 : Int) < (a0.size : Int) := of_decide_eq_true (by first | (with_reducible assumption) | assumption); omega); have hx3 : ∀ h : 0 < a0.size, ((a0[0]'h).toNat : Int) = bt a0 0 := bt_at a0 0; clear p3; have qi3 : (0 < (a0.size : Int)) = True := eq_true (of_decide_eq_true (by first | (with_reducible assumption) | assumption)); replace q3 := eq_true q3) | ((with_reducible refine gate_callee (f := 22) rfl ?_); refine goesL_ (some 14) rfl rfl Try.func22 (by kernel_rfl) rfl #[.int .u8 (bt a0 0)] rfl (by (try simp only [List.map_toArray, List.map_cons, List.map_nil]); first | done | rfl | (simp only [List.length_drop, List.length_take]; rfl)) ?_; (with_reducible refine (scan_letter.calls (bt a0 0) false _ A4.out).mono ?_); rintro e w' ⟨rfl, ⟨nd, rfl⟩⟩; refine ⟨_, rfl, ?_⟩; (try (rw [drewN_self w23]; generalize hq_ : World.drewN w23 _ = w23; have n0_ : Aside0 (w23.heap[gb104]? = some (.cells #[.int .i64 0, .int .i64 0, .string (⟨#[]⟩ : ByteArray), .int .i64 0, .int .i64 0] 32 (0, 0))) := ⟨by rw [← hq_]; exact (by (with_reducible repeat (first | refine blk_drewN ?_ _ | refine blk_drew ?_ | refine blk_alloc ?_ _)); exact BK104.out)⟩; have n1_ : Aside0 (Below w.heap.size w w23) := ⟨by rw [← hq_]; exact (by repeat (first | (with_reducible first | exact HB.out | apply below_alloc | apply pw_below_drewN | apply below_drew1 | refine below_set ?_ GE104.out) | exact HB.out))⟩; clear BK104 HB hq_; have BK104 := n0_; have HB := n1_; clear n0_ n1_))) | ((with_reducible refine gate_callee (f := 29) rfl ?_); refine goesL_ (some 27) rfl rfl Try.func29 (by kernel_rfl) rfl #[.int .u8 (bt a0 0)] rfl (by (try simp only [List.map_toArray, List.map_cons, List.map_nil]); first | done | rfl | (simp only [List.length_drop, List.length_take]; rfl)) ?_; (with_reducible refine (scan_digit.calls (bt a0 0) true _ A14.out).mono ?_); rintro e w' ⟨rfl, ⟨nd, rfl⟩⟩; refine ⟨_, rfl, ?_⟩; (try (rw [drewN_self w23]; generalize hq_ : World.drewN w23 _ = w23; have n0_ : Aside0 (w23.heap[gb104]? = some (.cells #[.int .i64 0, .int .i64 0, .string (⟨#[]⟩ : ByteArray), .int .i64 0, .int .i64 0] 32 (0, 0))) := ⟨by rw [← hq_]; exact (by (with_reducible repeat (first | refine blk_drewN ?_ _ | refine blk_drew ?_ | refine blk_alloc ?_ _)); exact BK104.out)⟩; have n1_ : Aside0 (Below w.heap.size w w23) := ⟨by rw [← hq_]; exact (by repeat (first | (with_reducible first | exact HB.out | apply below_alloc | apply pw_below_drewN | apply below_drew1 | refine below_set ?_ GE104.out) | exact HB.out))⟩; clear BK104 HB hq_; have BK104 := n0_; have HB := n1_; clear n0_ n1_))) | ((with_reducible refine gate_callee (f := 21) rfl ?_); refine goesL_ (some 29) rfl rfl Try.func21 (by kernel_rfl) rfl #[.string a0, .func (.func 29) #[] #[]] rfl (by (try simp only [List.map_toArray, List.map_cons, List.map_nil]); first | done | rfl | (simp only [List.length_drop, List.length_take]; rfl)) ?_; (with_reducible refine (scan_run_digit.calls a0 t108 _ A16.out).mono ?_); rintro e w' ⟨rfl, ⟨nd, rfl⟩⟩; refine ⟨_, rfl, ?_⟩; (try (rw [drewN_self w23]; generalize hq_ : World.drewN w23 _ = w23; have n0_ : Aside0 (w23.heap[gb104]? = some (.cells #[.int .i64 0, .int .i64 0, .string (⟨#[]⟩ : ByteArray), .int .i64 0, .int .i64 0] 32 (0, 0))) := ⟨by rw [← hq_]; exact (by (with_reducible repeat (first | refine blk_drewN ?_ _ | refine blk_drew ?_ | refine blk_alloc ?_ _)); exact BK104.out)⟩; have n1_ : Aside0 (Below w.heap.size w w23) := ⟨by rw [← hq_]; exact (by repeat (first | (with_reducible first | exact HB.out | apply below_alloc | apply pw_below_drewN | apply below_drew1 | refine below_set ?_ GE104.out) | exact HB.out))⟩; clear BK104 HB hq_; have BK104 := n0_; have HB := n1_; clear n0_ n1_))) | ((with_reducible refine gate_callee (f := 30) rfl ?_); refine goesL_ (some 34) rfl rfl Try.func30 (by kernel_rfl) rfl #[.string (a0.extract 0 (t108 : Int).toNat)] rfl (by (try simp only [List.map_toArray, List.map_cons, List.map_nil]); first | done | rfl | (simp only [List.length_drop, List.length_take]; rfl)) ?_; (with_reducible refine (scan_number.calls k (a0.extract 0 (t108 : Int).toNat) t109 false _ A19.out).mono ?_); rintro e w' ⟨rfl, ⟨nd, rfl⟩⟩; refine ⟨_, rfl, ?_⟩; (try (rw [drewN_self w23]; generalize hq_ : World.drewN w23 _ = w23; have n0_ : Aside0 (w23.heap[gb104]? = some (.cells #[.int .i64 0, .int .i64 0, .string (⟨#[]⟩ : ByteArray), .int .i64 0, .int .i64 0] 32 (0, 0))) := ⟨by rw [← hq_]; exact (by (with_reducible repeat (first | refine blk_drewN ?_ _ | refine blk_drew ?_ | refine blk_alloc ?_ _)); exact BK104.out)⟩; have n1_ : Aside0 (Below w.heap.size w w23) := ⟨by rw [← hq_]; exact (by repeat (first | (with_reducible first | exact HB.out | apply below_alloc | apply pw_below_drewN | apply below_drew1 | refine below_set ?_ GE104.out) | exact HB.out))⟩; clear BK104 HB hq_; have BK104 := n0_; have HB := n1_; clear n0_ n1_)); have hcz24_0 : w23.cell? ⟨gb104, 0, none⟩ = some (.int .i64 0) := (blk_cell BK104.out 0).trans rfl; have hcz24_1 : w23.cell? ⟨gb104, 1, none⟩ = some (.int .i64 0) := (blk_cell BK104.out 1).trans rfl; have hcz24_2 : w23.cell? ⟨gb104, 2, none⟩ = some (.string (⟨#[]⟩ : ByteArray)) := (blk_cell BK104.out 2).trans rfl; have hcz24_3 : w23.cell? ⟨gb104, 3, none⟩ = some (.int .i64 0) := (blk_cell BK104.out 3).trans rfl; have hcz24_4 : w23.cell? ⟨gb104, 4, none⟩ = some (.int .i64 0) := (blk_cell BK104.out 4).trans rfl; have hfz24_0 := blk_frozen BK104.out 0; have hfz24_1 := blk_frozen BK104.out 1; have hfz24_2 := blk_frozen BK104.out 2; have hfz24_3 := blk_frozen BK104.out 3; have hfz24_4 := blk_frozen BK104.out 4))
              refine bodyPost_ret (results_ctt rfl _ _ gb104 32 #[.int .i64 0, .int .i64 0, .string (⟨#[]⟩ : ByteArray), .int .i64 0, .int .i64 0] (0, 0) _ rfl (by (with_reducible repeat (first | refine blk_drewN ?_ _ | refine blk_drew ?_ | refine blk_alloc ?_ _)); refine blk_put (cs := #[.int .i64 0, .int .i64 0, .string (⟨#[]⟩ : ByteArray), .int .i64 0, .int .i64 0]) ?_ 4 _ rfl; (with_reducible repeat (first | refine blk_drewN ?_ _ | refine blk_drew ?_ | refine blk_alloc ?_ _)); refine blk_put (cs := #[.int .i64 0, .int .i64 0, .string (⟨#[]⟩ : ByteArray), .int .i64 0, .int .i64 0]) ?_ 3 _ rfl; (with_reducible repeat (first | refine blk_drewN ?_ _ | refine blk_drew ?_ | refine blk_alloc ?_ _)); refine blk_put (cs := #[.int .i64 0, .int .i64 0, .string (⟨#[]⟩ : ByteArray), .int .i64 0, .int .i64 0]) ?_ 2 _ rfl; (with_reducible repeat (first | refine blk_drewN ?_ _ | refine blk_drew ?_ | refine blk_alloc ?_ _)); refine blk_put (cs := #[.int .i64 0, .int .i64 0, .string (⟨#[]⟩ : ByteArray), .int .i64 0, .int .i64 0]) ?_ 1 _ rfl; (with_reducible repeat (first | refine blk_drewN ?_ _ | refine blk_drew ?_ | refine blk_alloc ?_ _)); refine blk_put (cs := #[.int .i64 0, .int .i64 0, .string (⟨#[]⟩ : ByteArray), .int .i64 0, .int .i64 0]) ?_ 0 _ rfl; (with_reducible repeat (first | refine blk_drewN ?_ _ | refine blk_drew ?_ | refine blk_alloc ?_ _)); exact BK104.out) Try.underlying32 rfl (by kernel_rfl)) rfl ?_
              exact ⟨by first | rfl | (simp [errW_none, errW_some] <;> rfl) | (simp [*, errW_none, errW_some] <;> rfl), by repeat (first | (with_reducible first | exact HB.out | apply below_alloc | apply pw_below_drewN | apply below_drew1 | refine below_set ?_ GE104.out) | exact HB.out)⟩
          · rw [if_neg c18] at H
            exact absurd H (by simp)
        · rw [if_neg c17] at H
          exact absurd H (by simp)
      · replace c15 := Bool.eq_false_iff.mpr c15
        subst c15
        have H1 : (if (a0.size : Int) > 1 then (if 1 < (a0.size : Int) then (if (bt a0 1) = 61 then (if 0 ≤ 2 then (if 2 ≤ (a0.size : Int) then (if 1 + (a0.extract 0 2).size ≤ 9223372036854775807 then (if ((⟨#[32]⟩ : ByteArray) ++ (a0.extract 0 2)).size + 1 ≤ 9223372036854775807 then ((strings_Contains.f (⟨#[32, 60, 61, 32, 62, 61, 32, 61, 61, 32, 33, 61, 32]⟩ : ByteArray) (((⟨#[32]⟩ : ByteArray) ++ (a0.extract 0 2)) ++ (⟨#[32]⟩ : ByteArray))).bind fun t111 => (scan_one.j0 k a0 (bt a0 0) t111)) else (none)) else (none)) else (none)) else (none)) else (scan_one.j0 k a0 (bt a0 0) false)) else (none)) else (scan_one.j0 k a0 (bt a0 0) false)) = some (r1, r2, r3, r4, r5, r6, r7) := by rw [if_neg (show ¬ (false = true) by decide)] at H; exact H
        clear H
        have H := H1
        clear H1
        have HC25 := Aside0.mk H
        clear H
        go_enter Try.func18, Try.ntmps18
        go_upto_region 13 with (first | ((with_reducible refine gate_dst (N := 2) rfl ?_); refine box_event ?hg (N := 2) ?hd (cs := #[.int .i64 0, .int .i64 0, .string (⟨#[]⟩ : ByteArray), .int .i64 0, .int .i64 0]) (t := 32) ?hr ?_; (case hd => rfl); (case hg => rfl); (case hr => first | (go_simp; done) | (go_simp; rfl)); intro gb104 hg w26 hbox hb; have n0_ := Aside0.mk (below_step (by repeat (first | (with_reducible first | exact HB.out | apply below_alloc | apply pw_below_drewN | apply below_drew1) | exact HB.out)) hb); have n1_ := Aside0.mk (hbox); have n2_ := Aside0.mk ((by rw [hg]; exact (below_size (by repeat (first | (with_reducible first | exact HB.out | apply below_alloc | apply pw_below_drewN | apply below_drew1) | exact HB.out))) : w.heap.size ≤ gb104)); have n3_ := Aside0.mk ((by rw [hg]; exact (below_size (by repeat (first | (with_reducible first | exact HB.out | apply below_alloc | apply pw_below_drewN | apply below_drew1) | exact HB.out))) : w.heap.size ≤ gb104)); clear HB; have HB := n0_; have BK104 := n1_; have GW104 := n2_; have GE104 := n3_; clear n0_ n1_ n2_ n3_; clear hb hbox hg; have p3 : 0 ≤ (0 : Int) := (by omega); have q3 : 0 < a0.size := (by have : (0 : Int) < (a0.size : Int) := of_decide_eq_true (by first | (with_reducible assumption) | assumption); omega); have hx3 : ∀ h : 0 < a0.size, ((a0[0]'h).toNat : Int) = bt a0 0 := bt_at a0 0; clear p3; have qi3 : (0 < (a0.size : Int)) = True := eq_true (of_decide_eq_true (by first | (with_reducible assumption) | assumption)); replace q3 := eq_true q3) | ((with_reducible refine gate_callee (f := 22) rfl ?_); refine goesL_ (some 14) rfl rfl Try.func22 (by kernel_rfl) rfl #[.int .u8 (bt a0 0)] rfl (by (try simp only [List.map_toArray, List.map_cons, List.map_nil]); first | done | rfl | (simp only [List.length_drop, List.length_take]; rfl)) ?_; (with_reducible refine (scan_letter.calls (bt a0 0) false _ A4.out).mono ?_); rintro e w' ⟨rfl, ⟨nd, rfl⟩⟩; refine ⟨_, rfl, ?_⟩) | ((with_reducible refine gate_callee (f := 29) rfl ?_); refine goesL_ (some 27) rfl rfl Try.func29 (by kernel_rfl) rfl #[.int .u8 (bt a0 0)] rfl (by (try simp only [List.map_toArray, List.map_cons, List.map_nil]); first | done | rfl | (simp only [List.length_drop, List.length_take]; rfl)) ?_; (with_reducible refine (scan_digit.calls (bt a0 0) false _ A14.out).mono ?_); rintro e w' ⟨rfl, ⟨nd, rfl⟩⟩; refine ⟨_, rfl, ?_⟩))
        (try simp only [Act.put, List.setIfInBounds_toArray, List.set_cons_zero, List.set_cons_succ])
        go_cut [43] (fun v43 wc => ∃ (kq : Nat) (x43_24 : Bool), v43 = .bool x43_24 ∧ Aside0 (scan_one.j0 kq a0 (bt a0 0) x43_24 = some (r1, r2, r3, r4, r5, r6, r7)) ∧ Aside0 (kq ≤ k) ∧ Aside0 (wc.heap[gb104]? = some (.cells #[.int .i64 0, .int .i64 0, .string (⟨#[]⟩ : ByteArray), .int .i64 0, .int .i64 0] 32 (0, 0))) ∧ Aside0 (Below w.heap.size w wc))
        case first =>
          have H := HC25.out
          clear HC25
          by_cases c27 : (a0.size : Int) > 1
          · rw [if_pos c27] at H
            have c27b0 : decide (1 < (a0.size : Int)) = true := decide_eq_true c27
            have c27b1 : decide (1 < a0.size) = true := decide_eq_true (by omega)
            clear c27
            (first | rw [c27b0] | (simp only [i64_w, i32_w]; rw [c27b0]) | skip)
            by_cases c28 : 1 < (a0.size : Int)
            · rw [if_pos c28] at H
              have c28b0 : decide (1 < (a0.size : Int)) = true := decide_eq_true c28
              have c28b1 : decide (1 < a0.size) = true := decide_eq_true (by omega)
              clear c28
              by_cases c30 : (bt a0 1) = 61
              · rw [if_pos c30] at H
                have c30b0 : ((bt a0 1) == 61) = true := beq_iff_eq.mpr c30
                have c30b1 : ((bt a0 1) != 61) = false := bne_eq_false_iff_eq.mpr c30
                clear c30
                by_cases c31 : 0 ≤ 2
                · rw [if_pos c31] at H
                  have c31b0 := eq_true c31
                  have c31b1 : decide (0 ≤ 2) = true := decide_eq_true c31
                  clear c31
                  by_cases c32 : 2 ≤ (a0.size : Int)
                  · rw [if_pos c32] at H
                    have c32b0 := eq_true c32
                    have c32b1 : decide (2 ≤ (a0.size : Int)) = true := decide_eq_true c32
                    clear c32
                    by_cases c33 : 1 + (a0.extract 0 2).size ≤ 9223372036854775807
                    · rw [if_pos c33] at H
                      have c33b0 := eq_true c33
                      have c33b1 : decide (1 + (a0.extract 0 2).size ≤ 9223372036854775807) = true := decide_eq_true c33
                      try have c33b2 : (9223372036854775807 < 1 + (a0.extract 0 2).size) = False := eq_false (Nat.not_lt.2 c33)
                      by_cases c34 : ((⟨#[32]⟩ : ByteArray) ++ (a0.extract 0 2)).size + 1 ≤ 9223372036854775807
                      · rw [if_pos c34] at H
                        have c34s : 1 + (a0.extract 0 2).size + 1 ≤ 9223372036854775807 := by
                          have h_ := c34
                          rw [ByteArray.size_append] at h_
                          exact h_
                        have c34b0 := eq_true c34
                        have c34b1 : decide (((⟨#[32]⟩ : ByteArray) ++ (a0.extract 0 2)).size + 1 ≤ 9223372036854775807) = true := decide_eq_true c34
                        try have c34b2 : (9223372036854775807 < ((⟨#[32]⟩ : ByteArray) ++ (a0.extract 0 2)).size + 1) = False := eq_false (Nat.not_lt.2 c34)
                        replace H := Option.bind_eq_some_iff.mp H
                        obtain ⟨t111, A350, H⟩ := H
                        replace H : (scan_one.j0 k a0 (bt a0 0) t111) = some (r1, r2, r3, r4, r5, r6, r7) := H
                        have A35 := Aside0.mk A350
                        clear A350
                        have H' := Aside0.mk H
                        clear H
                        have p29 : 0 ≤ (1 : Int) := (by omega)
                        have q29 : 1 < a0.size := (by have : (1 : Int) < (a0.size : Int) := of_decide_eq_true (by first | (with_reducible assumption) | assumption); omega)
                        have hx29 : ∀ h : 1 < a0.size, ((a0[1]'h).toNat : Int) = bt a0 1 := bt_at a0 1
                        clear p29
                        have qi29 : (1 < (a0.size : Int)) = True := eq_true (of_decide_eq_true (by first | (with_reducible assumption) | assumption))
                        replace q29 := eq_true q29
                        go_wp2_with (first | (go_at_call 23; (with_reducible refine (strings_Contains.calls (⟨#[32, 60, 61, 32, 62, 61, 32, 61, 61, 32, 33, 61, 32]⟩ : ByteArray) (((⟨#[32]⟩ : ByteArray) ++ (a0.extract 0 2)) ++ (⟨#[32]⟩ : ByteArray)) t111 _ ?side1 A35.out).mono ?_); (case side1 => (first | exact hG | ((repeat (first | exact hG | apply GW.drewN | apply GW.drew | apply GW.alloc)); done) | exact GW.below hG (by repeat (first | (with_reducible first | exact HB.out | apply below_alloc | apply pw_below_drewN | apply below_drew1 | refine below_set ?_ GE104.out) | exact HB.out)))); rintro e w' ⟨rfl, ⟨nd, rfl⟩⟩))
                        go_meet
                        case rel => exact ⟨_, (t111), (by first | rfl | (simp; done) | (simp [*]; done)), H', ⟨by first | omega | exact Nat.le_refl _⟩, ⟨by (with_reducible repeat (first | refine blk_drewN ?_ _ | refine blk_drew ?_ | refine blk_alloc ?_ _)); exact BK104.out⟩, ⟨by repeat (first | (with_reducible first | exact HB.out | apply below_alloc | apply pw_below_drewN | apply below_drew1 | refine below_set ?_ GE104.out) | exact HB.out)⟩⟩
                      · rw [if_neg c34] at H
                        exact absurd H (by simp)
                    · rw [if_neg c33] at H
                      exact absurd H (by simp)
                  · rw [if_neg c32] at H
                    exact absurd H (by simp)
                · rw [if_neg c31] at H
                  exact absurd H (by simp)
              · rw [if_neg c30] at H
                have c30b0 : ((bt a0 1) == 61) = false := beq_eq_false_iff_ne.mpr c30
                have c30b1 : ((bt a0 1) != 61) = true := bne_iff_ne.mpr c30
                have H' := Aside0.mk H
                clear H
                have p29 : 0 ≤ (1 : Int) := (by omega)
                have q29 : 1 < a0.size := (by have : (1 : Int) < (a0.size : Int) := of_decide_eq_true (by first | (with_reducible assumption) | assumption); omega)
                have hx29 : ∀ h : 1 < a0.size, ((a0[1]'h).toNat : Int) = bt a0 1 := bt_at a0 1
                clear p29
                have qi29 : (1 < (a0.size : Int)) = True := eq_true (of_decide_eq_true (by first | (with_reducible assumption) | assumption))
                replace q29 := eq_true q29
                go_wp2
                go_meet
                case rel => exact ⟨_, (false), (by first | rfl | (simp; done) | (simp [*]; done)), H', ⟨by first | omega | exact Nat.le_refl _⟩, ⟨by (with_reducible repeat (first | refine blk_drewN ?_ _ | refine blk_drew ?_ | refine blk_alloc ?_ _)); exact BK104.out⟩, ⟨by repeat (first | (with_reducible first | exact HB.out | apply below_alloc | apply pw_below_drewN | apply below_drew1 | refine below_set ?_ GE104.out) | exact HB.out)⟩⟩
            · rw [if_neg c28] at H
              exact absurd H (by simp)
          · rw [if_neg c27] at H
            have c27b0 : decide (1 < (a0.size : Int)) = false := decide_eq_false c27
            have c27b1 : decide (1 < a0.size) = false := decide_eq_false (by omega)
            clear c27
            (first | rw [c27b0] | (simp only [i64_w, i32_w]; rw [c27b0]) | skip)
            have H' := Aside0.mk H
            clear H
            go_wp2
            go_meet
            case rel => exact ⟨_, (false), (by first | rfl | (simp; done) | (simp [*]; done)), H', ⟨by first | omega | exact Nat.le_refl _⟩, ⟨by (with_reducible repeat (first | refine blk_drewN ?_ _ | refine blk_drew ?_ | refine blk_alloc ?_ _)); exact BK104.out⟩, ⟨by repeat (first | (with_reducible first | exact HB.out | apply below_alloc | apply pw_below_drewN | apply below_drew1 | refine below_set ?_ GE104.out) | exact HB.out)⟩⟩
        case rest =>
          clear HC25
          try clear c1
          try clear c2
          try clear c2b0
          try clear c2b1
          try clear p2
          try clear q2
          try clear hx2
          try clear qi2
          try clear c3
          try clear p3
          try clear q3
          try clear hx3
          try clear qi3
          try clear c5
          try clear c7
          try clear c7b0
          try clear c10
          try clear c10b0
          try clear c10b1
          try clear c11
          try clear c11b0
          try clear c11b1
          try clear c15
          try clear c17
          try clear c17b0
          try clear c17b1
          try clear c18
          try clear c18b0
          try clear c18b1
          try clear c20
          try clear c22
          try clear c27
          try clear c27b0
          try clear c27b1
          try clear c28
          try clear c28b0
          try clear c28b1
          try clear c29
          try clear p29
          try clear q29
          try clear hx29
          try clear qi29
          try clear c30
          try clear c30b0
          try clear c30b1
          try clear c31
          try clear c31b0
          try clear c31b1
          try clear c32
          try clear c32b0
          try clear c32b1
          try clear c33
          try clear c33b0
          try clear c33b1
          try clear c33b2
          try clear c34
          try clear c34b0
          try clear c34b1
          try clear c34b2
          try clear hcz13_0
          try clear hcz13_1
          try clear hcz13_2
          try clear hcz13_3
          try clear hcz13_4
          try clear hcz22_0
          try clear hcz22_1
          try clear hcz22_2
          try clear hcz22_3
          try clear hcz22_4
          try clear hcz24_0
          try clear hcz24_1
          try clear hcz24_2
          try clear hcz24_3
          try clear hcz24_4
          try clear hcz9_0
          try clear hcz9_1
          try clear hcz9_2
          try clear hcz9_3
          try clear hcz9_4
          try clear hfz13_0
          try clear hfz13_1
          try clear hfz13_2
          try clear hfz13_3
          try clear hfz13_4
          try clear hfz22_0
          try clear hfz22_1
          try clear hfz22_2
          try clear hfz22_3
          try clear hfz22_4
          try clear hfz24_0
          try clear hfz24_1
          try clear hfz24_2
          try clear hfz24_3
          try clear hfz24_4
          try clear hfz9_0
          try clear hfz9_1
          try clear hfz9_2
          try clear hfz9_3
          try clear hfz9_4
          try clear p29
          try clear p3
          try clear q29
          try clear q3
          obtain ⟨kq, x43_24, rfl, HA, HJ24, BK104, HB⟩ := hcut
          cases kq with
          | zero => exact absurd HA.out (by simp [scan_one.j0])
          | succ kj24 =>
            have H := HA.out
            clear HA
            simp only [scan_one.j0] at H
            by_cases c36 : x43_24 = true
            · subst c36
              have H1 : (if 0 ≤ 2 then (if 2 ≤ (a0.size : Int) then (some (3, 0, a0.extract 0 2, 0, 0, 2, 0)) else (none)) else (none)) = some (r1, r2, r3, r4, r5, r6, r7) := by rw [if_pos rfl] at H; exact H
              clear H
              have H := H1
              clear H1
              by_cases c37 : 0 ≤ 2
              · rw [if_pos c37] at H
                have c37b0 := eq_true c37
                have c37b1 : decide (0 ≤ 2) = true := decide_eq_true c37
                clear c37
                by_cases c38 : 2 ≤ (a0.size : Int)
                · rw [if_pos c38] at H
                  have c38b0 := eq_true c38
                  have c38b1 : decide (2 ≤ (a0.size : Int)) = true := decide_eq_true c38
                  clear c38
                  simp only [Option.some.injEq, Prod.mk.injEq] at H
                  obtain ⟨rfl, rfl, rfl, rfl, rfl, rfl, rfl⟩ := H
                  have hcz39_0 : wc.cell? ⟨gb104, 0, none⟩ = some (.int .i64 0) := (blk_cell BK104.out 0).trans rfl
                  have hcz39_1 : wc.cell? ⟨gb104, 1, none⟩ = some (.int .i64 0) := (blk_cell BK104.out 1).trans rfl
                  have hcz39_2 : wc.cell? ⟨gb104, 2, none⟩ = some (.string (⟨#[]⟩ : ByteArray)) := (blk_cell BK104.out 2).trans rfl
                  have hcz39_3 : wc.cell? ⟨gb104, 3, none⟩ = some (.int .i64 0) := (blk_cell BK104.out 3).trans rfl
                  have hcz39_4 : wc.cell? ⟨gb104, 4, none⟩ = some (.int .i64 0) := (blk_cell BK104.out 4).trans rfl
                  have hfz39_0 := blk_frozen BK104.out 0
                  have hfz39_1 := blk_frozen BK104.out 1
                  have hfz39_2 := blk_frozen BK104.out 2
                  have hfz39_3 := blk_frozen BK104.out 3
                  have hfz39_4 := blk_frozen BK104.out 4
                  go_wp2
                  refine bodyPost_ret (results_ctt rfl _ _ gb104 32 #[.int .i64 3, .int .i64 0, .string (a0.extract 0 2), .int .i64 0, .int .i64 0] (0, 0) _ rfl (by (with_reducible repeat (first | refine blk_drewN ?_ _ | refine blk_drew ?_ | refine blk_alloc ?_ _)); refine blk_put (cs := #[.int .i64 3, .int .i64 0, .string (a0.extract 0 2), .int .i64 0, .int .i64 0]) ?_ 4 _ rfl; (with_reducible repeat (first | refine blk_drewN ?_ _ | refine blk_drew ?_ | refine blk_alloc ?_ _)); refine blk_put (cs := #[.int .i64 3, .int .i64 0, .string (a0.extract 0 2), .int .i64 0, .int .i64 0]) ?_ 3 _ rfl; (with_reducible repeat (first | refine blk_drewN ?_ _ | refine blk_drew ?_ | refine blk_alloc ?_ _)); refine blk_put (cs := #[.int .i64 3, .int .i64 0, .string (⟨#[]⟩ : ByteArray), .int .i64 0, .int .i64 0]) ?_ 2 _ rfl; (with_reducible repeat (first | refine blk_drewN ?_ _ | refine blk_drew ?_ | refine blk_alloc ?_ _)); refine blk_put (cs := #[.int .i64 3, .int .i64 0, .string (⟨#[]⟩ : ByteArray), .int .i64 0, .int .i64 0]) ?_ 1 _ rfl; (with_reducible repeat (first | refine blk_drewN ?_ _ | refine blk_drew ?_ | refine blk_alloc ?_ _)); refine blk_put (cs := #[.int .i64 0, .int .i64 0, .string (⟨#[]⟩ : ByteArray), .int .i64 0, .int .i64 0]) ?_ 0 _ rfl; (with_reducible repeat (first | refine blk_drewN ?_ _ | refine blk_drew ?_ | refine blk_alloc ?_ _)); exact BK104.out) Try.underlying32 rfl (by kernel_rfl)) rfl ?_
                  exact ⟨by first | rfl | (simp [errW_none, errW_some] <;> rfl) | (simp [*, errW_none, errW_some] <;> rfl), by repeat (first | (with_reducible first | exact HB.out | apply below_alloc | apply pw_below_drewN | apply below_drew1 | refine below_set ?_ GE104.out) | exact HB.out)⟩
                · rw [if_neg c38] at H
                  exact absurd H (by simp)
              · rw [if_neg c37] at H
                exact absurd H (by simp)
            · replace c36 := Bool.eq_false_iff.mpr c36
              subst c36
              have H1 : ((strings_IndexByte.f (⟨#[40, 41, 123, 125, 44, 58, 43, 45, 42, 36, 61, 60, 62]⟩ : ByteArray) (bt a0 0)).bind fun t112 => (if t112 ≥ 0 then (if 0 ≤ 1 then (if 1 ≤ (a0.size : Int) then (some (3, 0, a0.extract 0 1, 0, 0, 1, 0)) else (none)) else (none)) else (some (0, 0, (⟨#[]⟩ : ByteArray), 0, 0, 0, 40)))) = some (r1, r2, r3, r4, r5, r6, r7) := by rw [if_neg (show ¬ (false = true) by decide)] at H; exact H
              clear H
              have H := H1
              clear H1
              replace H := Option.bind_eq_some_iff.mp H
              obtain ⟨t112, A400, H⟩ := H
              replace H : (if t112 ≥ 0 then (if 0 ≤ 1 then (if 1 ≤ (a0.size : Int) then (some (3, 0, a0.extract 0 1, 0, 0, 1, 0)) else (none)) else (none)) else (some (0, 0, (⟨#[]⟩ : ByteArray), 0, 0, 0, 40))) = some (r1, r2, r3, r4, r5, r6, r7) := H
              have A40 := Aside0.mk A400
              clear A400
              by_cases c41 : t112 ≥ 0
              · rw [if_pos c41] at H
                have c41b0 : decide (0 ≤ t112) = true := decide_eq_true c41
                clear c41
                by_cases c42 : 0 ≤ 1
                · rw [if_pos c42] at H
                  have c42b0 := eq_true c42
                  have c42b1 : decide (0 ≤ 1) = true := decide_eq_true c42
                  clear c42
                  by_cases c43 : 1 ≤ (a0.size : Int)
                  · rw [if_pos c43] at H
                    have c43b0 := eq_true c43
                    have c43b1 : decide (1 ≤ (a0.size : Int)) = true := decide_eq_true c43
                    clear c43
                    simp only [Option.some.injEq, Prod.mk.injEq] at H
                    obtain ⟨rfl, rfl, rfl, rfl, rfl, rfl, rfl⟩ := H
                    go_wp2_with (first | ((with_reducible refine gate_callee (f := 31) rfl ?_); refine goesL_ (some 64) rfl rfl Try.func31 (by kernel_rfl) rfl #[.string (⟨#[40, 41, 123, 125, 44, 58, 43, 45, 42, 36, 61, 60, 62]⟩ : ByteArray), .int .u8 (bt a0 0)] rfl (by (try simp only [List.map_toArray, List.map_cons, List.map_nil]); first | done | rfl | (simp only [List.length_drop, List.length_take]; rfl)) ?_; (with_reducible refine (strings_IndexByte.calls (⟨#[40, 41, 123, 125, 44, 58, 43, 45, 42, 36, 61, 60, 62]⟩ : ByteArray) (bt a0 0) t112 _ ?side1 A40.out).mono ?_); (case side1 => (first | exact hG | ((repeat (first | exact hG | apply GW.drewN | apply GW.drew | apply GW.alloc)); done) | exact GW.below hG (by repeat (first | (with_reducible first | exact HB.out | apply below_alloc | apply pw_below_drewN | apply below_drew1 | refine below_set ?_ GE104.out) | exact HB.out)))); rintro e w' ⟨rfl, ⟨nd, rfl⟩⟩; refine ⟨_, rfl, ?_⟩; (try (rw [drewN_self wc]; generalize hq_ : World.drewN wc _ = wc; have n0_ : Aside0 (wc.heap[gb104]? = some (.cells #[.int .i64 0, .int .i64 0, .string (⟨#[]⟩ : ByteArray), .int .i64 0, .int .i64 0] 32 (0, 0))) := ⟨by rw [← hq_]; exact (by (with_reducible repeat (first | refine blk_drewN ?_ _ | refine blk_drew ?_ | refine blk_alloc ?_ _)); exact BK104.out)⟩; have n1_ : Aside0 (Below w.heap.size w wc) := ⟨by rw [← hq_]; exact (by repeat (first | (with_reducible first | exact HB.out | apply below_alloc | apply pw_below_drewN | apply below_drew1 | refine below_set ?_ GE104.out) | exact HB.out))⟩; clear BK104 HB hq_; have BK104 := n0_; have HB := n1_; clear n0_ n1_)); have hcz44_0 : wc.cell? ⟨gb104, 0, none⟩ = some (.int .i64 0) := (blk_cell BK104.out 0).trans rfl; have hcz44_1 : wc.cell? ⟨gb104, 1, none⟩ = some (.int .i64 0) := (blk_cell BK104.out 1).trans rfl; have hcz44_2 : wc.cell? ⟨gb104, 2, none⟩ = some (.string (⟨#[]⟩ : ByteArray)) := (blk_cell BK104.out 2).trans rfl; have hcz44_3 : wc.cell? ⟨gb104, 3, none⟩ = some (.int .i64 0) := (blk_cell BK104.out 3).trans rfl; have hcz44_4 : wc.cell? ⟨gb104, 4, none⟩ = some (.int .i64 0) := (blk_cell BK104.out 4).trans rfl; have hfz44_0 := blk_frozen BK104.out 0; have hfz44_1 := blk_frozen BK104.out 1; have hfz44_2 := blk_frozen BK104.out 2; have hfz44_3 := blk_frozen BK104.out 3; have hfz44_4 := blk_frozen BK104.out 4))
                    refine bodyPost_ret (results_ctt rfl _ _ gb104 32 #[.int .i64 3, .int .i64 0, .string (a0.extract 0 1), .int .i64 0, .int .i64 0] (0, 0) _ rfl (by (with_reducible repeat (first | refine blk_drewN ?_ _ | refine blk_drew ?_ | refine blk_alloc ?_ _)); refine blk_put (cs := #[.int .i64 3, .int .i64 0, .string (a0.extract 0 1), .int .i64 0, .int .i64 0]) ?_ 4 _ rfl; (with_reducible repeat (first | refine blk_drewN ?_ _ | refine blk_drew ?_ | refine blk_alloc ?_ _)); refine blk_put (cs := #[.int .i64 3, .int .i64 0, .string (a0.extract 0 1), .int .i64 0, .int .i64 0]) ?_ 3 _ rfl; (with_reducible repeat (first | refine blk_drewN ?_ _ | refine blk_drew ?_ | refine blk_alloc ?_ _)); refine blk_put (cs := #[.int .i64 3, .int .i64 0, .string (⟨#[]⟩ : ByteArray), .int .i64 0, .int .i64 0]) ?_ 2 _ rfl; (with_reducible repeat (first | refine blk_drewN ?_ _ | refine blk_drew ?_ | refine blk_alloc ?_ _)); refine blk_put (cs := #[.int .i64 3, .int .i64 0, .string (⟨#[]⟩ : ByteArray), .int .i64 0, .int .i64 0]) ?_ 1 _ rfl; (with_reducible repeat (first | refine blk_drewN ?_ _ | refine blk_drew ?_ | refine blk_alloc ?_ _)); refine blk_put (cs := #[.int .i64 0, .int .i64 0, .string (⟨#[]⟩ : ByteArray), .int .i64 0, .int .i64 0]) ?_ 0 _ rfl; (with_reducible repeat (first | refine blk_drewN ?_ _ | refine blk_drew ?_ | refine blk_alloc ?_ _)); exact BK104.out) Try.underlying32 rfl (by kernel_rfl)) rfl ?_
                    exact ⟨by first | rfl | (simp [errW_none, errW_some] <;> rfl) | (simp [*, errW_none, errW_some] <;> rfl), by repeat (first | (with_reducible first | exact HB.out | apply below_alloc | apply pw_below_drewN | apply below_drew1 | refine below_set ?_ GE104.out) | exact HB.out)⟩
                  · rw [if_neg c43] at H
                    exact absurd H (by simp)
                · rw [if_neg c42] at H
                  exact absurd H (by simp)
              · rw [if_neg c41] at H
                have c41b0 : decide (0 ≤ t112) = false := decide_eq_false c41
                clear c41
                simp only [Option.some.injEq, Prod.mk.injEq] at H
                obtain ⟨rfl, rfl, rfl, rfl, rfl, rfl, rfl⟩ := H
                go_wp2_with (first | ((with_reducible refine gate_callee (f := 31) rfl ?_); refine goesL_ (some 64) rfl rfl Try.func31 (by kernel_rfl) rfl #[.string (⟨#[40, 41, 123, 125, 44, 58, 43, 45, 42, 36, 61, 60, 62]⟩ : ByteArray), .int .u8 (bt a0 0)] rfl (by (try simp only [List.map_toArray, List.map_cons, List.map_nil]); first | done | rfl | (simp only [List.length_drop, List.length_take]; rfl)) ?_; (with_reducible refine (strings_IndexByte.calls (⟨#[40, 41, 123, 125, 44, 58, 43, 45, 42, 36, 61, 60, 62]⟩ : ByteArray) (bt a0 0) t112 _ ?side1 A40.out).mono ?_); (case side1 => (first | exact hG | ((repeat (first | exact hG | apply GW.drewN | apply GW.drew | apply GW.alloc)); done) | exact GW.below hG (by repeat (first | (with_reducible first | exact HB.out | apply below_alloc | apply pw_below_drewN | apply below_drew1 | refine below_set ?_ GE104.out) | exact HB.out)))); rintro e w' ⟨rfl, ⟨nd, rfl⟩⟩; refine ⟨_, rfl, ?_⟩; (try (rw [drewN_self wc]; generalize hq_ : World.drewN wc _ = wc; have n0_ : Aside0 (wc.heap[gb104]? = some (.cells #[.int .i64 0, .int .i64 0, .string (⟨#[]⟩ : ByteArray), .int .i64 0, .int .i64 0] 32 (0, 0))) := ⟨by rw [← hq_]; exact (by (with_reducible repeat (first | refine blk_drewN ?_ _ | refine blk_drew ?_ | refine blk_alloc ?_ _)); exact BK104.out)⟩; have n1_ : Aside0 (Below w.heap.size w wc) := ⟨by rw [← hq_]; exact (by repeat (first | (with_reducible first | exact HB.out | apply below_alloc | apply pw_below_drewN | apply below_drew1 | refine below_set ?_ GE104.out) | exact HB.out))⟩; clear BK104 HB hq_; have BK104 := n0_; have HB := n1_; clear n0_ n1_)); have hcz45_0 : wc.cell? ⟨gb104, 0, none⟩ = some (.int .i64 0) := (blk_cell BK104.out 0).trans rfl; have hcz45_1 : wc.cell? ⟨gb104, 1, none⟩ = some (.int .i64 0) := (blk_cell BK104.out 1).trans rfl; have hcz45_2 : wc.cell? ⟨gb104, 2, none⟩ = some (.string (⟨#[]⟩ : ByteArray)) := (blk_cell BK104.out 2).trans rfl; have hcz45_3 : wc.cell? ⟨gb104, 3, none⟩ = some (.int .i64 0) := (blk_cell BK104.out 3).trans rfl; have hcz45_4 : wc.cell? ⟨gb104, 4, none⟩ = some (.int .i64 0) := (blk_cell BK104.out 4).trans rfl; have hfz45_0 := blk_frozen BK104.out 0; have hfz45_1 := blk_frozen BK104.out 1; have hfz45_2 := blk_frozen BK104.out 2; have hfz45_3 := blk_frozen BK104.out 3; have hfz45_4 := blk_frozen BK104.out 4))
                refine bodyPost_ret (results_ctt rfl _ _ gb104 32 #[.int .i64 0, .int .i64 0, .string (⟨#[]⟩ : ByteArray), .int .i64 0, .int .i64 0] (0, 0) _ rfl (by (with_reducible repeat (first | refine blk_drewN ?_ _ | refine blk_drew ?_ | refine blk_alloc ?_ _)); refine blk_put (cs := #[.int .i64 0, .int .i64 0, .string (⟨#[]⟩ : ByteArray), .int .i64 0, .int .i64 0]) ?_ 4 _ rfl; (with_reducible repeat (first | refine blk_drewN ?_ _ | refine blk_drew ?_ | refine blk_alloc ?_ _)); refine blk_put (cs := #[.int .i64 0, .int .i64 0, .string (⟨#[]⟩ : ByteArray), .int .i64 0, .int .i64 0]) ?_ 3 _ rfl; (with_reducible repeat (first | refine blk_drewN ?_ _ | refine blk_drew ?_ | refine blk_alloc ?_ _)); refine blk_put (cs := #[.int .i64 0, .int .i64 0, .string (⟨#[]⟩ : ByteArray), .int .i64 0, .int .i64 0]) ?_ 2 _ rfl; (with_reducible repeat (first | refine blk_drewN ?_ _ | refine blk_drew ?_ | refine blk_alloc ?_ _)); refine blk_put (cs := #[.int .i64 0, .int .i64 0, .string (⟨#[]⟩ : ByteArray), .int .i64 0, .int .i64 0]) ?_ 1 _ rfl; (with_reducible repeat (first | refine blk_drewN ?_ _ | refine blk_drew ?_ | refine blk_alloc ?_ _)); refine blk_put (cs := #[.int .i64 0, .int .i64 0, .string (⟨#[]⟩ : ByteArray), .int .i64 0, .int .i64 0]) ?_ 0 _ rfl; (with_reducible repeat (first | refine blk_drewN ?_ _ | refine blk_drew ?_ | refine blk_alloc ?_ _)); exact BK104.out) Try.underlying32 rfl (by kernel_rfl)) rfl ?_
                exact ⟨by first | rfl | (simp [errW_none, errW_some] <;> rfl) | (simp [*, errW_none, errW_some] <;> rfl), by repeat (first | (with_reducible first | exact HB.out | apply below_alloc | apply pw_below_drewN | apply below_drew1 | refine below_set ?_ GE104.out) | exact HB.out)⟩
  · rw [if_neg c2] at H
    exact absurd H (by simp)

end Go.Proofs.Ytfkikmiajldojaa.S
