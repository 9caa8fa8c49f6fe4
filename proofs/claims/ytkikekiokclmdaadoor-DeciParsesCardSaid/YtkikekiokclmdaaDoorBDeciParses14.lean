/- What the proof needs, part 14 of 19. DeciParses answers true for every list of strings; the input reads as it did. -/
import Derived.Lib.Strings
import Derived.Lib.Walk
import Derived.Lib.IndexBytes
import Derived.Test.YtkikekiokclmdaaDoorBDeciParses10
import Derived.Test.YtkikekiokclmdaaDoorBDeciParses5
set_option linter.unusedVariables false
set_option linter.unusedSimpArgs false
namespace Go.Proofs.YtkikekiokclmdaaDoor.S
open Go.RowKit Go.Proofs.YtkikekiokclmdaaDoorW.PrintWords Go.Proofs.YtkikekiokclmdaaDoorW.PrintLast Go.Proofs.YtkikekiokclmdaaDoorW.PrintMore
def mcar (F : Nat → Int) (c : Int) : Nat → Int
  | 0 => c
  | j + 1 => (mcar F c j + 10 * F j) / 65536
def mulD (F : Nat → Int) (c : Int) (i : Nat) : Int := (mcar F c i + 10 * F i) % 65536
theorem mcar_le {F : Nat → Int} {c : Int} (hF : Dig F) (h0 : 0 ≤ c) (h1 : c ≤ 9) : ∀ j, j ≤ 12 → 0 ≤ mcar F c j ∧ mcar F c j ≤ 10
  | 0, _ => by simp only [mcar]; omega
  | j + 1, h => by
    have h2 := mcar_le hF h0 h1 j (by omega)
    have h3 := hF j (by omega)
    simp only [mcar]
    omega
def sb (s : ByteArray) (i : Nat) : Int := ((s.data.toList.getD i 0).toNat : Int)
def pF (s : ByteArray) : Nat → Nat → Int
  | 0 => fun _ => 0
  | i + 1 => if sb s i = 45 then pF s i else mulD (pF s i) (sb s i - 48)
theorem sb_at (s : ByteArray) (i : Nat) (h : i < s.size) : ((s[i]'h).toNat : Int) = sb s i := by
  unfold sb
  rw [List.getD_eq_getElem?_getD, Lib.data_getElem? s i h]
  rfl
def okB (s : ByteArray) : Bool := s.data.toList.all (fun b => b == 45 || (decide (48 ≤ b.toNat) && decide (b.toNat ≤ 57)))
theorem okB_at {s : ByteArray} (h : okB s = true) (i : Nat) (hi : i < s.size) : sb s i = 45 ∨ (48 ≤ sb s i ∧ sb s i ≤ 57) := by
  have h1 := List.all_eq_true.1 h (s[i]'hi) (List.mem_of_getElem? (Lib.data_getElem? s i hi))
  rw [← sb_at s i hi]
  simp only [Bool.or_eq_true, beq_iff_eq, Bool.and_eq_true, decide_eq_true_iff] at h1
  rcases h1 with h1 | ⟨h1, h2⟩
  · left; rw [h1]; rfl
  · right; omega
theorem mul_step {F : Nat → Int} {c : Int} {j i : Nat} : upd (fun i_ => if i_ < j then mulD F c i_ else F i_) j (mulD F c j) i = (if i < j + 1 then mulD F c i else F i) := by
  unfold upd
  by_cases e : i = j
  · rw [if_pos e, if_pos (by omega), e]
  · rw [if_neg e]
    show (if i < j then mulD F c i else F i) = _
    by_cases e2 : i < j
    · rw [if_pos e2, if_pos (by omega)]
    · rw [if_neg e2, if_neg (by omega)]
theorem pF_dig (s : ByteArray) : ∀ i, Dig (pF s i)
  | 0 => fun i hi => by simp [pF]
  | i + 1 => by
    simp only [pF]
    split
    · exact pF_dig s i
    · exact fun j hj => by unfold mulD; omega
set_option maxHeartbeats 4000000 in
set_option maxRecDepth 100000 in
theorem parseR_ft (k : Nat) (s : ByteArray) (hp : zAO.f k s = some true) (hs : s.size ≤ 40) (h0 : 0 < s.size) (hall : okB s = true) (hn : sb s 0 ≠ 45) (hok : okD (pF s s.size) = true) (w : World) :
    Calls Tryd.prog 11 #[.string s] w fun e w' => e = .returned (.tuple #[.agg #[.int .i64 (wrap64 (hv (pF s s.size) 4 0)), .int .u64 (hv (pF s s.size) 0 0)], .int .i64 0]) ∧ Below w.heap.size w w' := by
  have hwd := fun W => wide_c (pF s s.size) (by exact pF_dig s _) W
  rw [show wideV (pF s s.size) = .agg #[.int .i64 (wrap64 (hv (pF s s.size) 4 0)), .int .u64 (hv (pF s s.size) 0 0)] from by unfold wideV; rw [hok]; rfl, hok] at hwd
  have hpl := fun W => zAO.calls k s true W hp
  have HALL := aK_ hall
  have HN := aK_ hn
  have c40 : decide (40 < (s.size : Int)) = false := decide_eq_false (by omega)
  have H0 := aK_ h0
  have HS := aK_ hs
  clear hp hs hall hok hn h0
  go_enter Tryd.func11, Tryd.ntmps11
  go_wp2_with (go_at_call 29; fail)
  refine (hpl _).mono ?_
  rintro e w1 ⟨rfl, hb⟩
  obtain ⟨m, rfl⟩ := hb
  clear hpl
  go_wp2
  clear c40
  go_loopg [5] s.size (fun k v5 wr => ∃ (j : Nat), v5 = .int .i64 j ∧ zAF (j + k = s.size) ∧ zAF (Ar wr (w.heap.size + 1) (pF s j)) ∧ zAF (wr.heap[w.heap.size]? = some (.cells #[.int .i64 0, .int .u64 0] 27 (0, 0))) ∧ zAF (Below w.heap.size w wr))
  case atStart => exact ⟨0, rfl, ⟨by omega⟩, ⟨Ar.of (F := fun _ => 0) (blk_new' _ _ (by exact (hs_alloc w _).symm)) (fun i hi => rfl)⟩, ⟨blk_alloc (blk_drewN (blk_new w _) _) _⟩, ⟨zAX (zAJ (zAX (Below.refl _ _) _) _) _⟩⟩
  case round =>
    obtain ⟨i, rfl, HJ, HA, HX, HW⟩ := hrel
    cases gk with
    | zero =>
      obtain rfl : i = s.size := by have := HJ.out; omega
      have ci : decide ((s.size : Int) < (s.size : Int)) = false := decide_eq_false (by omega)
      have hp0 : (0 : Int) < (s.size : Int) := by have := H0.out; omega
      have hp0' : 0 < s.size := H0.out
      have cz : (((s[0]'hp0').toNat : Int) == 45) = false := by rw [sb_at s 0 hp0']; exact beq_eq_false_iff_ne.2 HN.out
      have l0 : wr.cell? ⟨w.heap.size + 1, 0, none⟩ = some (.int .u64 (pF s s.size 0)) := HA.out.cell 0 (by decide)
      have l1 : wr.cell? ⟨w.heap.size + 1, 1, none⟩ = some (.int .u64 (pF s s.size 1)) := HA.out.cell 1 (by decide)
      have l2 : wr.cell? ⟨w.heap.size + 1, 2, none⟩ = some (.int .u64 (pF s s.size 2)) := HA.out.cell 2 (by decide)
      have l3 : wr.cell? ⟨w.heap.size + 1, 3, none⟩ = some (.int .u64 (pF s s.size 3)) := HA.out.cell 3 (by decide)
      have l4 : wr.cell? ⟨w.heap.size + 1, 4, none⟩ = some (.int .u64 (pF s s.size 4)) := HA.out.cell 4 (by decide)
      have l5 : wr.cell? ⟨w.heap.size + 1, 5, none⟩ = some (.int .u64 (pF s s.size 5)) := HA.out.cell 5 (by decide)
      have l6 : wr.cell? ⟨w.heap.size + 1, 6, none⟩ = some (.int .u64 (pF s s.size 6)) := HA.out.cell 6 (by decide)
      have l7 : wr.cell? ⟨w.heap.size + 1, 7, none⟩ = some (.int .u64 (pF s s.size 7)) := HA.out.cell 7 (by decide)
      have l8 : wr.cell? ⟨w.heap.size + 1, 8, none⟩ = some (.int .u64 (pF s s.size 8)) := HA.out.cell 8 (by decide)
      have l9 : wr.cell? ⟨w.heap.size + 1, 9, none⟩ = some (.int .u64 (pF s s.size 9)) := HA.out.cell 9 (by decide)
      have l10 : wr.cell? ⟨w.heap.size + 1, 10, none⟩ = some (.int .u64 (pF s s.size 10)) := HA.out.cell 10 (by decide)
      have l11 : wr.cell? ⟨w.heap.size + 1, 11, none⟩ = some (.int .u64 (pF s s.size 11)) := HA.out.cell 11 (by decide)
      go_wp2_with (go_at_call 31; fail)
      refine (hwd _).mono ?_
      rintro e w4 ⟨rfl, hb⟩
      have HX4 := aK_ (zAC HX.out hb)
      have HW4 := aK_ (zAD HW.out hb)
      clear hb hwd
      clear l0
      clear l1
      clear l2
      clear l3
      clear l4
      clear l5
      clear l6
      clear l7
      clear l8
      clear l9
      clear l10
      clear l11
      have hx0 : w4.cell? ⟨w.heap.size, 0, none⟩ = some (.int .i64 0) := zAA HX4.out 0
      have hx1 : w4.cell? ⟨w.heap.size, 1, none⟩ = some (.int .u64 0) := zAA HX4.out 1
      have hx2 : w4.frozen? ⟨w.heap.size, 0, none⟩ = false := zAB HX4.out 0
      have hx3 : w4.frozen? ⟨w.heap.size, 1, none⟩ = false := zAB HX4.out 1
      have hlt := zAG HX4.out
      have hne : ¬ (w.heap.size = w4.heap.size) := by omega
      have hne' : ¬ (w4.heap.size = w.heap.size) := by omega
      go_wp2
      repeat (go_quiet (fail); try go_wp2)
      refine bodyPost_ret (results_ct rfl _ _ w.heap.size 27 #[.int .i64 (wrap64 (hv (pF s s.size) 4 0)), .int .u64 (hv (pF s s.size) 0 0)] (0, 0) _ rfl (blk_alloc (zAU (zAU HX4.out 0 (.int .i64 (wrap64 (hv (pF s s.size) 4 0))) rfl) 1 (.int .u64 (hv (pF s s.size) 0 0)) rfl) _) Tryd.underlying27 rfl (by kernel_rfl)) rfl ?_
      exact ⟨rfl, zAX (zAQ (zAQ HW4.out (by omega)) (by omega)) _⟩
    | succ k =>
      have hi : i < s.size := by have := HJ.out; omega
      have ci : decide ((i : Int) < (s.size : Int)) = true := decide_eq_true (by omega)
      have hi' : (i : Int) < (s.size : Int) := by omega
      have hi1 : IntKind.i64.wrap ((i : Int) + 1) = ((i + 1 : Nat) : Int) := by have := HS.out; rw [IntKind.wrap_i64]; omega
      by_cases h45 : sb s i = 45
      · have cz : (((s[i]'hi).toNat : Int) == 45) = true := by rw [sb_at s i hi]; exact beq_iff_eq.2 h45
        have H45 := aK_ h45
        clear h45
        go_wp2
        go_roundg k
        case measure => omega
        case rel => exact ⟨i + 1, by first | rfl | simp, ⟨by have := HJ.out; omega⟩, ⟨by rw [show pF s (i + 1) = pF s i from by simp only [pF]; rw [if_pos H45.out]]; exact HA.out⟩, HX, HW⟩
      · have cz : (((s[i]'hi).toNat : Int) == 45) = false := by rw [sb_at s i hi]; exact beq_eq_false_iff_ne.2 h45
        have hd := (okB_at HALL.out i hi).resolve_left h45
        have hw48 : IntKind.u64.wrap (IntKind.u64.wrap ((s[i]'hi).toNat : Int) - 48) = mcar (pF s i) (sb s i - 48) 0 := by rw [sb_at s i hi]; simp only [mcar]; rw [wraps_u64' (sb s i) (by omega) (by omega)]; exact wraps_u64' _ (by omega) (by omega)
        have H45 := aK_ h45
        have HD := aK_ hd
        clear h45 hd
        go_wp2
        generalize hF : pF s i = F at HA
        have HFd := aK_ (show Dig F from hF ▸ pF_dig s i)
        have EF := aK_ hF
        clear hF
        go_loopg [6, 7] 12 (fun g v6 v7 wr => ∃ (j : Nat), v7 = .int .i64 j ∧ v6 = .int .u64 (mcar F (sb s i - 48) j) ∧ zAF (j + g = 12) ∧ zAF (Ar wr (w.heap.size + 1) (fun i_ => if i_ < j then mulD F (sb s i - 48) i_ else F i_)) ∧ zAF (wr.heap[w.heap.size]? = some (.cells #[.int .i64 0, .int .u64 0] 27 (0, 0))) ∧ zAF (Below w.heap.size w wr))
        case atStart => exact ⟨0, rfl, rfl, ⟨rfl⟩, ⟨Ar.congr HA.out (fun i_ h_ => by simp)⟩, HX, HW⟩
        case round =>
          clear HA HX HW
          obtain ⟨j, rfl, rfl, HK, HA, HX, HW⟩ := hrel
          cases gk with
          | zero =>
            obtain rfl : j = 12 := by have := HK.out; omega
            go_wp2
            go_roundg k
            case measure => omega
            case rel => exact ⟨i + 1, by first | rfl | simp, ⟨by have := HJ.out; omega⟩, ⟨Ar.congr HA.out (fun i_ h_ => by simp only [pF]; rw [if_neg H45.out, EF.out, if_pos h_])⟩, HX, HW⟩
          | succ g =>
            have hj : j < 12 := by have := HK.out; omega
            have cj : decide ((j : Int) < 12) = true := decide_eq_true (by omega)
            have hj' : (j : Int) < 12 := by omega
            have b1 := mcar_le HFd.out (by have := HD.out; omega : 0 ≤ sb s i - 48) (by have := HD.out; omega) j (by omega)
            have b2 := HFd.out j hj
            have hc1 : wr.cell? ⟨w.heap.size + 1, j, none⟩ = some (.int .u64 (F j)) := (HA.out.cell j hj).trans (by rw [if_neg (Nat.lt_irrefl j)])
            have hf1 : wr.frozen? ⟨w.heap.size + 1, j, none⟩ = false := HA.out.frozen j
            have hw1 : IntKind.u64.wrap (10 * F j) = 10 * F j := wraps_u64' _ (by omega) (by omega)
            have hw2 : IntKind.u64.wrap (mcar F (sb s i - 48) j + 10 * F j) = mcar F (sb s i - 48) j + 10 * F j := wraps_u64' _ (by omega) (by omega)
            have ht : Int.tmod (mcar F (sb s i - 48) j + 10 * F j) 65536 = mulD F (sb s i - 48) j := tmod_pos' _ _ (by omega)
            have hq : IntKind.u64.wrap (Int.tdiv (mcar F (sb s i - 48) j + 10 * F j) 65536) = mcar F (sb s i - 48) (j + 1) := by rw [tdiv_pos' _ _ (by omega), wraps_u64' _ (by omega) (by omega)]; rfl
            have hj1 : IntKind.i64.wrap ((j : Int) + 1) = ((j + 1 : Nat) : Int) := by rw [IntKind.wrap_i64]; omega
            clear hj b1 b2
            go_wp2
            repeat (go_quiet (fail); try go_wp2)
            go_roundg g
            case measure => omega
            case rel => exact ⟨j + 1, by first | rfl | simp, rfl, ⟨by have := HK.out; omega⟩, ⟨Ar.congr ((by first | exact HA.out | exact HA.out.drewN _ : Ar _ (w.heap.size + 1) _).set j (mulD F (sb s i - 48) j) (by omega)) (fun i_ h_ => mul_step)⟩, ⟨zAZ (by first | exact HX.out | exact blk_drewN HX.out _) (show w.heap.size ≠ w.heap.size + 1 by omega) _⟩, ⟨zAQ (by first | exact HW.out | exact zAJ HW.out _) (by omega)⟩⟩
set_option maxHeartbeats 4000000 in
set_option maxRecDepth 100000 in
theorem parseR_ff (k : Nat) (s : ByteArray) (hp : zAO.f k s = some true) (hs : s.size ≤ 40) (h0 : 0 < s.size) (hall : okB s = true) (hn : sb s 0 ≠ 45) (hok : okD (pF s s.size) = false) (w : World) :
    Calls Tryd.prog 11 #[.string s] w fun e w' => e = .returned (.tuple #[.agg #[.int .i64 0, .int .u64 0], .int .i64 10]) ∧ Below w.heap.size w w' := by
  have hwd := fun W => wide_c (pF s s.size) (by exact pF_dig s _) W
  rw [show wideV (pF s s.size) = .agg #[.int .i64 0, .int .u64 0] from by unfold wideV; rw [hok]; rfl, hok] at hwd
  have hpl := fun W => zAO.calls k s true W hp
  have HALL := aK_ hall
  have HN := aK_ hn
  have c40 : decide (40 < (s.size : Int)) = false := decide_eq_false (by omega)
  have H0 := aK_ h0
  have HS := aK_ hs
  clear hp hs hall hok hn h0
  go_enter Tryd.func11, Tryd.ntmps11
  go_wp2_with (go_at_call 29; fail)
  refine (hpl _).mono ?_
  rintro e w1 ⟨rfl, hb⟩
  obtain ⟨m, rfl⟩ := hb
  clear hpl
  go_wp2
  clear c40
  go_loopg [5] s.size (fun k v5 wr => ∃ (j : Nat), v5 = .int .i64 j ∧ zAF (j + k = s.size) ∧ zAF (Ar wr (w.heap.size + 1) (pF s j)) ∧ zAF (wr.heap[w.heap.size]? = some (.cells #[.int .i64 0, .int .u64 0] 27 (0, 0))) ∧ zAF (Below w.heap.size w wr))
  case atStart => exact ⟨0, rfl, ⟨by omega⟩, ⟨Ar.of (F := fun _ => 0) (blk_new' _ _ (by exact (hs_alloc w _).symm)) (fun i hi => rfl)⟩, ⟨blk_alloc (blk_drewN (blk_new w _) _) _⟩, ⟨zAX (zAJ (zAX (Below.refl _ _) _) _) _⟩⟩
  case round =>
    obtain ⟨i, rfl, HJ, HA, HX, HW⟩ := hrel
    cases gk with
    | zero =>
      obtain rfl : i = s.size := by have := HJ.out; omega
      have ci : decide ((s.size : Int) < (s.size : Int)) = false := decide_eq_false (by omega)
      have hp0 : (0 : Int) < (s.size : Int) := by have := H0.out; omega
      have hp0' : 0 < s.size := H0.out
      have cz : (((s[0]'hp0').toNat : Int) == 45) = false := by rw [sb_at s 0 hp0']; exact beq_eq_false_iff_ne.2 HN.out
      have l0 : wr.cell? ⟨w.heap.size + 1, 0, none⟩ = some (.int .u64 (pF s s.size 0)) := HA.out.cell 0 (by decide)
      have l1 : wr.cell? ⟨w.heap.size + 1, 1, none⟩ = some (.int .u64 (pF s s.size 1)) := HA.out.cell 1 (by decide)
      have l2 : wr.cell? ⟨w.heap.size + 1, 2, none⟩ = some (.int .u64 (pF s s.size 2)) := HA.out.cell 2 (by decide)
      have l3 : wr.cell? ⟨w.heap.size + 1, 3, none⟩ = some (.int .u64 (pF s s.size 3)) := HA.out.cell 3 (by decide)
      have l4 : wr.cell? ⟨w.heap.size + 1, 4, none⟩ = some (.int .u64 (pF s s.size 4)) := HA.out.cell 4 (by decide)
      have l5 : wr.cell? ⟨w.heap.size + 1, 5, none⟩ = some (.int .u64 (pF s s.size 5)) := HA.out.cell 5 (by decide)
      have l6 : wr.cell? ⟨w.heap.size + 1, 6, none⟩ = some (.int .u64 (pF s s.size 6)) := HA.out.cell 6 (by decide)
      have l7 : wr.cell? ⟨w.heap.size + 1, 7, none⟩ = some (.int .u64 (pF s s.size 7)) := HA.out.cell 7 (by decide)
      have l8 : wr.cell? ⟨w.heap.size + 1, 8, none⟩ = some (.int .u64 (pF s s.size 8)) := HA.out.cell 8 (by decide)
      have l9 : wr.cell? ⟨w.heap.size + 1, 9, none⟩ = some (.int .u64 (pF s s.size 9)) := HA.out.cell 9 (by decide)
      have l10 : wr.cell? ⟨w.heap.size + 1, 10, none⟩ = some (.int .u64 (pF s s.size 10)) := HA.out.cell 10 (by decide)
      have l11 : wr.cell? ⟨w.heap.size + 1, 11, none⟩ = some (.int .u64 (pF s s.size 11)) := HA.out.cell 11 (by decide)
      go_wp2_with (go_at_call 31; fail)
      refine (hwd _).mono ?_
      rintro e w4 ⟨rfl, hb⟩
      have HX4 := aK_ (zAC HX.out hb)
      have HW4 := aK_ (zAD HW.out hb)
      clear hb hwd
      clear l0
      clear l1
      clear l2
      clear l3
      clear l4
      clear l5
      clear l6
      clear l7
      clear l8
      clear l9
      clear l10
      clear l11
      have hx0 : w4.cell? ⟨w.heap.size, 0, none⟩ = some (.int .i64 0) := zAA HX4.out 0
      have hx1 : w4.cell? ⟨w.heap.size, 1, none⟩ = some (.int .u64 0) := zAA HX4.out 1
      have hx2 : w4.frozen? ⟨w.heap.size, 0, none⟩ = false := zAB HX4.out 0
      have hx3 : w4.frozen? ⟨w.heap.size, 1, none⟩ = false := zAB HX4.out 1
      have hlt := zAG HX4.out
      have hne : ¬ (w.heap.size = w4.heap.size) := by omega
      have hne' : ¬ (w4.heap.size = w.heap.size) := by omega
      go_wp2
      repeat (go_quiet (fail); try go_wp2)
      refine bodyPost_ret (results_ct rfl _ _ w.heap.size 27 #[.int .i64 0, .int .u64 0] (0, 0) _ rfl (blk_alloc (zAU (zAU HX4.out 0 (.int .i64 (0)) rfl) 1 (.int .u64 (0)) rfl) _) Tryd.underlying27 rfl (by kernel_rfl)) rfl ?_
      exact ⟨rfl, zAX (zAQ (zAQ HW4.out (by omega)) (by omega)) _⟩
    | succ k =>
      have hi : i < s.size := by have := HJ.out; omega
      have ci : decide ((i : Int) < (s.size : Int)) = true := decide_eq_true (by omega)
      have hi' : (i : Int) < (s.size : Int) := by omega
      have hi1 : IntKind.i64.wrap ((i : Int) + 1) = ((i + 1 : Nat) : Int) := by have := HS.out; rw [IntKind.wrap_i64]; omega
      by_cases h45 : sb s i = 45
      · have cz : (((s[i]'hi).toNat : Int) == 45) = true := by rw [sb_at s i hi]; exact beq_iff_eq.2 h45
        have H45 := aK_ h45
        clear h45
        go_wp2
        go_roundg k
        case measure => omega
        case rel => exact ⟨i + 1, by first | rfl | simp, ⟨by have := HJ.out; omega⟩, ⟨by rw [show pF s (i + 1) = pF s i from by simp only [pF]; rw [if_pos H45.out]]; exact HA.out⟩, HX, HW⟩
      · have cz : (((s[i]'hi).toNat : Int) == 45) = false := by rw [sb_at s i hi]; exact beq_eq_false_iff_ne.2 h45
        have hd := (okB_at HALL.out i hi).resolve_left h45
        have hw48 : IntKind.u64.wrap (IntKind.u64.wrap ((s[i]'hi).toNat : Int) - 48) = mcar (pF s i) (sb s i - 48) 0 := by rw [sb_at s i hi]; simp only [mcar]; rw [wraps_u64' (sb s i) (by omega) (by omega)]; exact wraps_u64' _ (by omega) (by omega)
        have H45 := aK_ h45
        have HD := aK_ hd
        clear h45 hd
        go_wp2
        generalize hF : pF s i = F at HA
        have HFd := aK_ (show Dig F from hF ▸ pF_dig s i)
        have EF := aK_ hF
        clear hF
        go_loopg [6, 7] 12 (fun g v6 v7 wr => ∃ (j : Nat), v7 = .int .i64 j ∧ v6 = .int .u64 (mcar F (sb s i - 48) j) ∧ zAF (j + g = 12) ∧ zAF (Ar wr (w.heap.size + 1) (fun i_ => if i_ < j then mulD F (sb s i - 48) i_ else F i_)) ∧ zAF (wr.heap[w.heap.size]? = some (.cells #[.int .i64 0, .int .u64 0] 27 (0, 0))) ∧ zAF (Below w.heap.size w wr))
        case atStart => exact ⟨0, rfl, rfl, ⟨rfl⟩, ⟨Ar.congr HA.out (fun i_ h_ => by simp)⟩, HX, HW⟩
        case round =>
          clear HA HX HW
          obtain ⟨j, rfl, rfl, HK, HA, HX, HW⟩ := hrel
          cases gk with
          | zero =>
            obtain rfl : j = 12 := by have := HK.out; omega
            go_wp2
            go_roundg k
            case measure => omega
            case rel => exact ⟨i + 1, by first | rfl | simp, ⟨by have := HJ.out; omega⟩, ⟨Ar.congr HA.out (fun i_ h_ => by simp only [pF]; rw [if_neg H45.out, EF.out, if_pos h_])⟩, HX, HW⟩
          | succ g =>
            have hj : j < 12 := by have := HK.out; omega
            have cj : decide ((j : Int) < 12) = true := decide_eq_true (by omega)
            have hj' : (j : Int) < 12 := by omega
            have b1 := mcar_le HFd.out (by have := HD.out; omega : 0 ≤ sb s i - 48) (by have := HD.out; omega) j (by omega)
            have b2 := HFd.out j hj
            have hc1 : wr.cell? ⟨w.heap.size + 1, j, none⟩ = some (.int .u64 (F j)) := (HA.out.cell j hj).trans (by rw [if_neg (Nat.lt_irrefl j)])
            have hf1 : wr.frozen? ⟨w.heap.size + 1, j, none⟩ = false := HA.out.frozen j
            have hw1 : IntKind.u64.wrap (10 * F j) = 10 * F j := wraps_u64' _ (by omega) (by omega)
            have hw2 : IntKind.u64.wrap (mcar F (sb s i - 48) j + 10 * F j) = mcar F (sb s i - 48) j + 10 * F j := wraps_u64' _ (by omega) (by omega)
            have ht : Int.tmod (mcar F (sb s i - 48) j + 10 * F j) 65536 = mulD F (sb s i - 48) j := tmod_pos' _ _ (by omega)
            have hq : IntKind.u64.wrap (Int.tdiv (mcar F (sb s i - 48) j + 10 * F j) 65536) = mcar F (sb s i - 48) (j + 1) := by rw [tdiv_pos' _ _ (by omega), wraps_u64' _ (by omega) (by omega)]; rfl
            have hj1 : IntKind.i64.wrap ((j : Int) + 1) = ((j + 1 : Nat) : Int) := by rw [IntKind.wrap_i64]; omega
            clear hj b1 b2
            go_wp2
            repeat (go_quiet (fail); try go_wp2)
            go_roundg g
            case measure => omega
            case rel => exact ⟨j + 1, by first | rfl | simp, rfl, ⟨by have := HK.out; omega⟩, ⟨Ar.congr ((by first | exact HA.out | exact HA.out.drewN _ : Ar _ (w.heap.size + 1) _).set j (mulD F (sb s i - 48) j) (by omega)) (fun i_ h_ => mul_step)⟩, ⟨zAZ (by first | exact HX.out | exact blk_drewN HX.out _) (show w.heap.size ≠ w.heap.size + 1 by omega) _⟩, ⟨zAQ (by first | exact HW.out | exact zAJ HW.out _) (by omega)⟩⟩
set_option maxHeartbeats 4000000 in
set_option maxRecDepth 100000 in
theorem parseR_tt (k : Nat) (s : ByteArray) (hp : zAO.f k s = some true) (hs : s.size ≤ 40) (h0 : 0 < s.size) (hall : okB s = true) (hn : sb s 0 = 45) (hok : okD (plusD (turnD (pF s s.size)) oneF) = true) (w : World) :
    Calls Tryd.prog 11 #[.string s] w fun e w' => e = .returned (.tuple #[.agg #[.int .i64 (wrap64 (hv (plusD (turnD (pF s s.size)) oneF) 4 0)), .int .u64 (hv (plusD (turnD (pF s s.size)) oneF) 0 0)], .int .i64 0]) ∧ Below w.heap.size w w' := by
  have hwd := fun W => wide_c (plusD (turnD (pF s s.size)) oneF) (by exact Dig.plus _ _) W
  rw [show wideV (plusD (turnD (pF s s.size)) oneF) = .agg #[.int .i64 (wrap64 (hv (plusD (turnD (pF s s.size)) oneF) 4 0)), .int .u64 (hv (plusD (turnD (pF s s.size)) oneF) 0 0)] from by unfold wideV; rw [hok]; rfl, hok] at hwd
  have hpl := fun W => zAO.calls k s true W hp
  have HALL := aK_ hall
  have HN := aK_ hn
  have c40 : decide (40 < (s.size : Int)) = false := decide_eq_false (by omega)
  have H0 := aK_ h0
  have HS := aK_ hs
  clear hp hs hall hok hn h0
  go_enter Tryd.func11, Tryd.ntmps11
  go_wp2_with (go_at_call 29; fail)
  refine (hpl _).mono ?_
  rintro e w1 ⟨rfl, hb⟩
  obtain ⟨m, rfl⟩ := hb
  clear hpl
  go_wp2
  clear c40
  go_loopg [5] s.size (fun k v5 wr => ∃ (j : Nat), v5 = .int .i64 j ∧ zAF (j + k = s.size) ∧ zAF (Ar wr (w.heap.size + 1) (pF s j)) ∧ zAF (wr.heap[w.heap.size]? = some (.cells #[.int .i64 0, .int .u64 0] 27 (0, 0))) ∧ zAF (Below w.heap.size w wr))
  case atStart => exact ⟨0, rfl, ⟨by omega⟩, ⟨Ar.of (F := fun _ => 0) (blk_new' _ _ (by exact (hs_alloc w _).symm)) (fun i hi => rfl)⟩, ⟨blk_alloc (blk_drewN (blk_new w _) _) _⟩, ⟨zAX (zAJ (zAX (Below.refl _ _) _) _) _⟩⟩
  case round =>
    obtain ⟨i, rfl, HJ, HA, HX, HW⟩ := hrel
    cases gk with
    | zero =>
      obtain rfl : i = s.size := by have := HJ.out; omega
      have ci : decide ((s.size : Int) < (s.size : Int)) = false := decide_eq_false (by omega)
      have hp0 : (0 : Int) < (s.size : Int) := by have := H0.out; omega
      have hp0' : 0 < s.size := H0.out
      have cz : (((s[0]'hp0').toNat : Int) == 45) = true := by rw [sb_at s 0 hp0']; exact beq_iff_eq.2 HN.out
      have l0 : wr.cell? ⟨w.heap.size + 1, 0, none⟩ = some (.int .u64 (pF s s.size 0)) := HA.out.cell 0 (by decide)
      have l1 : wr.cell? ⟨w.heap.size + 1, 1, none⟩ = some (.int .u64 (pF s s.size 1)) := HA.out.cell 1 (by decide)
      have l2 : wr.cell? ⟨w.heap.size + 1, 2, none⟩ = some (.int .u64 (pF s s.size 2)) := HA.out.cell 2 (by decide)
      have l3 : wr.cell? ⟨w.heap.size + 1, 3, none⟩ = some (.int .u64 (pF s s.size 3)) := HA.out.cell 3 (by decide)
      have l4 : wr.cell? ⟨w.heap.size + 1, 4, none⟩ = some (.int .u64 (pF s s.size 4)) := HA.out.cell 4 (by decide)
      have l5 : wr.cell? ⟨w.heap.size + 1, 5, none⟩ = some (.int .u64 (pF s s.size 5)) := HA.out.cell 5 (by decide)
      have l6 : wr.cell? ⟨w.heap.size + 1, 6, none⟩ = some (.int .u64 (pF s s.size 6)) := HA.out.cell 6 (by decide)
      have l7 : wr.cell? ⟨w.heap.size + 1, 7, none⟩ = some (.int .u64 (pF s s.size 7)) := HA.out.cell 7 (by decide)
      have l8 : wr.cell? ⟨w.heap.size + 1, 8, none⟩ = some (.int .u64 (pF s s.size 8)) := HA.out.cell 8 (by decide)
      have l9 : wr.cell? ⟨w.heap.size + 1, 9, none⟩ = some (.int .u64 (pF s s.size 9)) := HA.out.cell 9 (by decide)
      have l10 : wr.cell? ⟨w.heap.size + 1, 10, none⟩ = some (.int .u64 (pF s s.size 10)) := HA.out.cell 10 (by decide)
      have l11 : wr.cell? ⟨w.heap.size + 1, 11, none⟩ = some (.int .u64 (pF s s.size 11)) := HA.out.cell 11 (by decide)
      have hq := fun W => turned_c (pF s s.size) (pF_dig s _) W
      go_wp2_with (go_at_call 30; fail)
      refine (hq _).mono ?_
      rintro e w2 ⟨rfl, hb⟩
      have HA2 := aK_ (HA.out.below hb)
      have HX2 := aK_ (zAC HX.out hb)
      have HW2 := aK_ (zAD HW.out hb)
      clear l0
      clear l1
      clear l2
      clear l3
      clear l4
      clear l5
      clear l6
      clear l7
      clear l8
      clear l9
      clear l10
      clear l11
      clear hb HA HX HW
      go_wp2
      rw [run_store_ar _ HA2.out]
      simp only [Result.andThen]
      rw [Oper.upon_skip]
      have HA3 := aK_ (st12_ar (plusD (turnD (pF s s.size)) oneF) HA2.out)
      have HX3 := aK_ (show (st12 w2 (w.heap.size + 1) (plusD (turnD (pF s s.size)) oneF)).heap[w.heap.size]? = some (.cells #[.int .i64 0, .int .u64 0] 27 (0, 0)) from st12_blk _ HX2.out (by omega))
      have HW3 := aK_ (st12_below (plusD (turnD (pF s s.size)) oneF) HW2.out (by omega : w.heap.size ≤ w.heap.size + 1))
      generalize st12 w2 (w.heap.size + 1) (plusD (turnD (pF s s.size)) oneF) = wr at HA3 HX3 HW3 ⊢
      clear HA2 HX2 HW2 hq
      have l0 : wr.cell? ⟨w.heap.size + 1, 0, none⟩ = some (.int .u64 (plusD (turnD (pF s s.size)) oneF 0)) := HA3.out.cell 0 (by decide)
      have l1 : wr.cell? ⟨w.heap.size + 1, 1, none⟩ = some (.int .u64 (plusD (turnD (pF s s.size)) oneF 1)) := HA3.out.cell 1 (by decide)
      have l2 : wr.cell? ⟨w.heap.size + 1, 2, none⟩ = some (.int .u64 (plusD (turnD (pF s s.size)) oneF 2)) := HA3.out.cell 2 (by decide)
      have l3 : wr.cell? ⟨w.heap.size + 1, 3, none⟩ = some (.int .u64 (plusD (turnD (pF s s.size)) oneF 3)) := HA3.out.cell 3 (by decide)
      have l4 : wr.cell? ⟨w.heap.size + 1, 4, none⟩ = some (.int .u64 (plusD (turnD (pF s s.size)) oneF 4)) := HA3.out.cell 4 (by decide)
      have l5 : wr.cell? ⟨w.heap.size + 1, 5, none⟩ = some (.int .u64 (plusD (turnD (pF s s.size)) oneF 5)) := HA3.out.cell 5 (by decide)
      have l6 : wr.cell? ⟨w.heap.size + 1, 6, none⟩ = some (.int .u64 (plusD (turnD (pF s s.size)) oneF 6)) := HA3.out.cell 6 (by decide)
      have l7 : wr.cell? ⟨w.heap.size + 1, 7, none⟩ = some (.int .u64 (plusD (turnD (pF s s.size)) oneF 7)) := HA3.out.cell 7 (by decide)
      have l8 : wr.cell? ⟨w.heap.size + 1, 8, none⟩ = some (.int .u64 (plusD (turnD (pF s s.size)) oneF 8)) := HA3.out.cell 8 (by decide)
      have l9 : wr.cell? ⟨w.heap.size + 1, 9, none⟩ = some (.int .u64 (plusD (turnD (pF s s.size)) oneF 9)) := HA3.out.cell 9 (by decide)
      have l10 : wr.cell? ⟨w.heap.size + 1, 10, none⟩ = some (.int .u64 (plusD (turnD (pF s s.size)) oneF 10)) := HA3.out.cell 10 (by decide)
      have l11 : wr.cell? ⟨w.heap.size + 1, 11, none⟩ = some (.int .u64 (plusD (turnD (pF s s.size)) oneF 11)) := HA3.out.cell 11 (by decide)
      go_wp2_with (go_at_call 31; fail)
      refine (hwd _).mono ?_
      rintro e w4 ⟨rfl, hb⟩
      have HX4 := aK_ (zAC HX3.out hb)
      have HW4 := aK_ (zAD HW3.out hb)
      clear hb hwd
      clear l0
      clear l1
      clear l2
      clear l3
      clear l4
      clear l5
      clear l6
      clear l7
      clear l8
      clear l9
      clear l10
      clear l11
      have hx0 : w4.cell? ⟨w.heap.size, 0, none⟩ = some (.int .i64 0) := zAA HX4.out 0
      have hx1 : w4.cell? ⟨w.heap.size, 1, none⟩ = some (.int .u64 0) := zAA HX4.out 1
      have hx2 : w4.frozen? ⟨w.heap.size, 0, none⟩ = false := zAB HX4.out 0
      have hx3 : w4.frozen? ⟨w.heap.size, 1, none⟩ = false := zAB HX4.out 1
      have hlt := zAG HX4.out
      have hne : ¬ (w.heap.size = w4.heap.size) := by omega
      have hne' : ¬ (w4.heap.size = w.heap.size) := by omega
      go_wp2
      repeat (go_quiet (fail); try go_wp2)
      refine bodyPost_ret (results_ct rfl _ _ w.heap.size 27 #[.int .i64 (wrap64 (hv (plusD (turnD (pF s s.size)) oneF) 4 0)), .int .u64 (hv (plusD (turnD (pF s s.size)) oneF) 0 0)] (0, 0) _ rfl (blk_alloc (zAU (zAU HX4.out 0 (.int .i64 (wrap64 (hv (plusD (turnD (pF s s.size)) oneF) 4 0))) rfl) 1 (.int .u64 (hv (plusD (turnD (pF s s.size)) oneF) 0 0)) rfl) _) Tryd.underlying27 rfl (by kernel_rfl)) rfl ?_
      exact ⟨rfl, zAX (zAQ (zAQ HW4.out (by omega)) (by omega)) _⟩
    | succ k =>
      have hi : i < s.size := by have := HJ.out; omega
      have ci : decide ((i : Int) < (s.size : Int)) = true := decide_eq_true (by omega)
      have hi' : (i : Int) < (s.size : Int) := by omega
      have hi1 : IntKind.i64.wrap ((i : Int) + 1) = ((i + 1 : Nat) : Int) := by have := HS.out; rw [IntKind.wrap_i64]; omega
      by_cases h45 : sb s i = 45
      · have cz : (((s[i]'hi).toNat : Int) == 45) = true := by rw [sb_at s i hi]; exact beq_iff_eq.2 h45
        have H45 := aK_ h45
        clear h45
        go_wp2
        go_roundg k
        case measure => omega
        case rel => exact ⟨i + 1, by first | rfl | simp, ⟨by have := HJ.out; omega⟩, ⟨by rw [show pF s (i + 1) = pF s i from by simp only [pF]; rw [if_pos H45.out]]; exact HA.out⟩, HX, HW⟩
      · have cz : (((s[i]'hi).toNat : Int) == 45) = false := by rw [sb_at s i hi]; exact beq_eq_false_iff_ne.2 h45
        have hd := (okB_at HALL.out i hi).resolve_left h45
        have hw48 : IntKind.u64.wrap (IntKind.u64.wrap ((s[i]'hi).toNat : Int) - 48) = mcar (pF s i) (sb s i - 48) 0 := by rw [sb_at s i hi]; simp only [mcar]; rw [wraps_u64' (sb s i) (by omega) (by omega)]; exact wraps_u64' _ (by omega) (by omega)
        have H45 := aK_ h45
        have HD := aK_ hd
        clear h45 hd
        go_wp2
        generalize hF : pF s i = F at HA
        have HFd := aK_ (show Dig F from hF ▸ pF_dig s i)
        have EF := aK_ hF
        clear hF
        go_loopg [6, 7] 12 (fun g v6 v7 wr => ∃ (j : Nat), v7 = .int .i64 j ∧ v6 = .int .u64 (mcar F (sb s i - 48) j) ∧ zAF (j + g = 12) ∧ zAF (Ar wr (w.heap.size + 1) (fun i_ => if i_ < j then mulD F (sb s i - 48) i_ else F i_)) ∧ zAF (wr.heap[w.heap.size]? = some (.cells #[.int .i64 0, .int .u64 0] 27 (0, 0))) ∧ zAF (Below w.heap.size w wr))
        case atStart => exact ⟨0, rfl, rfl, ⟨rfl⟩, ⟨Ar.congr HA.out (fun i_ h_ => by simp)⟩, HX, HW⟩
        case round =>
          clear HA HX HW
          obtain ⟨j, rfl, rfl, HK, HA, HX, HW⟩ := hrel
          cases gk with
          | zero =>
            obtain rfl : j = 12 := by have := HK.out; omega
            go_wp2
            go_roundg k
            case measure => omega
            case rel => exact ⟨i + 1, by first | rfl | simp, ⟨by have := HJ.out; omega⟩, ⟨Ar.congr HA.out (fun i_ h_ => by simp only [pF]; rw [if_neg H45.out, EF.out, if_pos h_])⟩, HX, HW⟩
          | succ g =>
            have hj : j < 12 := by have := HK.out; omega
            have cj : decide ((j : Int) < 12) = true := decide_eq_true (by omega)
            have hj' : (j : Int) < 12 := by omega
            have b1 := mcar_le HFd.out (by have := HD.out; omega : 0 ≤ sb s i - 48) (by have := HD.out; omega) j (by omega)
            have b2 := HFd.out j hj
            have hc1 : wr.cell? ⟨w.heap.size + 1, j, none⟩ = some (.int .u64 (F j)) := (HA.out.cell j hj).trans (by rw [if_neg (Nat.lt_irrefl j)])
            have hf1 : wr.frozen? ⟨w.heap.size + 1, j, none⟩ = false := HA.out.frozen j
            have hw1 : IntKind.u64.wrap (10 * F j) = 10 * F j := wraps_u64' _ (by omega) (by omega)
            have hw2 : IntKind.u64.wrap (mcar F (sb s i - 48) j + 10 * F j) = mcar F (sb s i - 48) j + 10 * F j := wraps_u64' _ (by omega) (by omega)
            have ht : Int.tmod (mcar F (sb s i - 48) j + 10 * F j) 65536 = mulD F (sb s i - 48) j := tmod_pos' _ _ (by omega)
            have hq : IntKind.u64.wrap (Int.tdiv (mcar F (sb s i - 48) j + 10 * F j) 65536) = mcar F (sb s i - 48) (j + 1) := by rw [tdiv_pos' _ _ (by omega), wraps_u64' _ (by omega) (by omega)]; rfl
            have hj1 : IntKind.i64.wrap ((j : Int) + 1) = ((j + 1 : Nat) : Int) := by rw [IntKind.wrap_i64]; omega
            clear hj b1 b2
            go_wp2
            repeat (go_quiet (fail); try go_wp2)
            go_roundg g
            case measure => omega
            case rel => exact ⟨j + 1, by first | rfl | simp, rfl, ⟨by have := HK.out; omega⟩, ⟨Ar.congr ((by first | exact HA.out | exact HA.out.drewN _ : Ar _ (w.heap.size + 1) _).set j (mulD F (sb s i - 48) j) (by omega)) (fun i_ h_ => mul_step)⟩, ⟨zAZ (by first | exact HX.out | exact blk_drewN HX.out _) (show w.heap.size ≠ w.heap.size + 1 by omega) _⟩, ⟨zAQ (by first | exact HW.out | exact zAJ HW.out _) (by omega)⟩⟩
set_option maxHeartbeats 4000000 in
set_option maxRecDepth 100000 in
theorem parseR_tf (k : Nat) (s : ByteArray) (hp : zAO.f k s = some true) (hs : s.size ≤ 40) (h0 : 0 < s.size) (hall : okB s = true) (hn : sb s 0 = 45) (hok : okD (plusD (turnD (pF s s.size)) oneF) = false) (w : World) :
    Calls Tryd.prog 11 #[.string s] w fun e w' => e = .returned (.tuple #[.agg #[.int .i64 0, .int .u64 0], .int .i64 10]) ∧ Below w.heap.size w w' := by
  have hwd := fun W => wide_c (plusD (turnD (pF s s.size)) oneF) (by exact Dig.plus _ _) W
  rw [show wideV (plusD (turnD (pF s s.size)) oneF) = .agg #[.int .i64 0, .int .u64 0] from by unfold wideV; rw [hok]; rfl, hok] at hwd
  have hpl := fun W => zAO.calls k s true W hp
  have HALL := aK_ hall
  have HN := aK_ hn
  have c40 : decide (40 < (s.size : Int)) = false := decide_eq_false (by omega)
  have H0 := aK_ h0
  have HS := aK_ hs
  clear hp hs hall hok hn h0
  go_enter Tryd.func11, Tryd.ntmps11
  go_wp2_with (go_at_call 29; fail)
  refine (hpl _).mono ?_
  rintro e w1 ⟨rfl, hb⟩
  obtain ⟨m, rfl⟩ := hb
  clear hpl
  go_wp2
  clear c40
  go_loopg [5] s.size (fun k v5 wr => ∃ (j : Nat), v5 = .int .i64 j ∧ zAF (j + k = s.size) ∧ zAF (Ar wr (w.heap.size + 1) (pF s j)) ∧ zAF (wr.heap[w.heap.size]? = some (.cells #[.int .i64 0, .int .u64 0] 27 (0, 0))) ∧ zAF (Below w.heap.size w wr))
  case atStart => exact ⟨0, rfl, ⟨by omega⟩, ⟨Ar.of (F := fun _ => 0) (blk_new' _ _ (by exact (hs_alloc w _).symm)) (fun i hi => rfl)⟩, ⟨blk_alloc (blk_drewN (blk_new w _) _) _⟩, ⟨zAX (zAJ (zAX (Below.refl _ _) _) _) _⟩⟩
  case round =>
    obtain ⟨i, rfl, HJ, HA, HX, HW⟩ := hrel
    cases gk with
    | zero =>
      obtain rfl : i = s.size := by have := HJ.out; omega
      have ci : decide ((s.size : Int) < (s.size : Int)) = false := decide_eq_false (by omega)
      have hp0 : (0 : Int) < (s.size : Int) := by have := H0.out; omega
      have hp0' : 0 < s.size := H0.out
      have cz : (((s[0]'hp0').toNat : Int) == 45) = true := by rw [sb_at s 0 hp0']; exact beq_iff_eq.2 HN.out
      have l0 : wr.cell? ⟨w.heap.size + 1, 0, none⟩ = some (.int .u64 (pF s s.size 0)) := HA.out.cell 0 (by decide)
      have l1 : wr.cell? ⟨w.heap.size + 1, 1, none⟩ = some (.int .u64 (pF s s.size 1)) := HA.out.cell 1 (by decide)
      have l2 : wr.cell? ⟨w.heap.size + 1, 2, none⟩ = some (.int .u64 (pF s s.size 2)) := HA.out.cell 2 (by decide)
      have l3 : wr.cell? ⟨w.heap.size + 1, 3, none⟩ = some (.int .u64 (pF s s.size 3)) := HA.out.cell 3 (by decide)
      have l4 : wr.cell? ⟨w.heap.size + 1, 4, none⟩ = some (.int .u64 (pF s s.size 4)) := HA.out.cell 4 (by decide)
      have l5 : wr.cell? ⟨w.heap.size + 1, 5, none⟩ = some (.int .u64 (pF s s.size 5)) := HA.out.cell 5 (by decide)
      have l6 : wr.cell? ⟨w.heap.size + 1, 6, none⟩ = some (.int .u64 (pF s s.size 6)) := HA.out.cell 6 (by decide)
      have l7 : wr.cell? ⟨w.heap.size + 1, 7, none⟩ = some (.int .u64 (pF s s.size 7)) := HA.out.cell 7 (by decide)
      have l8 : wr.cell? ⟨w.heap.size + 1, 8, none⟩ = some (.int .u64 (pF s s.size 8)) := HA.out.cell 8 (by decide)
      have l9 : wr.cell? ⟨w.heap.size + 1, 9, none⟩ = some (.int .u64 (pF s s.size 9)) := HA.out.cell 9 (by decide)
      have l10 : wr.cell? ⟨w.heap.size + 1, 10, none⟩ = some (.int .u64 (pF s s.size 10)) := HA.out.cell 10 (by decide)
      have l11 : wr.cell? ⟨w.heap.size + 1, 11, none⟩ = some (.int .u64 (pF s s.size 11)) := HA.out.cell 11 (by decide)
      have hq := fun W => turned_c (pF s s.size) (pF_dig s _) W
      go_wp2_with (go_at_call 30; fail)
      refine (hq _).mono ?_
      rintro e w2 ⟨rfl, hb⟩
      have HA2 := aK_ (HA.out.below hb)
      have HX2 := aK_ (zAC HX.out hb)
      have HW2 := aK_ (zAD HW.out hb)
      clear l0
      clear l1
      clear l2
      clear l3
      clear l4
      clear l5
      clear l6
      clear l7
      clear l8
      clear l9
      clear l10
      clear l11
      clear hb HA HX HW
      go_wp2
      rw [run_store_ar _ HA2.out]
      simp only [Result.andThen]
      rw [Oper.upon_skip]
      have HA3 := aK_ (st12_ar (plusD (turnD (pF s s.size)) oneF) HA2.out)
      have HX3 := aK_ (show (st12 w2 (w.heap.size + 1) (plusD (turnD (pF s s.size)) oneF)).heap[w.heap.size]? = some (.cells #[.int .i64 0, .int .u64 0] 27 (0, 0)) from st12_blk _ HX2.out (by omega))
      have HW3 := aK_ (st12_below (plusD (turnD (pF s s.size)) oneF) HW2.out (by omega : w.heap.size ≤ w.heap.size + 1))
      generalize st12 w2 (w.heap.size + 1) (plusD (turnD (pF s s.size)) oneF) = wr at HA3 HX3 HW3 ⊢
      clear HA2 HX2 HW2 hq
      have l0 : wr.cell? ⟨w.heap.size + 1, 0, none⟩ = some (.int .u64 (plusD (turnD (pF s s.size)) oneF 0)) := HA3.out.cell 0 (by decide)
      have l1 : wr.cell? ⟨w.heap.size + 1, 1, none⟩ = some (.int .u64 (plusD (turnD (pF s s.size)) oneF 1)) := HA3.out.cell 1 (by decide)
      have l2 : wr.cell? ⟨w.heap.size + 1, 2, none⟩ = some (.int .u64 (plusD (turnD (pF s s.size)) oneF 2)) := HA3.out.cell 2 (by decide)
      have l3 : wr.cell? ⟨w.heap.size + 1, 3, none⟩ = some (.int .u64 (plusD (turnD (pF s s.size)) oneF 3)) := HA3.out.cell 3 (by decide)
      have l4 : wr.cell? ⟨w.heap.size + 1, 4, none⟩ = some (.int .u64 (plusD (turnD (pF s s.size)) oneF 4)) := HA3.out.cell 4 (by decide)
      have l5 : wr.cell? ⟨w.heap.size + 1, 5, none⟩ = some (.int .u64 (plusD (turnD (pF s s.size)) oneF 5)) := HA3.out.cell 5 (by decide)
      have l6 : wr.cell? ⟨w.heap.size + 1, 6, none⟩ = some (.int .u64 (plusD (turnD (pF s s.size)) oneF 6)) := HA3.out.cell 6 (by decide)
      have l7 : wr.cell? ⟨w.heap.size + 1, 7, none⟩ = some (.int .u64 (plusD (turnD (pF s s.size)) oneF 7)) := HA3.out.cell 7 (by decide)
      have l8 : wr.cell? ⟨w.heap.size + 1, 8, none⟩ = some (.int .u64 (plusD (turnD (pF s s.size)) oneF 8)) := HA3.out.cell 8 (by decide)
      have l9 : wr.cell? ⟨w.heap.size + 1, 9, none⟩ = some (.int .u64 (plusD (turnD (pF s s.size)) oneF 9)) := HA3.out.cell 9 (by decide)
      have l10 : wr.cell? ⟨w.heap.size + 1, 10, none⟩ = some (.int .u64 (plusD (turnD (pF s s.size)) oneF 10)) := HA3.out.cell 10 (by decide)
      have l11 : wr.cell? ⟨w.heap.size + 1, 11, none⟩ = some (.int .u64 (plusD (turnD (pF s s.size)) oneF 11)) := HA3.out.cell 11 (by decide)
      go_wp2_with (go_at_call 31; fail)
      refine (hwd _).mono ?_
      rintro e w4 ⟨rfl, hb⟩
      have HX4 := aK_ (zAC HX3.out hb)
      have HW4 := aK_ (zAD HW3.out hb)
      clear hb hwd
      clear l0
      clear l1
      clear l2
      clear l3
      clear l4
      clear l5
      clear l6
      clear l7
      clear l8
      clear l9
      clear l10
      clear l11
      have hx0 : w4.cell? ⟨w.heap.size, 0, none⟩ = some (.int .i64 0) := zAA HX4.out 0
      have hx1 : w4.cell? ⟨w.heap.size, 1, none⟩ = some (.int .u64 0) := zAA HX4.out 1
      have hx2 : w4.frozen? ⟨w.heap.size, 0, none⟩ = false := zAB HX4.out 0
      have hx3 : w4.frozen? ⟨w.heap.size, 1, none⟩ = false := zAB HX4.out 1
      have hlt := zAG HX4.out
      have hne : ¬ (w.heap.size = w4.heap.size) := by omega
      have hne' : ¬ (w4.heap.size = w.heap.size) := by omega
      go_wp2
      repeat (go_quiet (fail); try go_wp2)
      refine bodyPost_ret (results_ct rfl _ _ w.heap.size 27 #[.int .i64 0, .int .u64 0] (0, 0) _ rfl (blk_alloc (zAU (zAU HX4.out 0 (.int .i64 (0)) rfl) 1 (.int .u64 (0)) rfl) _) Tryd.underlying27 rfl (by kernel_rfl)) rfl ?_
      exact ⟨rfl, zAX (zAQ (zAQ HW4.out (by omega)) (by omega)) _⟩
    | succ k =>
      have hi : i < s.size := by have := HJ.out; omega
      have ci : decide ((i : Int) < (s.size : Int)) = true := decide_eq_true (by omega)
      have hi' : (i : Int) < (s.size : Int) := by omega
      have hi1 : IntKind.i64.wrap ((i : Int) + 1) = ((i + 1 : Nat) : Int) := by have := HS.out; rw [IntKind.wrap_i64]; omega
      by_cases h45 : sb s i = 45
      · have cz : (((s[i]'hi).toNat : Int) == 45) = true := by rw [sb_at s i hi]; exact beq_iff_eq.2 h45
        have H45 := aK_ h45
        clear h45
        go_wp2
        go_roundg k
        case measure => omega
        case rel => exact ⟨i + 1, by first | rfl | simp, ⟨by have := HJ.out; omega⟩, ⟨by rw [show pF s (i + 1) = pF s i from by simp only [pF]; rw [if_pos H45.out]]; exact HA.out⟩, HX, HW⟩
      · have cz : (((s[i]'hi).toNat : Int) == 45) = false := by rw [sb_at s i hi]; exact beq_eq_false_iff_ne.2 h45
        have hd := (okB_at HALL.out i hi).resolve_left h45
        have hw48 : IntKind.u64.wrap (IntKind.u64.wrap ((s[i]'hi).toNat : Int) - 48) = mcar (pF s i) (sb s i - 48) 0 := by rw [sb_at s i hi]; simp only [mcar]; rw [wraps_u64' (sb s i) (by omega) (by omega)]; exact wraps_u64' _ (by omega) (by omega)
        have H45 := aK_ h45
        have HD := aK_ hd
        clear h45 hd
        go_wp2
        generalize hF : pF s i = F at HA
        have HFd := aK_ (show Dig F from hF ▸ pF_dig s i)
        have EF := aK_ hF
        clear hF
        go_loopg [6, 7] 12 (fun g v6 v7 wr => ∃ (j : Nat), v7 = .int .i64 j ∧ v6 = .int .u64 (mcar F (sb s i - 48) j) ∧ zAF (j + g = 12) ∧ zAF (Ar wr (w.heap.size + 1) (fun i_ => if i_ < j then mulD F (sb s i - 48) i_ else F i_)) ∧ zAF (wr.heap[w.heap.size]? = some (.cells #[.int .i64 0, .int .u64 0] 27 (0, 0))) ∧ zAF (Below w.heap.size w wr))
        case atStart => exact ⟨0, rfl, rfl, ⟨rfl⟩, ⟨Ar.congr HA.out (fun i_ h_ => by simp)⟩, HX, HW⟩
        case round =>
          clear HA HX HW
          obtain ⟨j, rfl, rfl, HK, HA, HX, HW⟩ := hrel
          cases gk with
          | zero =>
            obtain rfl : j = 12 := by have := HK.out; omega
            go_wp2
            go_roundg k
            case measure => omega
            case rel => exact ⟨i + 1, by first | rfl | simp, ⟨by have := HJ.out; omega⟩, ⟨Ar.congr HA.out (fun i_ h_ => by simp only [pF]; rw [if_neg H45.out, EF.out, if_pos h_])⟩, HX, HW⟩
          | succ g =>
            have hj : j < 12 := by have := HK.out; omega
            have cj : decide ((j : Int) < 12) = true := decide_eq_true (by omega)
            have hj' : (j : Int) < 12 := by omega
            have b1 := mcar_le HFd.out (by have := HD.out; omega : 0 ≤ sb s i - 48) (by have := HD.out; omega) j (by omega)
            have b2 := HFd.out j hj
            have hc1 : wr.cell? ⟨w.heap.size + 1, j, none⟩ = some (.int .u64 (F j)) := (HA.out.cell j hj).trans (by rw [if_neg (Nat.lt_irrefl j)])
            have hf1 : wr.frozen? ⟨w.heap.size + 1, j, none⟩ = false := HA.out.frozen j
            have hw1 : IntKind.u64.wrap (10 * F j) = 10 * F j := wraps_u64' _ (by omega) (by omega)
            have hw2 : IntKind.u64.wrap (mcar F (sb s i - 48) j + 10 * F j) = mcar F (sb s i - 48) j + 10 * F j := wraps_u64' _ (by omega) (by omega)
            have ht : Int.tmod (mcar F (sb s i - 48) j + 10 * F j) 65536 = mulD F (sb s i - 48) j := tmod_pos' _ _ (by omega)
            have hq : IntKind.u64.wrap (Int.tdiv (mcar F (sb s i - 48) j + 10 * F j) 65536) = mcar F (sb s i - 48) (j + 1) := by rw [tdiv_pos' _ _ (by omega), wraps_u64' _ (by omega) (by omega)]; rfl
            have hj1 : IntKind.i64.wrap ((j : Int) + 1) = ((j + 1 : Nat) : Int) := by rw [IntKind.wrap_i64]; omega
            clear hj b1 b2
            go_wp2
            repeat (go_quiet (fail); try go_wp2)
            go_roundg g
            case measure => omega
            case rel => exact ⟨j + 1, by first | rfl | simp, rfl, ⟨by have := HK.out; omega⟩, ⟨Ar.congr ((by first | exact HA.out | exact HA.out.drewN _ : Ar _ (w.heap.size + 1) _).set j (mulD F (sb s i - 48) j) (by omega)) (fun i_ h_ => mul_step)⟩, ⟨zAZ (by first | exact HX.out | exact blk_drewN HX.out _) (show w.heap.size ≠ w.heap.size + 1 by omega) _⟩, ⟨zAQ (by first | exact HW.out | exact zAJ HW.out _) (by omega)⟩⟩
def octroiref03_Parse.f (k : Nat) (s : ByteArray) : Option (Int × Int × Int) := (zAO.f k s).bind fun p => if p = true then (if 40 < s.size then some (0, 0, 10) else if 0 < s.size ∧ okB s = true then some (toldR (if sb s 0 = 45 then plusD (turnD (pF s s.size)) oneF else pF s s.size)) else none) else some (0, 0, 30)
theorem octroiref03_Parse.mono : ∀ a0 k, LeO (octroiref03_Parse.f k a0) (octroiref03_Parse.f (k + 1) a0) := fun s k => LeO.bind (zAO.mono s k) (fun _ => LeO.refl _)
set_option maxHeartbeats 4000000 in
set_option maxRecDepth 100000 in
theorem parse_no (k : Nat) (s : ByteArray) (hp : zAO.f k s = some false) (w : World) :
    Calls Tryd.prog 11 #[.string s] w fun e w' => e = .returned (.tuple #[.agg #[.int .i64 0, .int .u64 0], .int .i64 30]) ∧ Below w.heap.size w w' := by
  have hpl := fun W => zAO.calls k s false W hp
  clear hp
  go_enter Tryd.func11, Tryd.ntmps11
  go_wp2_with (go_at_call 29; fail)
  refine (hpl _).mono ?_
  rintro e w1 ⟨rfl, hb⟩
  obtain ⟨m, rfl⟩ := hb
  clear hpl
  go_wp2
  have HX := blk_drewN (blk_new w (.cells #[.int .i64 0, .int .u64 0] 27)) m
  have HW := zAJ (zAX (Below.refl w.heap.size w) (.cells #[.int .i64 0, .int .u64 0] 27)) m
  refine bodyPost_ret (results_ct rfl _ _ w.heap.size 27 #[.int .i64 0, .int .u64 0] (0, 0) _ rfl (by first | exact zAU (zAU HX 0 (.int .i64 0) rfl) 1 (.int .u64 0) rfl | exact HX) Tryd.underlying27 rfl (by kernel_rfl)) rfl ?_
  exact ⟨rfl, by first | exact zAQ (zAQ HW (by omega)) (by omega) | exact HW⟩
set_option maxHeartbeats 4000000 in
set_option maxRecDepth 100000 in
theorem parse_long (k : Nat) (s : ByteArray) (hp : zAO.f k s = some true) (hs : 40 < s.size) (w : World) :
    Calls Tryd.prog 11 #[.string s] w fun e w' => e = .returned (.tuple #[.agg #[.int .i64 0, .int .u64 0], .int .i64 10]) ∧ Below w.heap.size w w' := by
  have hpl := fun W => zAO.calls k s true W hp
  have c40 : decide (40 < (s.size : Int)) = true := decide_eq_true (by omega)
  clear hp hs
  go_enter Tryd.func11, Tryd.ntmps11
  go_wp2_with (go_at_call 29; fail)
  refine (hpl _).mono ?_
  rintro e w1 ⟨rfl, hb⟩
  obtain ⟨m, rfl⟩ := hb
  clear hpl
  go_wp2
  have HX := blk_drewN (blk_new w (.cells #[.int .i64 0, .int .u64 0] 27)) m
  have HW := zAJ (zAX (Below.refl w.heap.size w) (.cells #[.int .i64 0, .int .u64 0] 27)) m
  refine bodyPost_ret (results_ct rfl _ _ w.heap.size 27 #[.int .i64 0, .int .u64 0] (0, 0) _ rfl (by first | exact zAU (zAU HX 0 (.int .i64 0) rfl) 1 (.int .u64 0) rfl | exact HX) Tryd.underlying27 rfl (by kernel_rfl)) rfl ?_
  exact ⟨rfl, by first | exact zAQ (zAQ HW (by omega)) (by omega) | exact HW⟩
theorem octroiref03_Parse.calls (k : Nat) (a0 : ByteArray) (r1 r2 r3 : Int) (w : World) (h : octroiref03_Parse.f k a0 = some (r1, r2, r3)) :
    Calls Tryd.prog 11 #[.string a0] w fun e w' => e = .returned (.tuple #[.agg #[.int .i64 r1, .int .u64 r2], .int .i64 r3]) ∧ Below w.heap.size w w' := by
  obtain ⟨p, hp, h⟩ := Option.bind_eq_some_iff.1 h
  cases p with
  | false =>
    rw [if_neg (by decide)] at h
    have h_ := Option.some.inj h
    injection h_ with e1 e2
    injection e2 with e2 e3
    subst e1; subst e2; subst e3
    exact parse_no k a0 hp w
  | true =>
    rw [if_pos rfl] at h
    by_cases hl : 40 < a0.size
    · rw [if_pos hl] at h
      have h_ := Option.some.inj h
      injection h_ with e1 e2
      injection e2 with e2 e3
      subst e1; subst e2; subst e3
      exact parse_long k a0 hp hl w
    · rw [if_neg hl] at h
      by_cases hb : 0 < a0.size ∧ okB a0 = true
      · rw [if_pos hb] at h
        have h_ := Option.some.inj h
        obtain ⟨h0, hall⟩ := hb
        by_cases hn : sb a0 0 = 45
        · rw [if_pos hn] at h_
          unfold toldR at h_
          by_cases hok : okD (plusD (turnD (pF a0 a0.size)) oneF) = true
          · rw [if_pos hok] at h_
            injection h_ with e1 e2
            injection e2 with e2 e3
            subst e1; subst e2; subst e3
            exact parseR_tt k a0 hp (by omega) h0 hall hn hok w
          · rw [if_neg hok] at h_
            injection h_ with e1 e2
            injection e2 with e2 e3
            subst e1; subst e2; subst e3
            exact parseR_tf k a0 hp (by omega) h0 hall hn (by simpa using hok) w
        · rw [if_neg hn] at h_
          unfold toldR at h_
          by_cases hok : okD (pF a0 a0.size) = true
          · rw [if_pos hok] at h_
            injection h_ with e1 e2
            injection e2 with e2 e3
            subst e1; subst e2; subst e3
            exact parseR_ft k a0 hp (by omega) h0 hall hn hok w
          · rw [if_neg hok] at h_
            injection h_ with e1 e2
            injection e2 with e2 e3
            subst e1; subst e2; subst e3
            exact parseR_ff k a0 hp (by omega) h0 hall hn (by simpa using hok) w
      · rw [if_neg hb] at h
        cases h
end Go.Proofs.YtkikekiokclmdaaDoor.S
