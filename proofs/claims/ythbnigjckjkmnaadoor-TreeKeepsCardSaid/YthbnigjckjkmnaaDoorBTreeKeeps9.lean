/- What the proof needs, part 9 of 21. TreeKeeps: for every raw plan and number Part leaves its arguments as they were, and what it answers is new memory. -/
import Derived.Test.YthbnigjckjkmnaaDoorBTreeKeeps5
import Derived.Test.YthbnigjckjkmnaaDoorBTreeKeeps8
set_option linter.unusedVariables false
set_option linter.unusedSimpArgs false
namespace Go.Proofs.YthbnigjckjkmnaaDoor.S
open Go.RowKit Go.Proofs.YthbnigjckjkmnaaDoorW.PrintWords
def tree_takes.f (a0_0 a0_1 a0_2 a0_3 : Int) (l0_4 : List (S45)) (a0_5 : Int) : Option Int :=
  if 0 ≤ a0_0 ∧ a0_0 < 17 then some (if tk a0_0 ≥ 0 then tk a0_0 else a0_3) else none
set_option maxHeartbeats 1000000 in
theorem tree_takes.calls (a0_0 : Int) (a0_1 : Int) (a0_2 : Int) (a0_3 : Int) (A0_4 : Option Addr) (c0_4 : Nat) (l0_4 : List (S45)) (a0_5 : Int) (r : Int) (w : World) (hG : GW w) (hr0_4 : Kd.C k45 w A0_4 l0_4.length l0_4) (hc0_4 : l0_4.length ≤ c0_4) (h : tree_takes.f a0_0 a0_1 a0_2 a0_3 l0_4 a0_5 = some r) :
    Calls Tryd.prog 39 #[.agg #[.int .i64 a0_0, .int .i64 a0_1, .int .i64 a0_2, .int .i64 a0_3, .slice A0_4 l0_4.length c0_4, .int .i64 a0_5]] w fun e w' => e = .returned (.int .i64 r) ∧ Below w.heap.size w w' := by
  unfold tree_takes.f at h
  split at h
  · rename_i hk
    obtain ⟨i, rfl⟩ := Int.eq_ofNat_of_zero_le hk.1
    have hi : i < 17 := by omega
    obtain ⟨h0, h1, h2, h3⟩ := hG.kinds i hi
    obtain rfl := Option.some.inj h
    clear hr0_4 hc0_4 h
    have g0 := fun o => zAO (zAF (Below.refl w.heap.size w) o) h0
    clear h0 h1 h2 h3
    by_cases ht : tk (i : Int) ≥ 0
    · rw [if_pos ht]
      go_enter Tryd.func39, Tryd.ntmps39
      go_wp2
      go_ret
      exact ⟨rfl, zAF (Below.refl _ _) _⟩
    · rw [if_neg ht]
      go_enter Tryd.func39, Tryd.ntmps39
      go_wp2
      go_ret
      exact ⟨rfl, zAF (Below.refl _ _) _⟩
  · cases h
end Go.Proofs.YthbnigjckjkmnaaDoor.S

namespace Go.Proofs.YthbnigjckjkmnaaDoor.S
open Go.RowKit Go.Proofs.YthbnigjckjkmnaaDoorW.PrintWords
def nodeBad (a0_0 a0_1 a0_2 a0_3 : Int) (n : Nat) (a1 a2 : Int) : Bool :=
  decide (a0_1 < 0) || decide (a0_1 > (if mo a0_0 < 0 then wrap64 (a1 - 1) else mo a0_0)) || !(if tk a0_0 < 0 then decide (a0_3 ≥ 2) && decide (a0_3 ≤ 16) else a0_3 == 0) || !(if op a0_0 = true then decide (a0_2 ≥ 1) && decide (a0_2 ≤ 6) else a0_2 == 0) || (!ti a0_0 && decide (0 < n)) || decide (a2 < (if tk a0_0 ≥ 0 then tk a0_0 else a0_3))
def tree_node.f (k : Nat) (a0_0 a0_1 a0_2 a0_3 : Int) (l0_4 : List (S45)) (a0_5 : Int) (a1 a2 : Int) : Option Int :=
  if a0_0 < 1 ∨ a0_0 > 16 then some 50 else if nodeBad a0_0 a0_1 a0_2 a0_3 l0_4.length a1 a2 = true then some 50 else if ti a0_0 = true then (tree_rising.f k l0_4).bind fun b => some (if b = true then 0 else 51) else some 0
theorem tree_node.mono : ∀ a0 a1 a2 a3 a4 a5 b1 b2 k, LeO (tree_node.f k a0 a1 a2 a3 a4 a5 b1 b2) (tree_node.f (k + 1) a0 a1 a2 a3 a4 a5 b1 b2) := by
  intro a0 a1 a2 a3 a4 a5 b1 b2 k
  unfold tree_node.f
  refine LeO.ite (LeO.refl _) (LeO.ite (LeO.refl _) (LeO.ite (LeO.bind (tree_rising.mono _ _) (fun _ => LeO.refl _)) (LeO.refl _)))
theorem kinds4 (i : Nat) (h1 : 1 ≤ i) (h2 : i < 17) : (mo i < 0 ∧ tk i ≥ 0 ∧ op i = false ∧ ti i = false) ∨ (mo i ≥ 0 ∧ tk i < 0 ∧ op i = false ∧ ti i = false) ∨ (mo i ≥ 0 ∧ tk i ≥ 0 ∧ op i = true ∧ ti i = false) ∨ (mo i ≥ 0 ∧ tk i ≥ 0 ∧ op i = false) := by
  have : i = 1 ∨ i = 2 ∨ i = 3 ∨ i = 4 ∨ i = 5 ∨ i = 6 ∨ i = 7 ∨ i = 8 ∨ i = 9 ∨ i = 10 ∨ i = 11 ∨ i = 12 ∨ i = 13 ∨ i = 14 ∨ i = 15 ∨ i = 16 := by omega
  rcases this with rfl | rfl | rfl | rfl | rfl | rfl | rfl | rfl | rfl | rfl | rfl | rfl | rfl | rfl | rfl | rfl <;> decide
set_option maxHeartbeats 1000000 in
theorem takes_pos (i : Nat) (hi : i < 17) (t a0_1 a0_2 a0_3 : Int) (A0_4 : Option Addr) (c0_4 n : Nat) (a0_5 : Int) (w : World) (h0 : w.cell? ⟨0, i * 4, none⟩ = some (.int .i64 t)) (ht : t ≥ 0) :
    Calls Tryd.prog 39 #[.agg #[.int .i64 i, .int .i64 a0_1, .int .i64 a0_2, .int .i64 a0_3, .slice A0_4 n c0_4, .int .i64 a0_5]] w fun e w' => e = .returned (.int .i64 t) ∧ w.alloc (.cells #[.int .i64 i, .int .i64 a0_1, .int .i64 a0_2, .int .i64 a0_3, .slice A0_4 n c0_4, .int .i64 a0_5] 33) = w' := by
  have g0 := fun o => zAO (zAF (Below.refl w.heap.size w) o) h0
  clear h0
  go_enter Tryd.func39, Tryd.ntmps39
  go_wp2
  go_ret
  exact ⟨rfl, rfl⟩
set_option maxHeartbeats 4000000 in
set_option maxRecDepth 100000 in
theorem node_badA (i : Nat) (hi : i < 17) (h1i : 1 ≤ i) (t m : Int) (b1 b2 : Bool) (a0_1 : Int) (a0_2 : Int) (a0_3 : Int) (A0_4 : Option Addr) (c0_4 n : Nat) (a0_5 a1 a2 : Int) (w : World)
    (h0 : w.cell? ⟨0, i * 4, none⟩ = some (.int .i64 t)) (h1 : w.cell? ⟨0, i * 4 + 1, none⟩ = some (.int .i64 m)) (h2 : w.cell? ⟨0, i * 4 + 2, none⟩ = some (.bool b1)) (h3 : w.cell? ⟨0, i * 4 + 3, none⟩ = some (.bool b2))
    (hm : m < 0) (ht : t ≥ 0) (hb2 : b2 = false) (hb1 : b1 = false) (hbad : a0_1 < 0 ∨ a0_1 > wrap64 (a1 - 1) ∨ a0_3 ≠ 0 ∨ a0_2 ≠ 0 ∨ 0 < n ∨ a2 < t) :
    Calls Tryd.prog 38 #[.agg #[.int .i64 i, .int .i64 a0_1, .int .i64 a0_2, .int .i64 a0_3, .slice A0_4 n c0_4, .int .i64 a0_5], .int .i64 a1, .int .i64 a2] w fun e w' => e = .returned (.int .i64 50) ∧ Below w.heap.size w w' := by
  have g0 := fun o => zAO (zAF (Below.refl w.heap.size w) o) h0
  have g1 := fun o => zAO (zAF (Below.refl w.heap.size w) o) h1
  have g2 := fun o => zAO (zAF (Below.refl w.heap.size w) o) h2
  have g3 := fun o => zAO (zAF (Below.refl w.heap.size w) o) h3
  have g0c := fun o o' => zAO (zAF (zAF (Below.refl w.heap.size w) o) o') h0
  have g0b := fun o o' o'' => zAO (zAF (zAF (zAF (Below.refl w.heap.size w) o) o') o'') h0
  clear h0 h1 h2 h3
  subst hb2 hb1
  go_enter Tryd.func38, Tryd.ntmps38
  go_wp2
  all_goals first | (exfalso; omega) | (go_ret; exact ⟨rfl, (by repeat (first | exact Below.refl _ _ | apply zAF))⟩)
set_option maxHeartbeats 4000000 in
set_option maxRecDepth 100000 in
theorem node_goodA (i : Nat) (hi : i < 17) (h1i : 1 ≤ i) (t m : Int) (b1 b2 : Bool) (a0_1 : Int) (a0_2 : Int) (a0_3 : Int) (A0_4 : Option Addr) (c0_4 n : Nat) (a0_5 a1 a2 : Int) (w : World)
    (h0 : w.cell? ⟨0, i * 4, none⟩ = some (.int .i64 t)) (h1 : w.cell? ⟨0, i * 4 + 1, none⟩ = some (.int .i64 m)) (h2 : w.cell? ⟨0, i * 4 + 2, none⟩ = some (.bool b1)) (h3 : w.cell? ⟨0, i * 4 + 3, none⟩ = some (.bool b2))
    (hm : m < 0) (ht : t ≥ 0) (hb2 : b2 = false) (hb1 : b1 = false) (h1_ : ¬ a0_1 < 0) (h2_ : ¬ a0_1 > wrap64 (a1 - 1)) (h3_ : ¬ a0_3 ≠ 0) (h4_ : ¬ a0_2 ≠ 0) (h5_ : ¬ 0 < n) (h6_ : ¬ a2 < t) :
    Calls Tryd.prog 38 #[.agg #[.int .i64 i, .int .i64 a0_1, .int .i64 a0_2, .int .i64 a0_3, .slice A0_4 n c0_4, .int .i64 a0_5], .int .i64 a1, .int .i64 a2] w fun e w' => e = .returned (.int .i64 0) ∧ Below w.heap.size w w' := by
  have g0 := fun o => zAO (zAF (Below.refl w.heap.size w) o) h0
  have g1 := fun o => zAO (zAF (Below.refl w.heap.size w) o) h1
  have g2 := fun o => zAO (zAF (Below.refl w.heap.size w) o) h2
  have g3 := fun o => zAO (zAF (Below.refl w.heap.size w) o) h3
  have g0c := fun o o' => zAO (zAF (zAF (Below.refl w.heap.size w) o) o') h0
  have g0b := fun o o' o'' => zAO (zAF (zAF (zAF (Below.refl w.heap.size w) o) o') o'') h0
  clear h0 h1 h2 h3
  subst hb2 hb1
  go_enter Tryd.func38, Tryd.ntmps38
  go_wp2
  all_goals first | (exfalso; omega) | (go_ret; exact ⟨rfl, (by repeat (first | exact Below.refl _ _ | apply zAF))⟩)
set_option maxHeartbeats 4000000 in
set_option maxRecDepth 100000 in
theorem node_badB (i : Nat) (hi : i < 17) (h1i : 1 ≤ i) (t m : Int) (b1 b2 : Bool) (a0_1 : Int) (a0_2 : Int) (a0_3 : Int) (A0_4 : Option Addr) (c0_4 n : Nat) (a0_5 a1 a2 : Int) (w : World)
    (h0 : w.cell? ⟨0, i * 4, none⟩ = some (.int .i64 t)) (h1 : w.cell? ⟨0, i * 4 + 1, none⟩ = some (.int .i64 m)) (h2 : w.cell? ⟨0, i * 4 + 2, none⟩ = some (.bool b1)) (h3 : w.cell? ⟨0, i * 4 + 3, none⟩ = some (.bool b2))
    (hm : m ≥ 0) (ht : t < 0) (hb2 : b2 = false) (hb1 : b1 = false) (hbad : a0_1 < 0 ∨ a0_1 > m ∨ (a0_3 < 2 ∨ 16 < a0_3) ∨ a0_2 ≠ 0 ∨ 0 < n ∨ a2 < a0_3) :
    Calls Tryd.prog 38 #[.agg #[.int .i64 i, .int .i64 a0_1, .int .i64 a0_2, .int .i64 a0_3, .slice A0_4 n c0_4, .int .i64 a0_5], .int .i64 a1, .int .i64 a2] w fun e w' => e = .returned (.int .i64 50) ∧ Below w.heap.size w w' := by
  have g0 := fun o => zAO (zAF (Below.refl w.heap.size w) o) h0
  have g1 := fun o => zAO (zAF (Below.refl w.heap.size w) o) h1
  have g2 := fun o => zAO (zAF (Below.refl w.heap.size w) o) h2
  have g3 := fun o => zAO (zAF (Below.refl w.heap.size w) o) h3
  have g0c := fun o o' => zAO (zAF (zAF (Below.refl w.heap.size w) o) o') h0
  have g0b := fun o o' o'' => zAO (zAF (zAF (zAF (Below.refl w.heap.size w) o) o') o'') h0
  clear h0 h1 h2 h3
  subst hb2 hb1
  go_enter Tryd.func38, Tryd.ntmps38
  go_wp2
  all_goals first | (exfalso; omega) | (go_ret; exact ⟨rfl, (by repeat (first | exact Below.refl _ _ | apply zAF))⟩)
set_option maxHeartbeats 4000000 in
set_option maxRecDepth 100000 in
theorem node_goodB (i : Nat) (hi : i < 17) (h1i : 1 ≤ i) (t m : Int) (b1 b2 : Bool) (a0_1 : Int) (a0_2 : Int) (a0_3 : Int) (A0_4 : Option Addr) (c0_4 n : Nat) (a0_5 a1 a2 : Int) (w : World)
    (h0 : w.cell? ⟨0, i * 4, none⟩ = some (.int .i64 t)) (h1 : w.cell? ⟨0, i * 4 + 1, none⟩ = some (.int .i64 m)) (h2 : w.cell? ⟨0, i * 4 + 2, none⟩ = some (.bool b1)) (h3 : w.cell? ⟨0, i * 4 + 3, none⟩ = some (.bool b2))
    (hm : m ≥ 0) (ht : t < 0) (hb2 : b2 = false) (hb1 : b1 = false) (h1_ : ¬ a0_1 < 0) (h2_ : ¬ a0_1 > m) (h3_ : ¬ (a0_3 < 2 ∨ 16 < a0_3)) (h4_ : ¬ a0_2 ≠ 0) (h5_ : ¬ 0 < n) (h6_ : ¬ a2 < a0_3) :
    Calls Tryd.prog 38 #[.agg #[.int .i64 i, .int .i64 a0_1, .int .i64 a0_2, .int .i64 a0_3, .slice A0_4 n c0_4, .int .i64 a0_5], .int .i64 a1, .int .i64 a2] w fun e w' => e = .returned (.int .i64 0) ∧ Below w.heap.size w w' := by
  have g0 := fun o => zAO (zAF (Below.refl w.heap.size w) o) h0
  have g1 := fun o => zAO (zAF (Below.refl w.heap.size w) o) h1
  have g2 := fun o => zAO (zAF (Below.refl w.heap.size w) o) h2
  have g3 := fun o => zAO (zAF (Below.refl w.heap.size w) o) h3
  have g0c := fun o o' => zAO (zAF (zAF (Below.refl w.heap.size w) o) o') h0
  have g0b := fun o o' o'' => zAO (zAF (zAF (zAF (Below.refl w.heap.size w) o) o') o'') h0
  clear h0 h1 h2 h3
  subst hb2 hb1
  go_enter Tryd.func38, Tryd.ntmps38
  go_wp2
  all_goals first | (exfalso; omega) | (go_ret; exact ⟨rfl, (by repeat (first | exact Below.refl _ _ | apply zAF))⟩)
set_option maxHeartbeats 4000000 in
set_option maxRecDepth 100000 in
theorem node_badC (i : Nat) (hi : i < 17) (h1i : 1 ≤ i) (t m : Int) (b1 b2 : Bool) (a0_1 : Int) (a0_2 : Int) (a0_3 : Int) (A0_4 : Option Addr) (c0_4 n : Nat) (a0_5 a1 a2 : Int) (w : World)
    (h0 : w.cell? ⟨0, i * 4, none⟩ = some (.int .i64 t)) (h1 : w.cell? ⟨0, i * 4 + 1, none⟩ = some (.int .i64 m)) (h2 : w.cell? ⟨0, i * 4 + 2, none⟩ = some (.bool b1)) (h3 : w.cell? ⟨0, i * 4 + 3, none⟩ = some (.bool b2))
    (hm : m ≥ 0) (ht : t ≥ 0) (hb2 : b2 = true) (hb1 : b1 = false) (hbad : a0_1 < 0 ∨ a0_1 > m ∨ a0_3 ≠ 0 ∨ (a0_2 < 1 ∨ 6 < a0_2) ∨ 0 < n ∨ a2 < t) :
    Calls Tryd.prog 38 #[.agg #[.int .i64 i, .int .i64 a0_1, .int .i64 a0_2, .int .i64 a0_3, .slice A0_4 n c0_4, .int .i64 a0_5], .int .i64 a1, .int .i64 a2] w fun e w' => e = .returned (.int .i64 50) ∧ Below w.heap.size w w' := by
  have g0 := fun o => zAO (zAF (Below.refl w.heap.size w) o) h0
  have g1 := fun o => zAO (zAF (Below.refl w.heap.size w) o) h1
  have g2 := fun o => zAO (zAF (Below.refl w.heap.size w) o) h2
  have g3 := fun o => zAO (zAF (Below.refl w.heap.size w) o) h3
  have g0c := fun o o' => zAO (zAF (zAF (Below.refl w.heap.size w) o) o') h0
  have g0b := fun o o' o'' => zAO (zAF (zAF (zAF (Below.refl w.heap.size w) o) o') o'') h0
  clear h0 h1 h2 h3
  subst hb2 hb1
  go_enter Tryd.func38, Tryd.ntmps38
  go_wp2
  all_goals first | (exfalso; omega) | (go_ret; exact ⟨rfl, (by repeat (first | exact Below.refl _ _ | apply zAF))⟩)
set_option maxHeartbeats 4000000 in
set_option maxRecDepth 100000 in
theorem node_goodC (i : Nat) (hi : i < 17) (h1i : 1 ≤ i) (t m : Int) (b1 b2 : Bool) (a0_1 : Int) (a0_2 : Int) (a0_3 : Int) (A0_4 : Option Addr) (c0_4 n : Nat) (a0_5 a1 a2 : Int) (w : World)
    (h0 : w.cell? ⟨0, i * 4, none⟩ = some (.int .i64 t)) (h1 : w.cell? ⟨0, i * 4 + 1, none⟩ = some (.int .i64 m)) (h2 : w.cell? ⟨0, i * 4 + 2, none⟩ = some (.bool b1)) (h3 : w.cell? ⟨0, i * 4 + 3, none⟩ = some (.bool b2))
    (hm : m ≥ 0) (ht : t ≥ 0) (hb2 : b2 = true) (hb1 : b1 = false) (h1_ : ¬ a0_1 < 0) (h2_ : ¬ a0_1 > m) (h3_ : ¬ a0_3 ≠ 0) (h4_ : ¬ (a0_2 < 1 ∨ 6 < a0_2)) (h5_ : ¬ 0 < n) (h6_ : ¬ a2 < t) :
    Calls Tryd.prog 38 #[.agg #[.int .i64 i, .int .i64 a0_1, .int .i64 a0_2, .int .i64 a0_3, .slice A0_4 n c0_4, .int .i64 a0_5], .int .i64 a1, .int .i64 a2] w fun e w' => e = .returned (.int .i64 0) ∧ Below w.heap.size w w' := by
  have g0 := fun o => zAO (zAF (Below.refl w.heap.size w) o) h0
  have g1 := fun o => zAO (zAF (Below.refl w.heap.size w) o) h1
  have g2 := fun o => zAO (zAF (Below.refl w.heap.size w) o) h2
  have g3 := fun o => zAO (zAF (Below.refl w.heap.size w) o) h3
  have g0c := fun o o' => zAO (zAF (zAF (Below.refl w.heap.size w) o) o') h0
  have g0b := fun o o' o'' => zAO (zAF (zAF (zAF (Below.refl w.heap.size w) o) o') o'') h0
  clear h0 h1 h2 h3
  subst hb2 hb1
  go_enter Tryd.func38, Tryd.ntmps38
  go_wp2
  all_goals first | (exfalso; omega) | (go_ret; exact ⟨rfl, (by repeat (first | exact Below.refl _ _ | apply zAF))⟩)
set_option maxHeartbeats 4000000 in
set_option maxRecDepth 100000 in
theorem node_badD (i : Nat) (hi : i < 17) (h1i : 1 ≤ i) (t m : Int) (b1 b2 : Bool) (a0_1 : Int) (a0_2 : Int) (a0_3 : Int) (A0_4 : Option Addr) (c0_4 n : Nat) (a0_5 a1 a2 : Int) (w : World)
    (h0 : w.cell? ⟨0, i * 4, none⟩ = some (.int .i64 t)) (h1 : w.cell? ⟨0, i * 4 + 1, none⟩ = some (.int .i64 m)) (h2 : w.cell? ⟨0, i * 4 + 2, none⟩ = some (.bool b1)) (h3 : w.cell? ⟨0, i * 4 + 3, none⟩ = some (.bool b2))
    (hm : m ≥ 0) (ht : t ≥ 0) (hb2 : b2 = false) (hb1 : b1 = false) (hbad : a0_1 < 0 ∨ a0_1 > m ∨ a0_3 ≠ 0 ∨ a0_2 ≠ 0 ∨ 0 < n ∨ a2 < t) :
    Calls Tryd.prog 38 #[.agg #[.int .i64 i, .int .i64 a0_1, .int .i64 a0_2, .int .i64 a0_3, .slice A0_4 n c0_4, .int .i64 a0_5], .int .i64 a1, .int .i64 a2] w fun e w' => e = .returned (.int .i64 50) ∧ Below w.heap.size w w' := by
  have g0 := fun o => zAO (zAF (Below.refl w.heap.size w) o) h0
  have g1 := fun o => zAO (zAF (Below.refl w.heap.size w) o) h1
  have g2 := fun o => zAO (zAF (Below.refl w.heap.size w) o) h2
  have g3 := fun o => zAO (zAF (Below.refl w.heap.size w) o) h3
  have g0c := fun o o' => zAO (zAF (zAF (Below.refl w.heap.size w) o) o') h0
  have g0b := fun o o' o'' => zAO (zAF (zAF (zAF (Below.refl w.heap.size w) o) o') o'') h0
  clear h0 h1 h2 h3
  subst hb2 hb1
  go_enter Tryd.func38, Tryd.ntmps38
  go_wp2
  all_goals first | (exfalso; omega) | (go_ret; exact ⟨rfl, (by repeat (first | exact Below.refl _ _ | apply zAF))⟩)
set_option maxHeartbeats 4000000 in
set_option maxRecDepth 100000 in
theorem node_goodD (i : Nat) (hi : i < 17) (h1i : 1 ≤ i) (t m : Int) (b1 b2 : Bool) (a0_1 : Int) (a0_2 : Int) (a0_3 : Int) (A0_4 : Option Addr) (c0_4 n : Nat) (a0_5 a1 a2 : Int) (w : World)
    (h0 : w.cell? ⟨0, i * 4, none⟩ = some (.int .i64 t)) (h1 : w.cell? ⟨0, i * 4 + 1, none⟩ = some (.int .i64 m)) (h2 : w.cell? ⟨0, i * 4 + 2, none⟩ = some (.bool b1)) (h3 : w.cell? ⟨0, i * 4 + 3, none⟩ = some (.bool b2))
    (hm : m ≥ 0) (ht : t ≥ 0) (hb2 : b2 = false) (hb1 : b1 = false) (h1_ : ¬ a0_1 < 0) (h2_ : ¬ a0_1 > m) (h3_ : ¬ a0_3 ≠ 0) (h4_ : ¬ a0_2 ≠ 0) (h5_ : ¬ 0 < n) (h6_ : ¬ a2 < t) :
    Calls Tryd.prog 38 #[.agg #[.int .i64 i, .int .i64 a0_1, .int .i64 a0_2, .int .i64 a0_3, .slice A0_4 n c0_4, .int .i64 a0_5], .int .i64 a1, .int .i64 a2] w fun e w' => e = .returned (.int .i64 0) ∧ Below w.heap.size w w' := by
  have g0 := fun o => zAO (zAF (Below.refl w.heap.size w) o) h0
  have g1 := fun o => zAO (zAF (Below.refl w.heap.size w) o) h1
  have g2 := fun o => zAO (zAF (Below.refl w.heap.size w) o) h2
  have g3 := fun o => zAO (zAF (Below.refl w.heap.size w) o) h3
  have g0c := fun o o' => zAO (zAF (zAF (Below.refl w.heap.size w) o) o') h0
  have g0b := fun o o' o'' => zAO (zAF (zAF (zAF (Below.refl w.heap.size w) o) o') o'') h0
  clear h0 h1 h2 h3
  subst hb2 hb1
  go_enter Tryd.func38, Tryd.ntmps38
  go_wp2
  all_goals first | (exfalso; omega) | (go_ret; exact ⟨rfl, (by repeat (first | exact Below.refl _ _ | apply zAF))⟩)
set_option maxHeartbeats 4000000 in
set_option maxRecDepth 100000 in
theorem node_badE (i : Nat) (hi : i < 17) (h1i : 1 ≤ i) (t m : Int) (b1 b2 : Bool) (a0_1 : Int) (a0_2 : Int) (a0_3 : Int) (A0_4 : Option Addr) (c0_4 n : Nat) (a0_5 a1 a2 : Int) (w : World)
    (h0 : w.cell? ⟨0, i * 4, none⟩ = some (.int .i64 t)) (h1 : w.cell? ⟨0, i * 4 + 1, none⟩ = some (.int .i64 m)) (h2 : w.cell? ⟨0, i * 4 + 2, none⟩ = some (.bool b1)) (h3 : w.cell? ⟨0, i * 4 + 3, none⟩ = some (.bool b2))
    (hm : m ≥ 0) (ht : t ≥ 0) (hb2 : b2 = false) (hb1 : b1 = true) (hbad : a0_1 < 0 ∨ a0_1 > m ∨ a0_3 ≠ 0 ∨ a0_2 ≠ 0 ∨ a2 < t) :
    Calls Tryd.prog 38 #[.agg #[.int .i64 i, .int .i64 a0_1, .int .i64 a0_2, .int .i64 a0_3, .slice A0_4 n c0_4, .int .i64 a0_5], .int .i64 a1, .int .i64 a2] w fun e w' => e = .returned (.int .i64 50) ∧ Below w.heap.size w w' := by
  have g0 := fun o => zAO (zAF (Below.refl w.heap.size w) o) h0
  have g1 := fun o => zAO (zAF (Below.refl w.heap.size w) o) h1
  have g2 := fun o => zAO (zAF (Below.refl w.heap.size w) o) h2
  have g3 := fun o => zAO (zAF (Below.refl w.heap.size w) o) h3
  have g0c := fun o o' => zAO (zAF (zAF (Below.refl w.heap.size w) o) o') h0
  have g0b := fun o o' o'' => zAO (zAF (zAF (zAF (Below.refl w.heap.size w) o) o') o'') h0
  clear h0 h1 h2 h3
  subst hb2 hb1
  go_enter Tryd.func38, Tryd.ntmps38
  go_wp2_with (first | (go_at_call 39; refine (takes_pos i hi t _ _ _ _ _ _ _ _ (g0c _ _) ht).mono ?_; rintro e w' ⟨rfl, rfl⟩) | (go_at_call 58; exfalso; omega))
  all_goals first | (exfalso; omega) | (go_ret; exact ⟨rfl, (by repeat (first | exact Below.refl _ _ | apply zAF))⟩)
set_option maxHeartbeats 4000000 in
set_option maxRecDepth 100000 in
theorem node_goodE (i : Nat) (hi : i < 17) (h1i : 1 ≤ i) (t m : Int) (b1 b2 : Bool) (a0_1 : Int) (a0_2 : Int) (a0_3 : Int) (A0_4 : Option Addr) (c0_4 n : Nat) (a0_5 a1 a2 : Int) (w : World)
    (h0 : w.cell? ⟨0, i * 4, none⟩ = some (.int .i64 t)) (h1 : w.cell? ⟨0, i * 4 + 1, none⟩ = some (.int .i64 m)) (h2 : w.cell? ⟨0, i * 4 + 2, none⟩ = some (.bool b1)) (h3 : w.cell? ⟨0, i * 4 + 3, none⟩ = some (.bool b2))
    (hm : m ≥ 0) (ht : t ≥ 0) (hb2 : b2 = false) (hb1 : b1 = true) (h1_ : ¬ a0_1 < 0) (h2_ : ¬ a0_1 > m) (h3_ : ¬ a0_3 ≠ 0) (h4_ : ¬ a0_2 ≠ 0) (h6_ : ¬ a2 < t) (b : Bool) (hr : ∀ W, Below w.heap.size w W → Calls Tryd.prog 58 #[.slice A0_4 n c0_4] W fun e w' => e = .returned (.bool b) ∧ Below W.heap.size W w') :
    Calls Tryd.prog 38 #[.agg #[.int .i64 i, .int .i64 a0_1, .int .i64 a0_2, .int .i64 a0_3, .slice A0_4 n c0_4, .int .i64 a0_5], .int .i64 a1, .int .i64 a2] w fun e w' => e = .returned (.int .i64 (if b = true then 0 else 51)) ∧ Below w.heap.size w w' := by
  have g0 := fun o => zAO (zAF (Below.refl w.heap.size w) o) h0
  have g1 := fun o => zAO (zAF (Below.refl w.heap.size w) o) h1
  have g2 := fun o => zAO (zAF (Below.refl w.heap.size w) o) h2
  have g3 := fun o => zAO (zAF (Below.refl w.heap.size w) o) h3
  have g0c := fun o o' => zAO (zAF (zAF (Below.refl w.heap.size w) o) o') h0
  have g0b := fun o o' o'' => zAO (zAF (zAF (zAF (Below.refl w.heap.size w) o) o') o'') h0
  clear h0 h1 h2 h3
  subst hb2 hb1
  have HR_ := aK_ hr
  clear hr
  go_enter Tryd.func38, Tryd.ntmps38
  go_wp2_with (first | (go_at_call 39; refine (takes_pos i hi t _ _ _ _ _ _ _ _ (g0c _ _) ht).mono ?_; rintro e w' ⟨rfl, rfl⟩) | (go_at_call 58; refine (HR_.out _ (by repeat (first | exact Below.refl _ _ | apply zAF))).mono ?_; rintro e w' ⟨rfl, bel_⟩; have BEL_ := aK_ bel_; clear bel_))
  all_goals first | (exfalso; omega) | (go_ret; exact ⟨by cases b <;> first | rfl | (exfalso; simp_all; done), below_then (by repeat (first | exact Below.refl _ _ | apply zAF)) (by simp only [World.size_alloc]; omega) BEL_.out⟩) | (go_ret; exact ⟨by simp_all, below_then (by repeat (first | exact Below.refl _ _ | apply zAF)) (by simp) BEL_.out⟩)
theorem ite_cases {c : Bool} {x y : Option Int} {r : Int} (h : (if c = true then x else y) = some r) : (c = true ∧ x = some r) ∨ (c = false ∧ y = some r) := by
  cases c
  · exact .inr ⟨rfl, by simpa using h⟩
  · exact .inl ⟨rfl, by simpa using h⟩
set_option maxHeartbeats 4000000 in
set_option maxRecDepth 100000 in
theorem node_out (a0_0 : Int) (ho : a0_0 < 1 ∨ a0_0 > 16) (a0_1 : Int) (a0_2 : Int) (a0_3 : Int) (A0_4 : Option Addr) (c0_4 n : Nat) (a0_5 a1 a2 : Int) (w : World) :
    Calls Tryd.prog 38 #[.agg #[.int .i64 a0_0, .int .i64 a0_1, .int .i64 a0_2, .int .i64 a0_3, .slice A0_4 n c0_4, .int .i64 a0_5], .int .i64 a1, .int .i64 a2] w fun e w' => e = .returned (.int .i64 50) ∧ Below w.heap.size w w' := by
  by_cases h1 : a0_0 < 1
  · go_enter Tryd.func38, Tryd.ntmps38
    go_wp2
    all_goals first | (exfalso; omega) | (go_ret; exact ⟨rfl, (by repeat (first | exact Below.refl _ _ | apply zAF))⟩)
  · have h2 : 16 < a0_0 := by omega
    clear ho
    go_enter Tryd.func38, Tryd.ntmps38
    go_wp2
    all_goals first | (exfalso; omega) | (go_ret; exact ⟨rfl, (by repeat (first | exact Below.refl _ _ | apply zAF))⟩)
set_option maxHeartbeats 8000000 in
set_option maxRecDepth 100000 in
theorem tree_node.calls (k : Nat) (a0_0 : Int) (a0_1 : Int) (a0_2 : Int) (a0_3 : Int) (A0_4 : Option Addr) (c0_4 : Nat) (l0_4 : List (S45)) (a0_5 : Int) (a1 : Int) (a2 : Int) (r : Int) (w : World) (hG : GW w) (hr0_4 : Kd.C k45 w A0_4 l0_4.length l0_4) (hc0_4 : l0_4.length ≤ c0_4) (h : tree_node.f k a0_0 a0_1 a0_2 a0_3 l0_4 a0_5 a1 a2 = some r) :
    Calls Tryd.prog 38 #[.agg #[.int .i64 a0_0, .int .i64 a0_1, .int .i64 a0_2, .int .i64 a0_3, .slice A0_4 l0_4.length c0_4, .int .i64 a0_5], .int .i64 a1, .int .i64 a2] w fun e w' => e = .returned (.int .i64 r) ∧ Below w.heap.size w w' := by
  unfold tree_node.f at h
  by_cases ho : a0_0 < 1 ∨ a0_0 > 16
  · rw [if_pos ho] at h
    obtain rfl := Option.some.inj h
    exact node_out a0_0 ho a0_1 a0_2 a0_3 A0_4 c0_4 _ a0_5 a1 a2 w
  · rw [if_neg ho] at h
    obtain ⟨i, rfl⟩ := Int.eq_ofNat_of_zero_le (show 0 ≤ a0_0 by omega)
    have hi : i < 17 := by omega
    have h1i : 1 ≤ i := by omega
    obtain ⟨h0, h1, h2, h3⟩ := hG.kinds i hi
    have h4 := kinds4 i h1i hi
    clear ho
    unfold nodeBad at h
    generalize tk (i : Int) = t at h h0 h4
    generalize mo (i : Int) = m at h h1 h4
    generalize ti (i : Int) = b1 at h h2 h4
    generalize op (i : Int) = b2 at h h3 h4
    generalize hn : l0_4.length = n at h
    generalize hq : wrap64 (a1 - 1) = q at h
    rcases ite_cases h with ⟨hb, h⟩ | ⟨hb, h⟩
    · obtain rfl := Option.some.inj h
      clear h
      rcases h4 with ⟨hm, ht, hb2, hb1⟩ | ⟨hm, ht, hb2, hb1⟩ | ⟨hm, ht, hb2, hb1⟩ | ⟨hm, ht, hb2⟩
      · have x1 : ¬ t < 0 := Int.not_lt.mpr ht
        have x2 := x1
        exact node_badA i hi h1i t m b1 b2 a0_1 a0_2 a0_3 A0_4 c0_4 n a0_5 a1 a2 w h0 h1 h2 h3 hm ht hb2 hb1 (by
          try rw [hq]
          clear hq hn; simp [hm, ht, hb2, hb1, x1, x2] at hb; omega)
      · have x1 : ¬ m < 0 := Int.not_lt.mpr hm
        have x2 : ¬ t ≥ 0 := Int.not_le.mpr ht
        exact node_badB i hi h1i t m b1 b2 a0_1 a0_2 a0_3 A0_4 c0_4 n a0_5 a1 a2 w h0 h1 h2 h3 hm ht hb2 hb1 (by
          try rw [hq]
          clear hq hn; simp [hm, ht, hb2, hb1, x1, x2] at hb; omega)
      · have x1 : ¬ m < 0 := Int.not_lt.mpr hm
        have x2 : ¬ t < 0 := Int.not_lt.mpr ht
        exact node_badC i hi h1i t m b1 b2 a0_1 a0_2 a0_3 A0_4 c0_4 n a0_5 a1 a2 w h0 h1 h2 h3 hm ht hb2 hb1 (by
          try rw [hq]
          clear hq hn; simp [hm, ht, hb2, hb1, x1, x2] at hb; omega)
      · have x1 : ¬ m < 0 := Int.not_lt.mpr hm
        have x2 : ¬ t < 0 := Int.not_lt.mpr ht
        rcases Bool.eq_false_or_eq_true b1 with hb1 | hb1
        · exact node_badE i hi h1i t m b1 b2 a0_1 a0_2 a0_3 A0_4 c0_4 n a0_5 a1 a2 w h0 h1 h2 h3 hm ht hb2 hb1 (by
          try rw [hq]
          clear hq hn; simp [hm, ht, hb2, hb1, x1, x2] at hb; omega)
        · exact node_badD i hi h1i t m b1 b2 a0_1 a0_2 a0_3 A0_4 c0_4 n a0_5 a1 a2 w h0 h1 h2 h3 hm ht hb2 hb1 (by
          try rw [hq]
          clear hq hn; simp [hm, ht, hb2, hb1, x1, x2] at hb; omega)
    · rcases h4 with ⟨hm, ht, hb2, hb1⟩ | ⟨hm, ht, hb2, hb1⟩ | ⟨hm, ht, hb2, hb1⟩ | ⟨hm, ht, hb2⟩
      · have x1 : ¬ t < 0 := Int.not_lt.mpr ht
        have x2 := x1
        rw [if_neg (by simp [hb1])] at h
        obtain rfl := Option.some.inj h
        obtain ⟨y1, y2, y3, y4, y5, y6⟩ : (¬ a0_1 < 0) ∧ (¬ a0_1 > q) ∧ (¬ a0_3 ≠ 0) ∧ (¬ a0_2 ≠ 0) ∧ (¬ 0 < n) ∧ (¬ a2 < t) := by
          clear hq hn
          simp [hm, ht, hb2, hb1, x1, x2] at hb
          omega
        rw [← hq] at y2
        exact node_goodA i hi h1i t m b1 b2 a0_1 a0_2 a0_3 A0_4 c0_4 n a0_5 a1 a2 w h0 h1 h2 h3 hm ht hb2 hb1 y1 y2 y3 y4 y5 y6
      · have x1 : ¬ m < 0 := Int.not_lt.mpr hm
        have x2 : ¬ t ≥ 0 := Int.not_le.mpr ht
        rw [if_neg (by simp [hb1])] at h
        obtain rfl := Option.some.inj h
        obtain ⟨y1, y2, y3, y4, y5, y6⟩ : (¬ a0_1 < 0) ∧ (¬ a0_1 > m) ∧ (¬ (a0_3 < 2 ∨ 16 < a0_3)) ∧ (¬ a0_2 ≠ 0) ∧ (¬ 0 < n) ∧ (¬ a2 < a0_3) := by
          clear hq hn
          simp [hm, ht, hb2, hb1, x1, x2] at hb
          omega
        exact node_goodB i hi h1i t m b1 b2 a0_1 a0_2 a0_3 A0_4 c0_4 n a0_5 a1 a2 w h0 h1 h2 h3 hm ht hb2 hb1 y1 y2 y3 y4 y5 y6
      · have x1 : ¬ m < 0 := Int.not_lt.mpr hm
        have x2 : ¬ t < 0 := Int.not_lt.mpr ht
        rw [if_neg (by simp [hb1])] at h
        obtain rfl := Option.some.inj h
        obtain ⟨y1, y2, y3, y4, y5, y6⟩ : (¬ a0_1 < 0) ∧ (¬ a0_1 > m) ∧ (¬ a0_3 ≠ 0) ∧ (¬ (a0_2 < 1 ∨ 6 < a0_2)) ∧ (¬ 0 < n) ∧ (¬ a2 < t) := by
          clear hq hn
          simp [hm, ht, hb2, hb1, x1, x2] at hb
          omega
        exact node_goodC i hi h1i t m b1 b2 a0_1 a0_2 a0_3 A0_4 c0_4 n a0_5 a1 a2 w h0 h1 h2 h3 hm ht hb2 hb1 y1 y2 y3 y4 y5 y6
      · have x1 : ¬ m < 0 := Int.not_lt.mpr hm
        have x2 : ¬ t < 0 := Int.not_lt.mpr ht
        rcases (Bool.eq_false_or_eq_true b1).symm with hb1 | hb1
        ·
          rw [if_neg (by simp [hb1])] at h
          obtain rfl := Option.some.inj h
          obtain ⟨y1, y2, y3, y4, y5, y6⟩ : (¬ a0_1 < 0) ∧ (¬ a0_1 > m) ∧ (¬ a0_3 ≠ 0) ∧ (¬ a0_2 ≠ 0) ∧ (¬ 0 < n) ∧ (¬ a2 < t) := by
            clear hq hn
            simp [hm, ht, hb2, hb1, x1, x2] at hb
            omega
          exact node_goodD i hi h1i t m b1 b2 a0_1 a0_2 a0_3 A0_4 c0_4 n a0_5 a1 a2 w h0 h1 h2 h3 hm ht hb2 hb1 y1 y2 y3 y4 y5 y6
        ·
          rw [if_pos hb1] at h
          obtain ⟨b, hf, hr⟩ := Option.bind_eq_some_iff.1 h
          obtain rfl := Option.some.inj hr
          obtain ⟨y1, y2, y3, y4, y6⟩ : (¬ a0_1 < 0) ∧ (¬ a0_1 > m) ∧ (¬ a0_3 ≠ 0) ∧ (¬ a0_2 ≠ 0) ∧ (¬ a2 < t) := by
            clear hq hn
            simp [hm, ht, hb2, hb1, x1, x2] at hb
            omega
          subst hn
          have hcall : ∀ W, Below w.heap.size w W → Calls Tryd.prog 58 #[.slice A0_4 l0_4.length c0_4] W (fun e w' => e = .returned (.bool b) ∧ Below W.heap.size W w') := fun W hW => tree_rising.calls k A0_4 c0_4 l0_4 b W (Kd.C_below hr0_4 hW) hc0_4 hf
          exact node_goodE i hi h1i t m b1 b2 a0_1 a0_2 a0_3 A0_4 c0_4 l0_4.length a0_5 a1 a2 w h0 h1 h2 h3 hm ht hb2 hb1 y1 y2 y3 y4 y6 b hcall
end Go.Proofs.YthbnigjckjkmnaaDoor.S

namespace Go.Proofs.YthbnigjckjkmnaaDoor.S
open Go.RowKit Go.Proofs.YthbnigjckjkmnaaDoorW.PrintWords Go.Proofs.YthbnigjckjkmnaaDoorW.PrintLast Go.Proofs.YthbnigjckjkmnaaDoorW.PrintMore
attribute [local go_sem] max2_int min2_int max_two min_two max_three min_three max_four min_four
def tree_firsts.l0:Nat→List Int→List Int→List (S33)→Int→Int→Option (List Int)
 |0,_,_,_,_,_=>none
 |k+1,x3,x4,x10,x11,x12=>if x12<x11 then (if 0≤x12 then (if x12<(x10.length:Int) then ((tree_takes.f ((zAD x10 x12).f0) ((zAD x10 x12).f1) ((zAD x10 x12).f2) ((zAD x10 x12).f3) ((zAD x10 x12).f4) ((zAD x10 x12).f5)).bind fun t128=>(if t128 > 0 then (if 0≤(wrap64 ((x4.length:Int) - t128)) then (if (wrap64 ((x4.length:Int) - t128))<(x4.length:Int) then (if (wrap64 ((x4.length:Int) - t128))≤(x4.length:Int) then ((some (x4.take ((wrap64 ((x4.length:Int) - t128)):Int).toNat:List Int)).bind fun y130=>(if y130.length<17592186044416 then (if x3.length<17592186044416 then (tree_firsts.l0 k (x3 ++ [rd x4 (wrap64 ((x4.length:Int) - t128))]) (y130 ++ [rd x4 (wrap64 ((x4.length:Int) - t128))]) x10 x11 (wrap64 (x12+1))) else (none)) else (none))) else (none)) else (none)) else (none)) else (if x4.length<17592186044416 then (if x3.length<17592186044416 then (tree_firsts.l0 k (x3 ++ [x12]) (x4 ++ [x12]) x10 x11 (wrap64 (x12+1))) else (none)) else (none)))) else (none)) else (none)) else (some x3)
def tree_firsts.f (k:Nat) (a0_0:ByteArray) (l0_1:List (S47)) (a0_2:Int) (l0_3:List (S33)):Option (List Int):=tree_firsts.l0 k ([]:List Int) ([]:List Int) l0_3 (l0_3.length:Int) 0
theorem tree_firsts.mono_l:∀ k,(∀ y0 y1 y2 y3 y4,LeO (tree_firsts.l0 k y0 y1 y2 y3 y4) (tree_firsts.l0 (k+1) y0 y1 y2 y3 y4))
 |0=>fun _ _ _ _ _ r h=>by simp [tree_firsts.l0] at h
 |k+1=>by
  have ih0:=tree_firsts.mono_l k
  ·intro y0 y1 y2 y3 y4
   unfold tree_firsts.l0
   repeat' first
   |(with_reducible exact ih0 _ _ _ _ _)
   |(with_reducible exact LeO.refl _)
   |(with_reducible exact LeO.none _)
   |(with_reducible refine LeO.ite ?_ ?_)
   |(with_reducible refine LeO.bind ?_ (fun _=>?_))
   |exact ih0 _ _ _ _ _
   |exact LeO.none _
   |refine LeO.ite ?_ ?_
   |refine LeO.bind ?_ (fun _=>?_)
theorem tree_firsts.mono:∀ a0 a1 a2 a3 k,LeO (tree_firsts.f k a0 a1 a2 a3) (tree_firsts.f (k+1) a0 a1 a2 a3):=by
 intro a0 a1 a2 a3 k
 have ih0:=tree_firsts.mono_l k
 unfold tree_firsts.f
 repeat' first
   |(with_reducible exact ih0 _ _ _ _ _)
   |(with_reducible exact LeO.refl _)
   |(with_reducible exact LeO.none _)
   |(with_reducible refine LeO.ite ?_ ?_)
   |(with_reducible refine LeO.bind ?_ (fun _=>?_))
   |exact ih0 _ _ _ _ _
   |exact LeO.none _
   |refine LeO.ite ?_ ?_
   |refine LeO.bind ?_ (fun _=>?_)
set_option maxHeartbeats 8000000 in
set_option maxRecDepth 100000 in
theorem tree_firsts.calls (k:Nat) (a0_0:ByteArray) (A0_1:Option Addr) (c0_1:Nat) (l0_1:List (S47)) (a0_2:Int) (A0_3:Option Addr) (c0_3:Nat) (l0_3:List (S33)) (r:List Int) (w:World) (hG:GW w) (hr0_1:Kd.C k47 w A0_1 l0_1.length l0_1) (hc0_1:l0_1.length≤c0_1) (hr0_3:Kd.C k33 w A0_3 l0_3.length l0_3) (hc0_3:l0_3.length≤c0_3) (h:tree_firsts.f k a0_0 l0_1 a0_2 l0_3=some r) :
  Calls Tryd.prog 51 #[.agg #[.string a0_0,.slice A0_1 l0_1.length c0_1,.int .i64 a0_2,.slice A0_3 l0_3.length c0_3]] w fun e w'=>∃ v0_:Value,e = .returned (v0_)∧Kd.R (Kd.int .i64) 3 w' w.heap.size (fun _=>True) v0_ r∧Below w.heap.size w w':=by
 have hu25:=Tryd.underlying25
 have hu33:=Tryd.underlying33
 have HR0_1:=aK_ hr0_1
 have HC0_1:=aK_ hc0_1
 clear hr0_1 hc0_1
 have HR0_3:=aK_ hr0_3
 have HC0_3:=aK_ hc0_3
 clear hr0_3 hc0_3
 have HB:=aK_ (Below.refl w.heap.size w)
 have H:(tree_firsts.l0 k ([]:List Int) ([]:List Int) l0_3 (l0_3.length:Int) 0)=some r:=h
 clear h
 have H':=aK_ H
 clear H
 go_enter Tryd.func51,Tryd.ntmps51
 go_wp2_with (first|((with_reducible refine zAX (N:=1) rfl ?_);refine zAW ?hg (N:=1) ?hd (cs:=#[.string a0_0,.slice A0_1 l0_1.length c0_1,.int .i64 a0_2,.slice A0_3 l0_3.length c0_3]) (t:=25) ?hr ?_;(case hd=>rfl);(case hg=>rfl);(case hr=>first|(go_simp;done)|(go_simp;rfl));intro gb125 hg w2 hbox hb;have n0_:=aK_ (zAG (aH_ HB.out) hb);have n1_:=aK_ (hbox);have n2_:=aK_ ((by rw [hg];exact (zAE (aH_ HB.out)):w.heap.size≤gb125));have n3_:=aK_ ((by rw [hg];exact (zAE (aH_ HB.out)):w.heap.size≤gb125));clear HB;have HB:=n0_;have BK125:=n1_;have GW125:=n2_;have GE125:=n3_;clear n0_ n1_ n2_ n3_;clear hb hbox hg;have hcz3_0:w2.cell? ⟨gb125,0,none⟩=some (.string a0_0):=(zAB BK125.out 0).trans rfl;have hcz3_1:w2.cell? ⟨gb125,1,none⟩=some (.slice A0_1 l0_1.length c0_1):=(zAB BK125.out 1).trans rfl;have hcz3_2:w2.cell? ⟨gb125,2,none⟩=some (.int .i64 a0_2):=(zAB BK125.out 2).trans rfl;have hcz3_3:w2.cell? ⟨gb125,3,none⟩=some (.slice A0_3 l0_3.length c0_3):=(zAB BK125.out 3).trans rfl;have hfz3_0:=zAA BK125.out 0;have hfz3_1:=zAA BK125.out 1;have hfz3_2:=zAA BK125.out 2;have hfz3_3:=zAA BK125.out 3))
 (try simp only [Act.put,List.setIfInBounds_toArray,List.set_cons_zero,List.set_cons_succ])
 go_loopg [3,4,12] k (fun kq v3 v4 v12 w'=>∃ (x3_1:List Int) (x4_1:List Int) (x12_1:Int),v12 = .int .i64 x12_1∧zAJ (tree_firsts.l0 kq x3_1 x4_1 l0_3 (l0_3.length:Int) x12_1=some r)∧zAJ (kq≤k)∧zAJ (Kd.R (Kd.int .i64) 3 w' w.heap.size (fun k_=>some k_≠(v4:Value).ownBlock) v3 x3_1)∧zAJ (Kd.R (Kd.int .i64) 3 w' w.heap.size (fun k_=>some k_≠(v3:Value).ownBlock) v4 x4_1)∧zAJ (w'.heap[gb125]?=some (.cells #[.string a0_0,(.slice A0_1 l0_1.length c0_1),.int .i64 a0_2,(.slice A0_3 l0_3.length c0_3)] 25 (0,0)))∧zAJ (Below w.heap.size w w'))
 case atStart=>exact ⟨(([]:List Int)),(([]:List Int)),(0),aS2_,H',⟨Nat.le_refl _⟩,⟨by first|exact Kd.R_nil _ _ _ _ _|exact Kd.N_nil _ _ _ _ _|exact Kd.V_nil _ _ _ _ _|exact Kd.Q_nil _ _ _ _ _|exact Kd.S_nil _ _ _ _ _⟩,⟨by first|exact Kd.R_nil _ _ _ _ _|exact Kd.N_nil _ _ _ _ _|exact Kd.V_nil _ _ _ _ _|exact Kd.Q_nil _ _ _ _ _|exact Kd.S_nil _ _ _ _ _⟩,⟨aB_ BK125.out⟩,⟨aI_ HB.out GE125.out⟩⟩
 clear H'
 try clear p2
 try clear hcz3_0
 try clear hcz3_1
 try clear hcz3_2
 try clear hcz3_3
 try clear hfz3_0
 try clear hfz3_1
 try clear hfz3_2
 try clear hfz3_3
 obtain ⟨x3_1,x4_1,x12_1,rfl,HA,HK1,HO_3,HO_4,BK125,HB⟩:=hrel
 cases gk with
 |zero=>exact absurd HA.out (by simp [tree_firsts.l0])
 |succ k1=>?_
 have H:=HA.out
 clear HA
 simp only [tree_firsts.l0] at H
 by_cases c4:x12_1<(l0_3.length:Int)
 rotate_left
 ·rw [if_neg c4] at H
  have c4b0:decide (x12_1<(l0_3.length:Int))=false:=decide_eq_false c4
  clear c4
  obtain rfl:=Option.some.inj H
  go_wp2
  go_ret
  exact ⟨_,by first|rfl|(simp [zAQ,zAR] <;> rfl)|(simp [*,zAQ,zAR] <;> rfl),by refine aR_ ?_;exact Kd.R_mono HO_3.out (fun _ hk=>trivial),aI_ HB.out GE125.out⟩
 rw [if_pos c4] at H
 have c4b0:decide (x12_1<(l0_3.length:Int))=true:=decide_eq_true c4
 clear c4
 have c5:=yes_ H
 rw [if_pos c5] at H
 have c5b0:decide (0≤x12_1)=true:=decide_eq_true c5
 clear c5
 have c6:=yes_ H
 rw [if_pos c6] at H
 have c6b0:decide (x12_1<(l0_3.length:Int))=true:=decide_eq_true c6
 clear c6
 replace H:=Option.bind_eq_some_iff.mp H
 obtain ⟨t128,A70,H⟩:=H
 replace H:(if t128 > 0 then (if 0≤(wrap64 ((x4_1.length:Int) - t128)) then (if (wrap64 ((x4_1.length:Int) - t128))<(x4_1.length:Int) then (if (wrap64 ((x4_1.length:Int) - t128))≤(x4_1.length:Int) then ((some (x4_1.take ((wrap64 ((x4_1.length:Int) - t128)):Int).toNat:List Int)).bind fun y130=>(if y130.length<17592186044416 then (if x3_1.length<17592186044416 then (tree_firsts.l0 k1 (x3_1 ++ [rd x4_1 (wrap64 ((x4_1.length:Int) - t128))]) (y130 ++ [rd x4_1 (wrap64 ((x4_1.length:Int) - t128))]) l0_3 (l0_3.length:Int) (wrap64 (x12_1+1))) else (none)) else (none))) else (none)) else (none)) else (none)) else (if x4_1.length<17592186044416 then (if x3_1.length<17592186044416 then (tree_firsts.l0 k1 (x3_1 ++ [x12_1]) (x4_1 ++ [x12_1]) l0_3 (l0_3.length:Int) (wrap64 (x12_1+1))) else (none)) else (none)))=some r:=H
 have A7:=aK_ A70
 clear A70
 by_cases c8:t128 > 0
 rotate_left
 ·rw [if_neg c8] at H
  have c8b0:decide (0<t128)=false:=decide_eq_false c8
  clear c8
  have c23:=yes_ H
  rw [if_pos c23] at H
  have LMc23:=aK_ c23
  clear c23
  obtain ⟨y139,hy139⟩:∃ y_:List Int,y_=(x4_1 ++ [x12_1]):=⟨_,rfl⟩
  replace H:(if x3_1.length<17592186044416 then (tree_firsts.l0 k1 (x3_1 ++ [x12_1]) y139 l0_3 (l0_3.length:Int) (wrap64 (x12_1+1))) else (none))=some r:=by first|(rw [hy139];with_reducible exact H)|(have H2_:=(Option.bind_some _ _).symm.trans H;rw [hy139];with_reducible exact H2_)|(have H2_:=(Option.bind_some _ _).symm.trans H;with_reducible exact H2_)|with_reducible exact H|(rw [hy139];exact H)|exact H
  have Ny139:=aK_ hy139
  clear hy139
  have c24:=yes_ H
  rw [if_pos c24] at H
  have LMc24:=aK_ c24
  clear c24
  obtain ⟨y142,hy142⟩:∃ y_:List Int,y_=(x3_1 ++ [x12_1]):=⟨_,rfl⟩
  replace H:(tree_firsts.l0 k1 y142 y139 l0_3 (l0_3.length:Int) (wrap64 (x12_1+1)))=some r:=by first|(rw [hy142];with_reducible exact H)|(have H2_:=(Option.bind_some _ _).symm.trans H;rw [hy142];with_reducible exact H2_)|(have H2_:=(Option.bind_some _ _).symm.trans H;with_reducible exact H2_)|with_reducible exact H|(rw [hy142];exact H)|exact H
  have Ny142:=aK_ hy142
  clear hy142
  have H':=aK_ H
  clear H
  have p126:0≤(x12_1:Int):=aD_
  have q126:x12_1<(l0_3.length:Int):=aD_
  obtain ⟨ad126,A126_4,c126_4,e126,hx126_0,hx126_1,hx126_2,hx126_3,hx126_4,hx126_5,hl126_4,hi126_4⟩:=at_T33 HR0_3.out x12_1 p126 q126
  cases e126
  replace hx126_0:=(HB.out.cell (World.block_lt_of_cell? w _ hx126_0)).trans hx126_0
  replace hx126_1:=(HB.out.cell (World.block_lt_of_cell? w _ hx126_1)).trans hx126_1
  replace hx126_2:=(HB.out.cell (World.block_lt_of_cell? w _ hx126_2)).trans hx126_2
  replace hx126_3:=(HB.out.cell (World.block_lt_of_cell? w _ hx126_3)).trans hx126_3
  replace hx126_4:=(HB.out.cell (World.block_lt_of_cell? w _ hx126_4)).trans hx126_4
  replace hx126_5:=(HB.out.cell (World.block_lt_of_cell? w _ hx126_5)).trans hx126_5
  have HR126_4:=aK_ hi126_4
  have HC126_4:=aK_ hl126_4
  clear hi126_4 hl126_4
  replace p126:=eq_true p126
  replace q126:=eq_true q126
  go_wp2_with (first|((with_reducible refine zAX (N:=6) rfl ?_);refine zAW ?hg (N:=6) ?hd (cs:=#[.int .i64 0,.int .i64 0,.int .i64 0,.int .i64 0,.slice none 0 0,.int .i64 0]) (t:=33) ?hr ?_;(case hd=>rfl);(case hg=>rfl);(case hr=>first|(go_simp;done)|(go_simp;rfl));intro gb127 hg w25 hbox hb;have n0_:=aK_ (Kd.R_below (aR_ HO_3.out) hb);have n1_:=aK_ (Kd.R_below (aR_ HO_4.out) hb);have n2_:=aK_ (zAM (g:=gb125) (o:=.cells #[.string a0_0,.slice A0_1 l0_1.length c0_1,.int .i64 a0_2,.slice (some ad126) l0_3.length c0_3] 25 (0,0)) (aB_ BK125.out) hb);have n3_:=aK_ (zAG (aI_ HB.out GE125.out) hb);have n4_:=aK_ (hbox);have n5_:=aK_ ((by rw [hg];exact (zAE (aI_ HB.out GE125.out)):w.heap.size≤gb127));have n6_:=aK_ ((by rw [hg];exact (zAE (aI_ HB.out GE125.out)):w.heap.size≤gb127));have n7_:=aK_ ((by rw [hg];exact Nat.ne_of_lt (blk_lt (g:=gb125) (o:=.cells #[.string a0_0,.slice A0_1 l0_1.length c0_1,.int .i64 a0_2,.slice (some ad126) l0_3.length c0_3] 25 (0,0)) (aB_ BK125.out)):gb125≠gb127));have n8_:=aK_ ((by rw [hg];exact Nat.ne_of_gt (blk_lt (g:=gb125) (o:=.cells #[.string a0_0,.slice A0_1 l0_1.length c0_1,.int .i64 a0_2,.slice (some ad126) l0_3.length c0_3] 25 (0,0)) (aB_ BK125.out)):gb127≠gb125));clear HO_3;clear HO_4;clear BK125;clear HB;have HO_3:=n0_;have HO_4:=n1_;have BK125:=n2_;have HB:=n3_;have BK127:=n4_;have GW127:=n5_;have GE127:=n6_;have NB125_127:=n7_;have NB127_125:=n8_;clear n0_ n1_ n2_ n3_ n4_ n5_ n6_ n7_ n8_;clear hb hbox hg;have hnb26:=NB127_125.out;have hnc26:=NB125_127.out;have hcz27_0:w25.cell? ⟨gb127,0,none⟩=some (.int .i64 0):=(zAB BK127.out 0).trans rfl;have hcz27_1:w25.cell? ⟨gb127,1,none⟩=some (.int .i64 0):=(zAB BK127.out 1).trans rfl;have hcz27_2:w25.cell? ⟨gb127,2,none⟩=some (.int .i64 0):=(zAB BK127.out 2).trans rfl;have hcz27_3:w25.cell? ⟨gb127,3,none⟩=some (.int .i64 0):=(zAB BK127.out 3).trans rfl;have hcz27_4:w25.cell? ⟨gb127,4,none⟩=some (.slice none 0 0):=(zAB BK127.out 4).trans rfl;have hcz27_5:w25.cell? ⟨gb127,5,none⟩=some (.int .i64 0):=(zAB BK127.out 5).trans rfl;have hfz27_0:=zAA BK127.out 0;have hfz27_1:=zAA BK127.out 1;have hfz27_2:=zAA BK127.out 2;have hfz27_3:=zAA BK127.out 3;have hfz27_4:=zAA BK127.out 4;have hfz27_5:=zAA BK127.out 5)|((with_reducible refine zAd (f:=39) rfl ?_);refine goesL_ (some 19) rfl rfl Tryd.func39 (by kernel_rfl) rfl #[.agg #[.int .i64 ((zAD l0_3 x12_1).f0),.int .i64 ((zAD l0_3 x12_1).f1),.int .i64 ((zAD l0_3 x12_1).f2),.int .i64 ((zAD l0_3 x12_1).f3),.slice A126_4 ((zAD l0_3 x12_1).f4).length c126_4,.int .i64 ((zAD l0_3 x12_1).f5)]] rfl aM_ ?_;(with_reducible refine (tree_takes.calls ((zAD l0_3 x12_1).f0) ((zAD l0_3 x12_1).f1) ((zAD l0_3 x12_1).f2) ((zAD l0_3 x12_1).f3) _ _ ((zAD l0_3 x12_1).f4) ((zAD l0_3 x12_1).f5) t128 _ ?side1 ?side2 ?side3 A7.out).mono ?_);(case side1=>(first|(with_reducible exact hG)|((repeat (with_reducible first|exact hG|apply GW.drewN|apply GW.drew|apply GW.alloc));done)|exact GW.below hG (aJ_ HB.out GE125.out GE127.out)));(case side2=>exact Kd.C_below HR126_4.out (aJ_ HB.out GE125.out GE127.out));(case side3=>exact HC126_4.out);rintro e w28 ⟨rfl,hb⟩;refine ⟨_,rfl,?_⟩;have n0_:=aK_ (Kd.R_below (by refine aR_ ?_;exact (Kd.R_mono (Kd.R_far (p:=⟨gb127,5,none⟩) (Kd.R_far (p:=⟨gb127,4,none⟩) (Kd.R_far (p:=⟨gb127,3,none⟩) (Kd.R_far (p:=⟨gb127,2,none⟩) (Kd.R_far (p:=⟨gb127,1,none⟩) (Kd.R_far (p:=⟨gb127,0,none⟩) (Kd.R_types HO_3.out BK127.out (by decide)) (fun _ hk=>hk.2) (.int .i64 ((zAD l0_3 x12_1).f0))) (fun _ hk=>hk.2) (.int .i64 ((zAD l0_3 x12_1).f1))) (fun _ hk=>hk.2) (.int .i64 ((zAD l0_3 x12_1).f2))) (fun _ hk=>hk.2) (.int .i64 ((zAD l0_3 x12_1).f3))) (fun _ hk=>hk.2) (.slice A126_4 ((zAD l0_3 x12_1).f4).length c126_4)) (fun _ hk=>hk.2) (.int .i64 ((zAD l0_3 x12_1).f5))) (fun _ h_=>h_.1))) hb);have n1_:=aK_ (Kd.R_below (by refine aR_ ?_;exact (Kd.R_mono (Kd.R_far (p:=⟨gb127,5,none⟩) (Kd.R_far (p:=⟨gb127,4,none⟩) (Kd.R_far (p:=⟨gb127,3,none⟩) (Kd.R_far (p:=⟨gb127,2,none⟩) (Kd.R_far (p:=⟨gb127,1,none⟩) (Kd.R_far (p:=⟨gb127,0,none⟩) (Kd.R_types HO_4.out BK127.out (by decide)) (fun _ hk=>hk.2) (.int .i64 ((zAD l0_3 x12_1).f0))) (fun _ hk=>hk.2) (.int .i64 ((zAD l0_3 x12_1).f1))) (fun _ hk=>hk.2) (.int .i64 ((zAD l0_3 x12_1).f2))) (fun _ hk=>hk.2) (.int .i64 ((zAD l0_3 x12_1).f3))) (fun _ hk=>hk.2) (.slice A126_4 ((zAD l0_3 x12_1).f4).length c126_4)) (fun _ hk=>hk.2) (.int .i64 ((zAD l0_3 x12_1).f5))) (fun _ h_=>h_.1))) hb);have n2_:=aK_ (zAM (g:=gb125) (o:=.cells #[.string a0_0,.slice A0_1 l0_1.length c0_1,.int .i64 a0_2,.slice (some ad126) l0_3.length c0_3] 25 (0,0)) (by refine aB_ ?_;refine zAV ?_ NB125_127.out _;refine aB_ ?_;refine zAV ?_ NB125_127.out _;refine aB_ ?_;refine zAV ?_ NB125_127.out _;refine aB_ ?_;refine zAV ?_ NB125_127.out _;refine aB_ ?_;refine zAV ?_ NB125_127.out _;refine aB_ ?_;refine zAV ?_ NB125_127.out _;refine aB_ ?_;exact BK125.out) hb);have n3_:=aK_ (zAM (g:=gb127) (o:=.cells #[.int .i64 ((zAD l0_3 x12_1).f0),.int .i64 ((zAD l0_3 x12_1).f1),.int .i64 ((zAD l0_3 x12_1).f2),.int .i64 ((zAD l0_3 x12_1).f3),.slice A126_4 ((zAD l0_3 x12_1).f4).length c126_4,.int .i64 ((zAD l0_3 x12_1).f5)] 33 (0,0)) (by refine aB_ ?_;refine zAa (cs:=#[.int .i64 ((zAD l0_3 x12_1).f0),.int .i64 ((zAD l0_3 x12_1).f1),.int .i64 ((zAD l0_3 x12_1).f2),.int .i64 ((zAD l0_3 x12_1).f3),.slice A126_4 ((zAD l0_3 x12_1).f4).length c126_4,.int .i64 0]) ?_ 5 _ rfl;refine aB_ ?_;refine zAa (cs:=#[.int .i64 ((zAD l0_3 x12_1).f0),.int .i64 ((zAD l0_3 x12_1).f1),.int .i64 ((zAD l0_3 x12_1).f2),.int .i64 ((zAD l0_3 x12_1).f3),.slice none 0 0,.int .i64 0]) ?_ 4 _ rfl;refine aB_ ?_;refine zAa (cs:=#[.int .i64 ((zAD l0_3 x12_1).f0),.int .i64 ((zAD l0_3 x12_1).f1),.int .i64 ((zAD l0_3 x12_1).f2),.int .i64 0,.slice none 0 0,.int .i64 0]) ?_ 3 _ rfl;refine aB_ ?_;refine zAa (cs:=#[.int .i64 ((zAD l0_3 x12_1).f0),.int .i64 ((zAD l0_3 x12_1).f1),.int .i64 0,.int .i64 0,.slice none 0 0,.int .i64 0]) ?_ 2 _ rfl;refine aB_ ?_;refine zAa (cs:=#[.int .i64 ((zAD l0_3 x12_1).f0),.int .i64 0,.int .i64 0,.int .i64 0,.slice none 0 0,.int .i64 0]) ?_ 1 _ rfl;refine aB_ ?_;refine zAa (cs:=#[.int .i64 0,.int .i64 0,.int .i64 0,.int .i64 0,.slice none 0 0,.int .i64 0]) ?_ 0 _ rfl;refine aB_ ?_;exact BK127.out) hb);have n4_:=aK_ (zAG (aJ_ HB.out GE125.out GE127.out) hb);clear HO_3;clear HO_4;clear BK125;clear BK127;clear HB;have HO_3:=n0_;have HO_4:=n1_;have BK125:=n2_;have BK127:=n3_;have HB:=n4_;clear n0_ n1_ n2_ n3_ n4_;(try clear hb);(try clear hb2);(try clear hk);(try clear hi))|((with_reducible refine gate_builtin (b:=.append) (xs:=#[.tmp 35,.tmp 37]) rfl ?_);at_builtin;refine Kd.R_append (Kd.int .i64) (w0:=w) w.heap.size rfl (.tmp 35) (.tmp 37) 36 3 (.int .i64 0) 8 rfl Tryd.underlying36 info3 rfl (by decide) (by omega) u4 x4_1 x12_1 [.int .i64 x12_1] (fun k_=>some k_≠(u3:Value).ownBlock) (fun _=>False) rfl rfl ?aP (fun _ hk=>hk.elim) ?aF ?aO ?aB ?aS ?aL ?_;(case aP=>exact rfl);(case aB=>exact (aJ_ HB.out GE125.out GE127.out));(case aF=>exact (fun k_ hk=>Kd.fresh' (Kd.R_lt (aR_ HO_3.out)) k_ hk));(case aO=>exact (aR_ HO_4.out));(case aS=>exact (zAE (aJ_ HB.out GE125.out GE127.out)));(case aL=>have:=LMc23.out;omega);intro v140 w29 ho hb hg hat;rw [← Ny139.out] at ho;have n0_:=aK_ (Kd.R_after (ok:=(fun _=>True)) (by refine aR_ ?_;exact Kd.R_mono HO_3.out (fun _ hk=>⟨trivial,hk⟩)) hg hat);have n1_:=aK_ (blk_grown (g:=gb125) (o:=.cells #[.string a0_0,.slice A0_1 l0_1.length c0_1,.int .i64 a0_2,.slice (some ad126) l0_3.length c0_3] 25 (0,0)) (aB_ BK125.out) hg (Kd.R_ne HO_4.out BK125.out (by decide)));have n2_:=aK_ (blk_grown (g:=gb127) (o:=.cells #[.int .i64 ((zAD l0_3 x12_1).f0),.int .i64 ((zAD l0_3 x12_1).f1),.int .i64 ((zAD l0_3 x12_1).f2),.int .i64 ((zAD l0_3 x12_1).f3),.slice A126_4 ((zAD l0_3 x12_1).f4).length c126_4,.int .i64 ((zAD l0_3 x12_1).f5)] 33 (0,0)) (aB_ BK127.out) hg (Kd.R_ne HO_4.out BK127.out (by decide)));have n3_:=aK_ (hb);have n4_:=aK_ (ho);clear HO_3;clear BK125;clear BK127;clear HB;clear HO_4;have HO_3:=n0_;have BK125:=n1_;have BK127:=n2_;have HB:=n3_;have HO141:=n4_;clear n0_ n1_ n2_ n3_ n4_;clear ho hb hg hat)|((with_reducible refine gate_builtin (b:=.append) (xs:=#[.tmp 39,.tmp 41]) rfl ?_);at_builtin;refine Kd.R_append (Kd.int .i64) (w0:=w) w.heap.size rfl (.tmp 39) (.tmp 41) 36 3 (.int .i64 0) 8 rfl Tryd.underlying36 info3 rfl (by decide) (by omega) u3 x3_1 x12_1 [.int .i64 x12_1] (fun k_=>some k_≠(v140:Value).ownBlock) (fun _=>False) rfl rfl ?aP (fun _ hk=>hk.elim) ?aF ?aO ?aB ?aS ?aL ?_;(case aP=>exact rfl);(case aB=>exact (aJ_ HB.out GE125.out GE127.out));(case aF=>exact (fun k_ hk=>Kd.fresh' (Kd.R_lt (aR_ HO141.out)) k_ hk));(case aO=>exact (by refine aR_ ?_;exact Kd.R_mono HO_3.out (fun _ hk=>hk.2)));(case aS=>exact (zAE (aJ_ HB.out GE125.out GE127.out)));(case aL=>have:=LMc24.out;omega);intro v143 w30 ho hb hg hat;rw [← Ny142.out] at ho;have n0_:=aK_ (blk_grown (g:=gb125) (o:=.cells #[.string a0_0,.slice A0_1 l0_1.length c0_1,.int .i64 a0_2,.slice (some ad126) l0_3.length c0_3] 25 (0,0)) (aB_ BK125.out) hg (Kd.R_ne HO_3.out BK125.out (by decide)));have n1_:=aK_ (blk_grown (g:=gb127) (o:=.cells #[.int .i64 ((zAD l0_3 x12_1).f0),.int .i64 ((zAD l0_3 x12_1).f1),.int .i64 ((zAD l0_3 x12_1).f2),.int .i64 ((zAD l0_3 x12_1).f3),.slice A126_4 ((zAD l0_3 x12_1).f4).length c126_4,.int .i64 ((zAD l0_3 x12_1).f5)] 33 (0,0)) (aB_ BK127.out) hg (Kd.R_ne HO_3.out BK127.out (by decide)));have n2_:=aK_ (Kd.R_after (ok:=(fun _=>True)) (by refine aR_ ?_;exact Kd.R_mono HO141.out (fun _ hk=>⟨trivial,hk⟩)) hg hat);have n3_:=aK_ (hb);have n4_:=aK_ (ho);clear BK125;clear BK127;clear HO141;clear HB;clear HO_3;have BK125:=n0_;have BK127:=n1_;have HO141:=n2_;have HB:=n3_;have HO144:=n4_;clear n0_ n1_ n2_ n3_ n4_;clear ho hb hg hat))
  go_roundg k1
  case measure=>have:=HK1.out;omega
  case rel=>exact ⟨(y142),(y139),(wrap64 (x12_1+1)),aS2_,H',⟨by have:=HK1.out;omega⟩,⟨aR_ HO144.out⟩,⟨by refine aR_ ?_;exact Kd.R_mono HO141.out (fun _ hk=>hk.2)⟩,⟨aB_ BK125.out⟩,⟨aJ_ HB.out GE125.out GE127.out⟩⟩
 rw [if_pos c8] at H
 have c8b0:decide (0<t128)=true:=decide_eq_true c8
 clear c8
 obtain ⟨ji9,hji9⟩:∃ j_:Int,(wrap64 ((x4_1.length:Int) - t128))=j_:=⟨_,rfl⟩
 replace H:(if 0≤(ji9) then (if (ji9)<(x4_1.length:Int) then (if (ji9)≤(x4_1.length:Int) then ((some (x4_1.take ((ji9):Int).toNat:List Int)).bind fun y130=>(if y130.length<17592186044416 then (if x3_1.length<17592186044416 then (tree_firsts.l0 k1 (x3_1 ++ [rd x4_1 (ji9)]) (y130 ++ [rd x4_1 (ji9)]) l0_3 (l0_3.length:Int) (wrap64 (x12_1+1))) else (none)) else (none))) else (none)) else (none)) else (none))=some r:=by first|(rw [hji9] at H;exact H)|(simp only [hji9] at H ⊢;exact H)
 (try rw [hji9] at A7)
 have hji9w:(IntKind.i64.wrap ((x4_1.length:Int) - t128))=ji9:=(i64_w _).trans hji9
 have c10:=yes_ H
 rw [if_pos c10] at H
 have c10b0:decide (0≤(ji9))=true:=decide_eq_true c10
 clear c10
 have c11:=yes_ H
 rw [if_pos c11] at H
 have c11b0:decide ((ji9)<(x4_1.length:Int))=true:=decide_eq_true c11
 clear c11
 have c12:=yes_ H
 rw [if_pos c12] at H
 have c12b0:=eq_true c12
 have c12b1:decide ((ji9)≤(x4_1.length:Int))=true:=decide_eq_true c12
 clear c12
 obtain ⟨y130,hy130⟩:∃ y_:List Int,y_=(x4_1.take ((ji9):Int).toNat):=⟨_,rfl⟩
 replace H:(if y130.length<17592186044416 then (if x3_1.length<17592186044416 then (tree_firsts.l0 k1 (x3_1 ++ [rd x4_1 (ji9)]) (y130 ++ [rd x4_1 (ji9)]) l0_3 (l0_3.length:Int) (wrap64 (x12_1+1))) else (none)) else (none))=some r:=by first|(rw [hy130];with_reducible exact H)|(have H2_:=(Option.bind_some _ _).symm.trans H;rw [hy130];with_reducible exact H2_)|(have H2_:=(Option.bind_some _ _).symm.trans H;with_reducible exact H2_)|with_reducible exact H|(rw [hy130];exact H)|exact H
 have Ny130:=aK_ hy130
 clear hy130
 have c13:=yes_ H
 rw [if_pos c13] at H
 have LMc13:=aK_ c13
 clear c13
 obtain ⟨y133,hy133⟩:∃ y_:List Int,y_=(y130 ++ [rd x4_1 (ji9)]):=⟨_,rfl⟩
 replace H:(if x3_1.length<17592186044416 then (tree_firsts.l0 k1 (x3_1 ++ [rd x4_1 (ji9)]) y133 l0_3 (l0_3.length:Int) (wrap64 (x12_1+1))) else (none))=some r:=by first|(rw [hy133];with_reducible exact H)|(have H2_:=(Option.bind_some _ _).symm.trans H;rw [hy133];with_reducible exact H2_)|(have H2_:=(Option.bind_some _ _).symm.trans H;with_reducible exact H2_)|with_reducible exact H|(rw [hy133];exact H)|exact H
 have Ny133:=aK_ hy133
 clear hy133
 have c14:=yes_ H
 rw [if_pos c14] at H
 have LMc14:=aK_ c14
 clear c14
 obtain ⟨y136,hy136⟩:∃ y_:List Int,y_=(x3_1 ++ [rd x4_1 (ji9)]):=⟨_,rfl⟩
 replace H:(tree_firsts.l0 k1 y136 y133 l0_3 (l0_3.length:Int) (wrap64 (x12_1+1)))=some r:=by first|(rw [hy136];with_reducible exact H)|(have H2_:=(Option.bind_some _ _).symm.trans H;rw [hy136];with_reducible exact H2_)|(have H2_:=(Option.bind_some _ _).symm.trans H;with_reducible exact H2_)|with_reducible exact H|(rw [hy136];exact H)|exact H
 have Ny136:=aK_ hy136
 clear hy136
 have H':=aK_ H
 clear H
 have p126:0≤(x12_1:Int):=aD_
 have q126:x12_1<(l0_3.length:Int):=aD_
 obtain ⟨ad126,A126_4,c126_4,e126,hx126_0,hx126_1,hx126_2,hx126_3,hx126_4,hx126_5,hl126_4,hi126_4⟩:=at_T33 HR0_3.out x12_1 p126 q126
 cases e126
 replace hx126_0:=(HB.out.cell (World.block_lt_of_cell? w _ hx126_0)).trans hx126_0
 replace hx126_1:=(HB.out.cell (World.block_lt_of_cell? w _ hx126_1)).trans hx126_1
 replace hx126_2:=(HB.out.cell (World.block_lt_of_cell? w _ hx126_2)).trans hx126_2
 replace hx126_3:=(HB.out.cell (World.block_lt_of_cell? w _ hx126_3)).trans hx126_3
 replace hx126_4:=(HB.out.cell (World.block_lt_of_cell? w _ hx126_4)).trans hx126_4
 replace hx126_5:=(HB.out.cell (World.block_lt_of_cell? w _ hx126_5)).trans hx126_5
 have HR126_4:=aK_ hi126_4
 have HC126_4:=aK_ hl126_4
 clear hi126_4 hl126_4
 replace p126:=eq_true p126
 replace q126:=eq_true q126
 go_wp2_with (first|((with_reducible refine zAX (N:=6) rfl ?_);refine zAW ?hg (N:=6) ?hd (cs:=#[.int .i64 0,.int .i64 0,.int .i64 0,.int .i64 0,.slice none 0 0,.int .i64 0]) (t:=33) ?hr ?_;(case hd=>rfl);(case hg=>rfl);(case hr=>first|(go_simp;done)|(go_simp;rfl));intro gb127 hg w15 hbox hb;have n0_:=aK_ (Kd.R_below (aR_ HO_3.out) hb);have n1_:=aK_ (Kd.R_below (aR_ HO_4.out) hb);have n2_:=aK_ (zAM (g:=gb125) (o:=.cells #[.string a0_0,.slice A0_1 l0_1.length c0_1,.int .i64 a0_2,.slice (some ad126) l0_3.length c0_3] 25 (0,0)) (aB_ BK125.out) hb);have n3_:=aK_ (zAG (aI_ HB.out GE125.out) hb);have n4_:=aK_ (hbox);have n5_:=aK_ ((by rw [hg];exact (zAE (aI_ HB.out GE125.out)):w.heap.size≤gb127));have n6_:=aK_ ((by rw [hg];exact (zAE (aI_ HB.out GE125.out)):w.heap.size≤gb127));have n7_:=aK_ ((by rw [hg];exact Nat.ne_of_lt (blk_lt (g:=gb125) (o:=.cells #[.string a0_0,.slice A0_1 l0_1.length c0_1,.int .i64 a0_2,.slice (some ad126) l0_3.length c0_3] 25 (0,0)) (aB_ BK125.out)):gb125≠gb127));have n8_:=aK_ ((by rw [hg];exact Nat.ne_of_gt (blk_lt (g:=gb125) (o:=.cells #[.string a0_0,.slice A0_1 l0_1.length c0_1,.int .i64 a0_2,.slice (some ad126) l0_3.length c0_3] 25 (0,0)) (aB_ BK125.out)):gb127≠gb125));clear HO_3;clear HO_4;clear BK125;clear HB;have HO_3:=n0_;have HO_4:=n1_;have BK125:=n2_;have HB:=n3_;have BK127:=n4_;have GW127:=n5_;have GE127:=n6_;have NB125_127:=n7_;have NB127_125:=n8_;clear n0_ n1_ n2_ n3_ n4_ n5_ n6_ n7_ n8_;clear hb hbox hg;have hnb16:=NB127_125.out;have hnc16:=NB125_127.out;have hcz17_0:w15.cell? ⟨gb127,0,none⟩=some (.int .i64 0):=(zAB BK127.out 0).trans rfl;have hcz17_1:w15.cell? ⟨gb127,1,none⟩=some (.int .i64 0):=(zAB BK127.out 1).trans rfl;have hcz17_2:w15.cell? ⟨gb127,2,none⟩=some (.int .i64 0):=(zAB BK127.out 2).trans rfl;have hcz17_3:w15.cell? ⟨gb127,3,none⟩=some (.int .i64 0):=(zAB BK127.out 3).trans rfl;have hcz17_4:w15.cell? ⟨gb127,4,none⟩=some (.slice none 0 0):=(zAB BK127.out 4).trans rfl;have hcz17_5:w15.cell? ⟨gb127,5,none⟩=some (.int .i64 0):=(zAB BK127.out 5).trans rfl;have hfz17_0:=zAA BK127.out 0;have hfz17_1:=zAA BK127.out 1;have hfz17_2:=zAA BK127.out 2;have hfz17_3:=zAA BK127.out 3;have hfz17_4:=zAA BK127.out 4;have hfz17_5:=zAA BK127.out 5)|((with_reducible refine zAd (f:=39) rfl ?_);refine goesL_ (some 19) rfl rfl Tryd.func39 (by kernel_rfl) rfl #[.agg #[.int .i64 ((zAD l0_3 x12_1).f0),.int .i64 ((zAD l0_3 x12_1).f1),.int .i64 ((zAD l0_3 x12_1).f2),.int .i64 ((zAD l0_3 x12_1).f3),.slice A126_4 ((zAD l0_3 x12_1).f4).length c126_4,.int .i64 ((zAD l0_3 x12_1).f5)]] rfl aM_ ?_;(with_reducible refine (tree_takes.calls ((zAD l0_3 x12_1).f0) ((zAD l0_3 x12_1).f1) ((zAD l0_3 x12_1).f2) ((zAD l0_3 x12_1).f3) _ _ ((zAD l0_3 x12_1).f4) ((zAD l0_3 x12_1).f5) t128 _ ?side1 ?side2 ?side3 A7.out).mono ?_);(case side1=>(first|(with_reducible exact hG)|((repeat (with_reducible first|exact hG|apply GW.drewN|apply GW.drew|apply GW.alloc));done)|exact GW.below hG (aJ_ HB.out GE125.out GE127.out)));(case side2=>exact Kd.C_below HR126_4.out (aJ_ HB.out GE125.out GE127.out));(case side3=>exact HC126_4.out);rintro e w18 ⟨rfl,hb⟩;refine ⟨_,rfl,?_⟩;have n0_:=aK_ (Kd.R_below (by refine aR_ ?_;exact (Kd.R_mono (Kd.R_far (p:=⟨gb127,5,none⟩) (Kd.R_far (p:=⟨gb127,4,none⟩) (Kd.R_far (p:=⟨gb127,3,none⟩) (Kd.R_far (p:=⟨gb127,2,none⟩) (Kd.R_far (p:=⟨gb127,1,none⟩) (Kd.R_far (p:=⟨gb127,0,none⟩) (Kd.R_types HO_3.out BK127.out (by decide)) (fun _ hk=>hk.2) (.int .i64 ((zAD l0_3 x12_1).f0))) (fun _ hk=>hk.2) (.int .i64 ((zAD l0_3 x12_1).f1))) (fun _ hk=>hk.2) (.int .i64 ((zAD l0_3 x12_1).f2))) (fun _ hk=>hk.2) (.int .i64 ((zAD l0_3 x12_1).f3))) (fun _ hk=>hk.2) (.slice A126_4 ((zAD l0_3 x12_1).f4).length c126_4)) (fun _ hk=>hk.2) (.int .i64 ((zAD l0_3 x12_1).f5))) (fun _ h_=>h_.1))) hb);have n1_:=aK_ (Kd.R_below (by refine aR_ ?_;exact (Kd.R_mono (Kd.R_far (p:=⟨gb127,5,none⟩) (Kd.R_far (p:=⟨gb127,4,none⟩) (Kd.R_far (p:=⟨gb127,3,none⟩) (Kd.R_far (p:=⟨gb127,2,none⟩) (Kd.R_far (p:=⟨gb127,1,none⟩) (Kd.R_far (p:=⟨gb127,0,none⟩) (Kd.R_types HO_4.out BK127.out (by decide)) (fun _ hk=>hk.2) (.int .i64 ((zAD l0_3 x12_1).f0))) (fun _ hk=>hk.2) (.int .i64 ((zAD l0_3 x12_1).f1))) (fun _ hk=>hk.2) (.int .i64 ((zAD l0_3 x12_1).f2))) (fun _ hk=>hk.2) (.int .i64 ((zAD l0_3 x12_1).f3))) (fun _ hk=>hk.2) (.slice A126_4 ((zAD l0_3 x12_1).f4).length c126_4)) (fun _ hk=>hk.2) (.int .i64 ((zAD l0_3 x12_1).f5))) (fun _ h_=>h_.1))) hb);have n2_:=aK_ (zAM (g:=gb125) (o:=.cells #[.string a0_0,.slice A0_1 l0_1.length c0_1,.int .i64 a0_2,.slice (some ad126) l0_3.length c0_3] 25 (0,0)) (by refine aB_ ?_;refine zAV ?_ NB125_127.out _;refine aB_ ?_;refine zAV ?_ NB125_127.out _;refine aB_ ?_;refine zAV ?_ NB125_127.out _;refine aB_ ?_;refine zAV ?_ NB125_127.out _;refine aB_ ?_;refine zAV ?_ NB125_127.out _;refine aB_ ?_;refine zAV ?_ NB125_127.out _;refine aB_ ?_;exact BK125.out) hb);have n3_:=aK_ (zAM (g:=gb127) (o:=.cells #[.int .i64 ((zAD l0_3 x12_1).f0),.int .i64 ((zAD l0_3 x12_1).f1),.int .i64 ((zAD l0_3 x12_1).f2),.int .i64 ((zAD l0_3 x12_1).f3),.slice A126_4 ((zAD l0_3 x12_1).f4).length c126_4,.int .i64 ((zAD l0_3 x12_1).f5)] 33 (0,0)) (by refine aB_ ?_;refine zAa (cs:=#[.int .i64 ((zAD l0_3 x12_1).f0),.int .i64 ((zAD l0_3 x12_1).f1),.int .i64 ((zAD l0_3 x12_1).f2),.int .i64 ((zAD l0_3 x12_1).f3),.slice A126_4 ((zAD l0_3 x12_1).f4).length c126_4,.int .i64 0]) ?_ 5 _ rfl;refine aB_ ?_;refine zAa (cs:=#[.int .i64 ((zAD l0_3 x12_1).f0),.int .i64 ((zAD l0_3 x12_1).f1),.int .i64 ((zAD l0_3 x12_1).f2),.int .i64 ((zAD l0_3 x12_1).f3),.slice none 0 0,.int .i64 0]) ?_ 4 _ rfl;refine aB_ ?_;refine zAa (cs:=#[.int .i64 ((zAD l0_3 x12_1).f0),.int .i64 ((zAD l0_3 x12_1).f1),.int .i64 ((zAD l0_3 x12_1).f2),.int .i64 0,.slice none 0 0,.int .i64 0]) ?_ 3 _ rfl;refine aB_ ?_;refine zAa (cs:=#[.int .i64 ((zAD l0_3 x12_1).f0),.int .i64 ((zAD l0_3 x12_1).f1),.int .i64 0,.int .i64 0,.slice none 0 0,.int .i64 0]) ?_ 2 _ rfl;refine aB_ ?_;refine zAa (cs:=#[.int .i64 ((zAD l0_3 x12_1).f0),.int .i64 0,.int .i64 0,.int .i64 0,.slice none 0 0,.int .i64 0]) ?_ 1 _ rfl;refine aB_ ?_;refine zAa (cs:=#[.int .i64 0,.int .i64 0,.int .i64 0,.int .i64 0,.slice none 0 0,.int .i64 0]) ?_ 0 _ rfl;refine aB_ ?_;exact BK127.out) hb);have n4_:=aK_ (zAG (aJ_ HB.out GE125.out GE127.out) hb);clear HO_3;clear HO_4;clear BK125;clear BK127;clear HB;have HO_3:=n0_;have HO_4:=n1_;have BK125:=n2_;have BK127:=n3_;have HB:=n4_;clear n0_ n1_ n2_ n3_ n4_;(try clear hb);(try clear hb2);(try clear hk);(try clear hi);obtain ⟨Ao19,co19,eo19⟩:=Kd.R_slice HO_4.out;subst eo19;have p129:0≤((ji9):Int):=aD_;have q129:(ji9)<(x4_1.length:Int):=aD_;obtain ⟨ad129,e129,hx129_0⟩:=Kd.at_int (Kd.R_reads' HO_4.out).2.2 (ji9) p129 q129;cases e129;replace p129:=eq_true p129;replace q129:=eq_true q129;have q20:((ji9):Int)≤((x4_1.length:Int):Int):=aD_;obtain ⟨i020,hi020,_,hsz20,_⟩:=info_parts info3;have hcut20:=cut_to (P:=Tryd.prog) 36 3 .i64 Tryd.underlying36 hi020 (some ad129) x4_1.length co19 (ji9) aD_ q20 (Kd.R_reads' HO_4.out).2.1;have hr20:=Kd.R_take (m:=((ji9):Int).toNat) HO_4.out (by omega);have hy20:y130.length=((ji9):Int).toNat:=(by rw [Ny130.out,List.length_take];omega);rw [← Ny130.out] at hr20;rw [← hy20] at hr20 hcut20;clear hy20 hi020 hsz20 HO_4;have HO132:=aK_ hr20;clear hr20;replace q20:=eq_true q20)|((with_reducible refine gate_builtin (b:=.append) (xs:=#[.tmp 35,.tmp 37]) rfl ?_);at_builtin;refine Kd.R_append (Kd.int .i64) (w0:=w) w.heap.size rfl (.tmp 35) (.tmp 37) 36 3 (.int .i64 0) 8 rfl Tryd.underlying36 info3 rfl (by decide) (by omega) (.slice (some ad129) y130.length co19) y130 (rd x4_1 (ji9)) [.int .i64 (rd x4_1 (ji9))] (fun k_=>some k_≠(u3:Value).ownBlock) (fun _=>False) rfl rfl ?aP (fun _ hk=>hk.elim) ?aF ?aO ?aB ?aS ?aL ?_;(case aP=>exact rfl);(case aB=>exact (aJ_ HB.out GE125.out GE127.out));(case aF=>exact (fun k_ hk=>Kd.fresh' (Kd.R_lt (aR_ HO_3.out)) k_ hk));(case aO=>exact (aR_ HO132.out));(case aS=>exact (zAE (aJ_ HB.out GE125.out GE127.out)));(case aL=>have:=LMc13.out;omega);intro v134 w21 ho hb hg hat;rw [← Ny133.out] at ho;have n0_:=aK_ (Kd.R_after (ok:=(fun _=>True)) (by refine aR_ ?_;exact Kd.R_mono HO_3.out (fun _ hk=>⟨trivial,hk⟩)) hg hat);have n1_:=aK_ (blk_grown (g:=gb125) (o:=.cells #[.string a0_0,.slice A0_1 l0_1.length c0_1,.int .i64 a0_2,.slice (some ad126) l0_3.length c0_3] 25 (0,0)) (aB_ BK125.out) hg (Kd.R_ne HO132.out BK125.out (by decide)));have n2_:=aK_ (blk_grown (g:=gb127) (o:=.cells #[.int .i64 ((zAD l0_3 x12_1).f0),.int .i64 ((zAD l0_3 x12_1).f1),.int .i64 ((zAD l0_3 x12_1).f2),.int .i64 ((zAD l0_3 x12_1).f3),.slice A126_4 ((zAD l0_3 x12_1).f4).length c126_4,.int .i64 ((zAD l0_3 x12_1).f5)] 33 (0,0)) (aB_ BK127.out) hg (Kd.R_ne HO132.out BK127.out (by decide)));have n3_:=aK_ (hb);have n4_:=aK_ (ho);clear HO_3;clear BK125;clear BK127;clear HB;clear HO132;have HO_3:=n0_;have BK125:=n1_;have BK127:=n2_;have HB:=n3_;have HO135:=n4_;clear n0_ n1_ n2_ n3_ n4_;clear ho hb hg hat)|((with_reducible refine gate_builtin (b:=.append) (xs:=#[.tmp 39,.tmp 41]) rfl ?_);at_builtin;refine Kd.R_append (Kd.int .i64) (w0:=w) w.heap.size rfl (.tmp 39) (.tmp 41) 36 3 (.int .i64 0) 8 rfl Tryd.underlying36 info3 rfl (by decide) (by omega) u3 x3_1 (rd x4_1 (ji9)) [.int .i64 (rd x4_1 (ji9))] (fun k_=>some k_≠(v134:Value).ownBlock) (fun _=>False) rfl rfl ?aP (fun _ hk=>hk.elim) ?aF ?aO ?aB ?aS ?aL ?_;(case aP=>exact rfl);(case aB=>exact (aJ_ HB.out GE125.out GE127.out));(case aF=>exact (fun k_ hk=>Kd.fresh' (Kd.R_lt (aR_ HO135.out)) k_ hk));(case aO=>exact (by refine aR_ ?_;exact Kd.R_mono HO_3.out (fun _ hk=>hk.2)));(case aS=>exact (zAE (aJ_ HB.out GE125.out GE127.out)));(case aL=>have:=LMc14.out;omega);intro v137 w22 ho hb hg hat;rw [← Ny136.out] at ho;have n0_:=aK_ (blk_grown (g:=gb125) (o:=.cells #[.string a0_0,.slice A0_1 l0_1.length c0_1,.int .i64 a0_2,.slice (some ad126) l0_3.length c0_3] 25 (0,0)) (aB_ BK125.out) hg (Kd.R_ne HO_3.out BK125.out (by decide)));have n1_:=aK_ (blk_grown (g:=gb127) (o:=.cells #[.int .i64 ((zAD l0_3 x12_1).f0),.int .i64 ((zAD l0_3 x12_1).f1),.int .i64 ((zAD l0_3 x12_1).f2),.int .i64 ((zAD l0_3 x12_1).f3),.slice A126_4 ((zAD l0_3 x12_1).f4).length c126_4,.int .i64 ((zAD l0_3 x12_1).f5)] 33 (0,0)) (aB_ BK127.out) hg (Kd.R_ne HO_3.out BK127.out (by decide)));have n2_:=aK_ (Kd.R_after (ok:=(fun _=>True)) (by refine aR_ ?_;exact Kd.R_mono HO135.out (fun _ hk=>⟨trivial,hk⟩)) hg hat);have n3_:=aK_ (hb);have n4_:=aK_ (ho);clear BK125;clear BK127;clear HO135;clear HB;clear HO_3;have BK125:=n0_;have BK127:=n1_;have HO135:=n2_;have HB:=n3_;have HO138:=n4_;clear n0_ n1_ n2_ n3_ n4_;clear ho hb hg hat))
 go_roundg k1
 case measure=>have:=HK1.out;omega
 case rel=>exact ⟨(y136),(y133),(wrap64 (x12_1+1)),aS2_,H',⟨by have:=HK1.out;omega⟩,⟨aR_ HO138.out⟩,⟨by refine aR_ ?_;exact Kd.R_mono HO135.out (fun _ hk=>hk.2)⟩,⟨aB_ BK125.out⟩,⟨aJ_ HB.out GE125.out GE127.out⟩⟩
end Go.Proofs.YthbnigjckjkmnaaDoor.S
