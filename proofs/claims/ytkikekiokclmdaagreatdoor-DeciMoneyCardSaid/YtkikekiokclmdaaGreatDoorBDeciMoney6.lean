/- What the proof needs, part 6 of 18. DeciMoney answers true for every list of numbers and every list of strings; the input reads as it did. -/
import Derived.Test.YtkikekiokclmdaaGreatDoorProg
import Derived.Shelf.Vars
import Derived.Lib.SmallJoins
import Derived.Lib.LaidTab
import Derived.Shelf.Strconv.Itoa4
import Derived.Test.YtkikekiokclmdaaGreatDoorBDeciMoney1
set_option linter.unusedVariables false
set_option linter.unusedSimpArgs false
namespace Go.Proofs.YtkikekiokclmdaaGreatDoor.S
open Go.RowKit Go.Proofs.YtkikekiokclmdaaGreatDoorW.PrintWords
structure GW (w : World) : Prop where
  tab : Lib.TabIs Tryz.prog w "internal/strconv.uint64pow10" .u64 Lib.pow10Tab
  rng : ∃ tp p, w.var? Tryz.prog "strconv.ErrRange" = some #[.iface tp p]
theorem gTab : Tryz.prog.globalNamed "internal/strconv.uint64pow10" = some 0 := by kernel_rfl
theorem gRng : Tryz.prog.globalNamed "strconv.ErrRange" = some 3 := by kernel_rfl
theorem var_below {P : Program} {w w' : World} {n : String} {g : Nat} {cs : Array Value} (hg : P.globalNamed n = some g) (h : w.var? P n = some cs) (hb : Below w.heap.size w w') : w'.var? P n = some cs := by
  unfold World.var? at *
  rw [hg] at h ⊢
  simp only [Option.bind_some] at h ⊢
  have hlt : g < w.heap.size := by
    rcases Nat.lt_or_ge g w.heap.size with hl | hl
    · exact hl
    · rw [Array.getElem?_eq_none hl] at h; simp at h
  rw [hb.block g hlt]
  exact h
theorem GW.below {w w' : World} (h : GW w) (hb : Below w.heap.size w w') : GW w' :=
  ⟨var_below gTab h.tab hb, by obtain ⟨tp, p, hp⟩ := h.rng; exact ⟨tp, p, var_below gRng hp hb⟩⟩
theorem GW.drew {w : World} (h : GW w) : GW w.drew := ⟨h.tab, h.rng⟩
theorem GW.drewN {w : World} {n : Nat} (h : GW w) : GW (w.drewN n) := ⟨h.tab, h.rng⟩
theorem GW.alloc {w : World} {o : Obj} (h : GW w) : GW (w.alloc o) := h.below (zAZ (Below.refl _ _) o)
end Go.Proofs.YtkikekiokclmdaaGreatDoor.S
