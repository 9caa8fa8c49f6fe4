/- What the proof needs, part 8 of 21. TreeKeeps: for every raw plan and number Part leaves its arguments as they were, and what it answers is new memory. -/
import Derived.Shelf.Vars
import Derived.Test.YthbnigjckjkmnaaDoorBTreeKeeps1
set_option linter.unusedVariables false
set_option linter.unusedSimpArgs false
namespace Go.Proofs.YthbnigjckjkmnaaDoor.S
open Go.RowKit Go.Proofs.YthbnigjckjkmnaaDoorW.PrintWords
def tkL : List Int := [0, 0, 0, 0, 0, 1, 2, 2, 2, -1, -1, 1, 1, 1, 1, 1, 3]
def moL : List Int := [0, 1000000000000, 1000000000000, -1, -1, 0, 0, 0, 0, 0, 0, 1000000000000, 1000000000000, 0, 0, 10000, 1000000000000]
def tiL : List Bool := [false, false, false, false, false, false, false, false, false, false, false, false, false, true, true, false, false]
def opL : List Bool := [false, false, false, false, false, false, false, false, false, false, false, false, false, false, false, false, true]
def tk (i : Int) : Int := tkL.getD i.toNat 0
def mo (i : Int) : Int := moL.getD i.toNat 0
def ti (i : Int) : Bool := tiL.getD i.toNat false
def op (i : Int) : Bool := opL.getD i.toNat false
structure GW (w : World) : Prop where
  maxLen : ∃ m, w.cell? ⟨1, 0, none⟩ = some (.int .i64 m)
  kinds : ∀ i : Nat, i < 17 → w.cell? ⟨0, i * 4, none⟩ = some (.int .i64 (tk i)) ∧ w.cell? ⟨0, i * 4 + 1, none⟩ = some (.int .i64 (mo i)) ∧ w.cell? ⟨0, i * 4 + 2, none⟩ = some (.bool (ti i)) ∧ w.cell? ⟨0, i * 4 + 3, none⟩ = some (.bool (op i))
theorem GW.drew {w : World} (h : GW w) : GW w.drew := ⟨h.maxLen, h.kinds⟩
theorem GW.drewN {w : World} {n : Nat} (h : GW w) : GW (w.drewN n) := ⟨h.maxLen, h.kinds⟩
theorem GW.below {w w' : World} (h : GW w) (hb : Below w.heap.size w w') : GW w' :=
  ⟨by obtain ⟨m, hm⟩ := h.maxLen; exact ⟨m, zAO hb hm⟩, fun i hi => by
    obtain ⟨h0, h1, h2, h3⟩ := h.kinds i hi
    exact ⟨zAO hb h0, zAO hb h1, zAO hb h2, zAO hb h3⟩⟩
theorem GW.alloc {w : World} {o : Obj} (h : GW w) : GW (w.alloc o) := h.below (zAF (Below.refl _ _) o)
end Go.Proofs.YthbnigjckjkmnaaDoor.S
