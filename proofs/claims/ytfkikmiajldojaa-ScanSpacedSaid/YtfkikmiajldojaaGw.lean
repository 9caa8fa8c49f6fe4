/- What is known of the package-level variables in every world of a call: the library's own MaxLen holds some number. -/
import Derived.Test.YtfkikmiajldojaaWWords
import Derived.Shelf.Vars
set_option linter.unusedVariables false
set_option linter.unusedSimpArgs false
namespace Go.Proofs.Ytfkikmiajldojaa.S
open Go.RowKit Go.Proofs.YtfkikmiajldojaaW.PrintWords

/-- What the walks need of the package-level variables. -/
structure GW (w : World) : Prop where
  maxLen : ∃ m, w.cell? ⟨0, 0, none⟩ = some (.int .i64 m)

theorem GW.drew {w : World} (h : GW w) : GW w.drew := ⟨h.maxLen⟩
theorem GW.drewN {w : World} {n : Nat} (h : GW w) : GW (w.drewN n) := ⟨h.maxLen⟩
theorem GW.drawn {w w' : World} (h : GW w) (hd : Drawn0 w w') : GW w' := by
  obtain ⟨n, rfl⟩ := hd
  exact h.drewN
theorem GW.below {w w' : World} (h : GW w) (hb : Below w.heap.size w w') : GW w' :=
  ⟨by obtain ⟨m, hm⟩ := h.maxLen; exact ⟨m, pw_cell_below hb hm⟩⟩
theorem GW.alloc {w : World} {o : Obj} (h : GW w) : GW (w.alloc o) := h.below (below_alloc (Below.refl _ _) o)
end Go.Proofs.Ytfkikmiajldojaa.S
