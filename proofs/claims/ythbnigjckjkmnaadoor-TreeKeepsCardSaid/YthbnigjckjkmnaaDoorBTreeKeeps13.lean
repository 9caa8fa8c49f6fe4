/- What the proof needs, part 13 of 21. TreeKeeps: for every raw plan and number Part leaves its arguments as they were, and what it answers is new memory. -/
import Derived.Test.YthbnigjckjkmnaaDoorBTreeKeeps5
import Derived.Test.YthbnigjckjkmnaaDoorBTreeKeeps8
import Derived.Test.YthbnigjckjkmnaaDoorBTreeKeeps12
set_option linter.unusedVariables false
set_option linter.unusedSimpArgs false
namespace Go.Proofs.YthbnigjckjkmnaaDoor.S
open Go.RowKit Go.Proofs.YthbnigjckjkmnaaDoorW.PrintWords
def strings_Contains.f (a0 a1 : ByteArray) : Option Bool := if a0.size < 4294967281 then some (Lib.contains a0.data.toList a1.data.toList) else none
theorem strings_Contains.calls (a0 a1 : ByteArray) (r : Bool) (w : World) (hG : GW w) (h : strings_Contains.f a0 a1 = some r) :
    Calls Tryd.prog 87 #[.string a0, .string a1] w fun e w' => e = .returned (.bool r) ∧ Drawn0 w w' := by
  unfold strings_Contains.f at h
  split at h
  · rename_i hs
    obtain rfl := Option.some.inj h
    obtain ⟨m, hm⟩ := hG.maxLen
    exact (Tryd.strings_Contains a0 a1 m w hs hm).mono fun e w' ⟨he, hw⟩ => ⟨he, hw ▸ Drawn0.refl w⟩
  · cases h
end Go.Proofs.YthbnigjckjkmnaaDoor.S
