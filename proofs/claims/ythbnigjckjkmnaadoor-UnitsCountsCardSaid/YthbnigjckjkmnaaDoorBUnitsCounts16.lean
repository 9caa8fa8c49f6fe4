/- What the proof needs, part 16 of 18. Which counts add up: two counts of one dimension and one kind, with prices on it, have types, others none; a count and money never. For all numbers and truths that the card lets in. -/
import Derived.Deep.Slices
import Derived.SizedLaws
import Derived.Carry
import Derived.WideShapes
import Derived.Test.YthbnigjckjkmnaaDoorBUnitsCounts1
set_option linter.unusedVariables false
set_option linter.unusedSimpArgs false
namespace Go.Proofs.YthbnigjckjkmnaaDoor.OpenK
open Go.ChangeShapes Go.WideShapes Go.RowKit Go.Deep Go.Proofs.YthbnigjckjkmnaaDoorW.PrintWords
structure Opens {α : Type} (P : Program) (t : TypeId) (d : Kd α) (B : α → Prop) : Prop where
  out : ∀ {H : Type} {enc : TypeId × Value → H} {W : World} {fuel : Nat} {cs : List Value} {x : DataW H × List MemPlace}, DataW.trod enc P W 0 (fun _ => true) true fuel t cs = some x → (∀ n ∈ x.1.weights P t, n ≤ 140737488351232) →
    ∃ v : α, d.K W v cs ∧ B v ∧ ∀ p ∈ x.2, p.block < W.heap.size
theorem Opens.mono {α : Type} {P : Program} {t : TypeId} {d : Kd α} {B B' : α → Prop} (h : Opens P t d B) (hB : ∀ v, B v → B' v) : Opens P t d B' := ⟨fun h1 h2 => by
  obtain ⟨v, a, b, c⟩ := h.out h1 h2
  exact ⟨v, a, hB v b, c⟩⟩
end Go.Proofs.YthbnigjckjkmnaaDoor.OpenK
