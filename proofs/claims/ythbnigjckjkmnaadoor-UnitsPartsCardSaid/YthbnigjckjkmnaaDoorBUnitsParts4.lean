/- What the proof needs, part 4 of 20. Of a plan with types each part has the types that its nodes have in the whole, if its root is money; else it is refused at its root. For every plan and number that the card lets in. -/
import Derived.Laws.StructEq
import Derived.Test.YthbnigjckjkmnaaDoorBUnitsParts1
set_option linter.unusedVariables false
set_option linter.unusedSimpArgs false
namespace Go.Proofs.YthbnigjckjkmnaaDoorW.PrintWords
open Go.RowKit
section
variable {P : Program} {d : Nat} {xs ys : Array Value} {f : Field} {fs : List Field} {a b : Value} {r s : Bool} {w : World}
end
end Go.Proofs.YthbnigjckjkmnaaDoorW.PrintWords
