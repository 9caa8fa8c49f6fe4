/- What the proof needs, part 14 of 19. DeciOrder answers true for every two wides; the input reads as it did. -/
import Derived.Lib.Strings
import Derived.Lib.Walk
import Derived.Lib.IndexBytes
import Derived.Test.YtkikekiokclmdaaDoorBDeciOrder10
import Derived.Test.YtkikekiokclmdaaDoorBDeciOrder5
set_option linter.unusedVariables false
set_option linter.unusedSimpArgs false
namespace Go.Proofs.YtkikekiokclmdaaDoor.S
open Go.RowKit Go.Proofs.YtkikekiokclmdaaDoorW.PrintWords Go.Proofs.YtkikekiokclmdaaDoorW.PrintLast Go.Proofs.YtkikekiokclmdaaDoorW.PrintMore
def sb (s : ByteArray) (i : Nat) : Int := ((s.data.toList.getD i 0).toNat : Int)
theorem sb_at (s : ByteArray) (i : Nat) (h : i < s.size) : ((s[i]'h).toNat : Int) = sb s i := by
  unfold sb
  rw [List.getD_eq_getElem?_getD, Lib.data_getElem? s i h]
  rfl
end Go.Proofs.YtkikekiokclmdaaDoor.S
