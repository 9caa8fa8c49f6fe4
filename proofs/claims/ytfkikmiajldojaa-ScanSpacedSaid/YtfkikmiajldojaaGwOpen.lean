/- The facts on package-level variables hold in every world that a row speaks of. -/
import Derived.Test.YtfkikmiajldojaaGw
import Derived.Test.YtfkikmiajldojaaProg
import Derived.KernelRfl
namespace Go.Proofs.Ytfkikmiajldojaa.S
open Go.RowKit Go.Proofs.YtfkikmiajldojaaW.PrintWords
theorem GW.of_shaped {W : World} (h : W.ShapedOpen Try.prog) : GW W :=
  ⟨cell_of_shapedOpen_int (zero := #[.int .i64 0]) (t := 3) h (of_decide_eq_true (by kernel_rfl)) (by kernel_rfl) rfl (by kernel_rfl) (by kernel_rfl) Try.underlying3⟩
end Go.Proofs.Ytfkikmiajldojaa.S
