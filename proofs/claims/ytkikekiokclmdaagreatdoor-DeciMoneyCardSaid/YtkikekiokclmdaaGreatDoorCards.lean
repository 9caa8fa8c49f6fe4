/-
  DERIVED. GIVEN WITH THE SEED: THE CARDS: each row of YtkikekiokclmdaaGreatDoorRows.lean that lists a variable, with what it lists TIED to the program's text (the seventh form; the later family's looks); each row that meets fmt, with fmt's text TOLD by the authors' own Lean function (tested against real Go, not proved from fmt's source: count such statements apart). THE CARD IS WHAT COUNTS. Prove the row's statement (the work); the ties are given (YtkikekiokclmdaaGreatDoorTie.lean); close each card by the builder's one call (the guide's Derived/Test/ToyasCard.lean, 'card_holds'). Laid BY PROGRAM, IN A SANDBOX (cutbox-door.mjs). By AI agents, Wed Nov 11 2026. No macro, syntax, notation, axiom, sorry.
-/
import Derived.Test.YtkikekiokclmdaaGreatDoorRows
import GoSem.ClaimSeven
namespace Go.Proofs.YtkikekiokclmdaaGreatDoor
namespace Rows

/-- THE TIED CARD OF 'octroilaw03.DeciMoney'. -/
def deciMoneyCard : Claim7 := { stood := { row := deciMoneyRow, standIns := [], harness := (true, "8ac1f591aa78be1d682915eb43eccd2dca4b5bd74792ce58c22818e326e4e241"), looks := true }, kinds := [], alts := [], laidByText := true, laidKinds := [.data, .data, .data, .data, .sentinel, .sentinel, .pinned], laidTests := true, laidLooks := .later }
def DeciMoneyCardSaid : Prop := Claim7.holds Tryz.pinned (.plain (OpenSpec.ofChange deciMoneySpec)) deciMoneyCard

/-- THE SECOND FORM's CARD OF 'octroilaw03.DeciMoney'. -/
def deciMoneyUptoCard : Claim7 := { stood := { row := deciMoneyUptoRow, standIns := [], harness := (true, "8ac1f591aa78be1d682915eb43eccd2dca4b5bd74792ce58c22818e326e4e241"), looks := true }, kinds := [], alts := [], laidByText := true, laidKinds := [.data, .data, .data, .data, .sentinel, .sentinel, .pinned], laidTests := true, laidLooks := .later }
def DeciMoneyUptoCardSaid : Prop := Claim7.holds Tryz.pinned (.plain (OpenSpec.upto deciMoneySpec)) deciMoneyUptoCard
end Rows
end Go.Proofs.YtkikekiokclmdaaGreatDoor
