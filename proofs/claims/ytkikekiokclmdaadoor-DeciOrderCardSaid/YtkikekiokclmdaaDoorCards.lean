/-
  DERIVED. GIVEN WITH THE SEED: THE CARDS: each row of YtkikekiokclmdaaDoorRows.lean that lists a variable, with what it lists TIED to the program's text (the seventh form; the later family's looks); each row that meets fmt, with fmt's text TOLD by the authors' own Lean function (tested against real Go, not proved from fmt's source: count such statements apart). THE CARD IS WHAT COUNTS. Prove the row's statement (the work); the ties are given (YtkikekiokclmdaaDoorTie.lean); close each card by the builder's one call (the guide's Derived/Test/ToyasCard.lean, 'card_holds'). Laid BY PROGRAM, IN A SANDBOX (cutbox-door.mjs). By AI agents, Wed Nov 11 2026. No macro, syntax, notation, axiom, sorry.
-/
import Derived.Test.YtkikekiokclmdaaDoorRows
import GoSem.ClaimSeven
namespace Go.Proofs.YtkikekiokclmdaaDoor
namespace Rows

/-- THE TIED CARD OF 'octroilaw03.DeciTexts'. -/
def deciTextsCard : Claim7 := { stood := { row := deciTextsRow, standIns := [], harness := (true, "e3eff15bef2431b64b7fef41fd57965babf9e6fdd2c34a1daf7580799230bf26"), looks := true }, kinds := [], alts := [], laidByText := true, laidKinds := [.data, .data, .data, .data, .sentinel, .sentinel, .pinned], laidTests := true, laidLooks := .later }
def DeciTextsCardSaid : Prop := Claim7.holds Tryd.pinned (.plain (OpenSpec.ofChange deciTextsSpec)) deciTextsCard

/-- THE TIED CARD OF 'octroilaw03.DeciParses'. -/
def deciParsesCard : Claim7 := { stood := { row := deciParsesRow, standIns := [], harness := (true, "e3eff15bef2431b64b7fef41fd57965babf9e6fdd2c34a1daf7580799230bf26"), looks := true }, kinds := [], alts := [], laidByText := true, laidKinds := [.data, .data, .data, .data, .sentinel, .sentinel, .pinned], laidTests := true, laidLooks := .later }
def DeciParsesCardSaid : Prop := Claim7.holds Tryd.pinned (.plain (OpenSpec.ofChange deciParsesSpec)) deciParsesCard

/-- THE TIED CARD OF 'octroilaw03.DeciBack'. -/
def deciBackCard : Claim7 := { stood := { row := deciBackRow, standIns := [], harness := (true, "e3eff15bef2431b64b7fef41fd57965babf9e6fdd2c34a1daf7580799230bf26"), looks := true }, kinds := [], alts := [], laidByText := true, laidKinds := [.data, .data, .data, .data, .sentinel, .sentinel, .pinned], laidTests := true, laidLooks := .later }
def DeciBackCardSaid : Prop := Claim7.holds Tryd.pinned (.plain (OpenSpec.ofChange deciBackSpec)) deciBackCard

/-- THE TIED CARD OF 'octroilaw03.DeciOrder'. -/
def deciOrderCard : Claim7 := { stood := { row := deciOrderRow, standIns := [], harness := (true, "e3eff15bef2431b64b7fef41fd57965babf9e6fdd2c34a1daf7580799230bf26"), looks := true }, kinds := [], alts := [], laidByText := true, laidKinds := [.data, .data, .data, .data, .sentinel, .sentinel, .pinned], laidTests := true, laidLooks := .later }
def DeciOrderCardSaid : Prop := Claim7.holds Tryd.pinned (.plain (OpenSpec.ofChange deciOrderSpec)) deciOrderCard

/-- THE SECOND FORM's CARD OF 'octroilaw03.DeciTexts'. -/
def deciTextsUptoCard : Claim7 := { stood := { row := deciTextsUptoRow, standIns := [], harness := (true, "e3eff15bef2431b64b7fef41fd57965babf9e6fdd2c34a1daf7580799230bf26"), looks := true }, kinds := [], alts := [], laidByText := true, laidKinds := [.data, .data, .data, .data, .sentinel, .sentinel, .pinned], laidTests := true, laidLooks := .later }
def DeciTextsUptoCardSaid : Prop := Claim7.holds Tryd.pinned (.plain (OpenSpec.upto deciTextsSpec)) deciTextsUptoCard

/-- THE SECOND FORM's CARD OF 'octroilaw03.DeciParses'. -/
def deciParsesUptoCard : Claim7 := { stood := { row := deciParsesUptoRow, standIns := [], harness := (true, "e3eff15bef2431b64b7fef41fd57965babf9e6fdd2c34a1daf7580799230bf26"), looks := true }, kinds := [], alts := [], laidByText := true, laidKinds := [.data, .data, .data, .data, .sentinel, .sentinel, .pinned], laidTests := true, laidLooks := .later }
def DeciParsesUptoCardSaid : Prop := Claim7.holds Tryd.pinned (.plain (OpenSpec.upto deciParsesSpec)) deciParsesUptoCard

/-- THE SECOND FORM's CARD OF 'octroilaw03.DeciBack'. -/
def deciBackUptoCard : Claim7 := { stood := { row := deciBackUptoRow, standIns := [], harness := (true, "e3eff15bef2431b64b7fef41fd57965babf9e6fdd2c34a1daf7580799230bf26"), looks := true }, kinds := [], alts := [], laidByText := true, laidKinds := [.data, .data, .data, .data, .sentinel, .sentinel, .pinned], laidTests := true, laidLooks := .later }
def DeciBackUptoCardSaid : Prop := Claim7.holds Tryd.pinned (.plain (OpenSpec.upto deciBackSpec)) deciBackUptoCard

/-- THE SECOND FORM's CARD OF 'octroilaw03.DeciOrder'. -/
def deciOrderUptoCard : Claim7 := { stood := { row := deciOrderUptoRow, standIns := [], harness := (true, "e3eff15bef2431b64b7fef41fd57965babf9e6fdd2c34a1daf7580799230bf26"), looks := true }, kinds := [], alts := [], laidByText := true, laidKinds := [.data, .data, .data, .data, .sentinel, .sentinel, .pinned], laidTests := true, laidLooks := .later }
def DeciOrderUptoCardSaid : Prop := Claim7.holds Tryd.pinned (.plain (OpenSpec.upto deciOrderSpec)) deciOrderUptoCard
end Rows
end Go.Proofs.YtkikekiokclmdaaDoor
