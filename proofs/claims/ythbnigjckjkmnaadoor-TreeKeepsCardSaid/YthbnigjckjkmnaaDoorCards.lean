/-
  DERIVED. GIVEN WITH THE SEED: THE CARDS: each row of YthbnigjckjkmnaaDoorRows.lean that lists a variable, with what it lists TIED to the program's text (the seventh form; the later family's looks); each row that meets fmt, with fmt's text TOLD by the authors' own Lean function (tested against real Go, not proved from fmt's source: count such statements apart). THE CARD IS WHAT COUNTS. Prove the row's statement (the work); the ties are given (YthbnigjckjkmnaaDoorTie.lean); close each card by the builder's one call (the guide's Derived/Test/ToyasCard.lean, 'card_holds'). Laid BY PROGRAM, IN A SANDBOX (cutbox-door.mjs). By AI agents, Wed Nov 11 2026. No macro, syntax, notation, axiom, sorry.
-/
import Derived.Test.YthbnigjckjkmnaaDoorRows
import GoSem.ClaimSeven
namespace Go.Proofs.YthbnigjckjkmnaaDoor
namespace Rows

/-- THE TIED CARD OF 'octroilaw05.TreeChecks'. -/
def treeChecksCard : Claim7 := { stood := { row := treeChecksRow, standIns := [], harness := (true, "04c4b40bbce0d84025cb36b361aaef8d3f326e7cf4a843d8aae570efa6aa01d0"), looks := false }, kinds := [], alts := [], laidByText := true, laidKinds := [.data], laidTests := true, laidLooks := .later }
def TreeChecksCardSaid : Prop := Claim7.holds Tryd.pinned (.plain (OpenSpec.ofChange treeChecksSpec)) treeChecksCard

/-- THE TIED CARD OF 'octroilaw05.TreeSames'. -/
def treeSamesCard : Claim7 := { stood := { row := treeSamesRow, standIns := [], harness := (true, "04c4b40bbce0d84025cb36b361aaef8d3f326e7cf4a843d8aae570efa6aa01d0"), looks := false }, kinds := [], alts := [], laidByText := true, laidKinds := [.data], laidTests := true, laidLooks := .later }
def TreeSamesCardSaid : Prop := Claim7.holds Tryd.pinned (.plain (OpenSpec.ofChange treeSamesSpec)) treeSamesCard

/-- THE TIED CARD OF 'octroilaw05.TreeGrows'. -/
def treeGrowsCard : Claim7 := { stood := { row := treeGrowsRow, standIns := [], harness := (true, "04c4b40bbce0d84025cb36b361aaef8d3f326e7cf4a843d8aae570efa6aa01d0"), looks := false }, kinds := [], alts := [], laidByText := true, laidKinds := [.data], laidTests := true, laidLooks := .later }
def TreeGrowsCardSaid : Prop := Claim7.holds Tryd.pinned (.plain (OpenSpec.ofChange treeGrowsSpec)) treeGrowsCard

/-- THE TIED CARD OF 'octroilaw05.TreeCuts'. -/
def treeCutsCard : Claim7 := { stood := { row := treeCutsRow, standIns := [], harness := (true, "04c4b40bbce0d84025cb36b361aaef8d3f326e7cf4a843d8aae570efa6aa01d0"), looks := false }, kinds := [], alts := [], laidByText := true, laidKinds := [.data], laidTests := true, laidLooks := .later }
def TreeCutsCardSaid : Prop := Claim7.holds Tryd.pinned (.plain (OpenSpec.ofChange treeCutsSpec)) treeCutsCard

/-- THE TIED CARD OF 'octroilaw05.TreeParts'. -/
def treePartsCard : Claim7 := { stood := { row := treePartsRow, standIns := [], harness := (true, "04c4b40bbce0d84025cb36b361aaef8d3f326e7cf4a843d8aae570efa6aa01d0"), looks := false }, kinds := [], alts := [], laidByText := true, laidKinds := [.data], laidTests := true, laidLooks := .later }
def TreePartsCardSaid : Prop := Claim7.holds Tryd.pinned (.plain (OpenSpec.ofChange treePartsSpec)) treePartsCard

/-- THE TIED CARD OF 'octroilaw05.TreeKeeps'. -/
def treeKeepsCard : Claim7 := { stood := { row := treeKeepsRow, standIns := [], harness := (true, "04c4b40bbce0d84025cb36b361aaef8d3f326e7cf4a843d8aae570efa6aa01d0"), looks := false }, kinds := [], alts := [], laidByText := true, laidKinds := [.data], laidTests := true, laidLooks := .later }
def TreeKeepsCardSaid : Prop := Claim7.holds Tryd.pinned (.plain (OpenSpec.ofChange treeKeepsSpec)) treeKeepsCard

/-- THE TIED CARD OF 'octroilaw05.TreeFacts'. -/
def treeFactsCard : Claim7 := { stood := { row := treeFactsRow, standIns := [], harness := (true, "04c4b40bbce0d84025cb36b361aaef8d3f326e7cf4a843d8aae570efa6aa01d0"), looks := false }, kinds := [], alts := [], laidByText := true, laidKinds := [.data], laidTests := true, laidLooks := .later }
def TreeFactsCardSaid : Prop := Claim7.holds Tryd.pinned (.plain (OpenSpec.ofChange treeFactsSpec)) treeFactsCard

/-- THE TIED CARD OF 'octroilaw05.TreeScales'. -/
def treeScalesCard : Claim7 := { stood := { row := treeScalesRow, standIns := [], harness := (true, "04c4b40bbce0d84025cb36b361aaef8d3f326e7cf4a843d8aae570efa6aa01d0"), looks := false }, kinds := [], alts := [], laidByText := true, laidKinds := [.data], laidTests := true, laidLooks := .later }
def TreeScalesCardSaid : Prop := Claim7.holds Tryd.pinned (.plain (OpenSpec.ofChange treeScalesSpec)) treeScalesCard

/-- THE TIED CARD OF 'octroilaw08.UnitsTypes'. -/
def unitsTypesCard : Claim7 := { stood := { row := unitsTypesRow, standIns := [], harness := (true, "04c4b40bbce0d84025cb36b361aaef8d3f326e7cf4a843d8aae570efa6aa01d0"), looks := false }, kinds := [], alts := [], laidByText := true, laidKinds := [.data], laidTests := true, laidLooks := .later }
def UnitsTypesCardSaid : Prop := Claim7.holds Tryd.pinned (.plain (OpenSpec.ofChange unitsTypesSpec)) unitsTypesCard

/-- THE TIED CARD OF 'octroilaw08.UnitsGrow'. -/
def unitsGrowCard : Claim7 := { stood := { row := unitsGrowRow, standIns := [], harness := (true, "04c4b40bbce0d84025cb36b361aaef8d3f326e7cf4a843d8aae570efa6aa01d0"), looks := false }, kinds := [], alts := [], laidByText := true, laidKinds := [.data], laidTests := true, laidLooks := .later }
def UnitsGrowCardSaid : Prop := Claim7.holds Tryd.pinned (.plain (OpenSpec.ofChange unitsGrowSpec)) unitsGrowCard

/-- THE TIED CARD OF 'octroilaw08.UnitsCounts'. -/
def unitsCountsCard : Claim7 := { stood := { row := unitsCountsRow, standIns := [], harness := (true, "04c4b40bbce0d84025cb36b361aaef8d3f326e7cf4a843d8aae570efa6aa01d0"), looks := false }, kinds := [], alts := [], laidByText := true, laidKinds := [.data], laidTests := true, laidLooks := .later }
def UnitsCountsCardSaid : Prop := Claim7.holds Tryd.pinned (.plain (OpenSpec.ofChange unitsCountsSpec)) unitsCountsCard

/-- THE TIED CARD OF 'octroilaw08.UnitsParts'. -/
def unitsPartsCard : Claim7 := { stood := { row := unitsPartsRow, standIns := [], harness := (true, "04c4b40bbce0d84025cb36b361aaef8d3f326e7cf4a843d8aae570efa6aa01d0"), looks := false }, kinds := [], alts := [], laidByText := true, laidKinds := [.data], laidTests := true, laidLooks := .later }
def UnitsPartsCardSaid : Prop := Claim7.holds Tryd.pinned (.plain (OpenSpec.ofChange unitsPartsSpec)) unitsPartsCard

/-- THE SECOND FORM's CARD OF 'octroilaw05.TreeChecks'. -/
def treeChecksUptoCard : Claim7 := { stood := { row := treeChecksUptoRow, standIns := [], harness := (true, "04c4b40bbce0d84025cb36b361aaef8d3f326e7cf4a843d8aae570efa6aa01d0"), looks := false }, kinds := [], alts := [], laidByText := true, laidKinds := [.data], laidTests := true, laidLooks := .later }
def TreeChecksUptoCardSaid : Prop := Claim7.holds Tryd.pinned (.plain (OpenSpec.upto treeChecksSpec)) treeChecksUptoCard

/-- THE SECOND FORM's CARD OF 'octroilaw05.TreeSames'. -/
def treeSamesUptoCard : Claim7 := { stood := { row := treeSamesUptoRow, standIns := [], harness := (true, "04c4b40bbce0d84025cb36b361aaef8d3f326e7cf4a843d8aae570efa6aa01d0"), looks := false }, kinds := [], alts := [], laidByText := true, laidKinds := [.data], laidTests := true, laidLooks := .later }
def TreeSamesUptoCardSaid : Prop := Claim7.holds Tryd.pinned (.plain (OpenSpec.upto treeSamesSpec)) treeSamesUptoCard

/-- THE SECOND FORM's CARD OF 'octroilaw05.TreeGrows'. -/
def treeGrowsUptoCard : Claim7 := { stood := { row := treeGrowsUptoRow, standIns := [], harness := (true, "04c4b40bbce0d84025cb36b361aaef8d3f326e7cf4a843d8aae570efa6aa01d0"), looks := false }, kinds := [], alts := [], laidByText := true, laidKinds := [.data], laidTests := true, laidLooks := .later }
def TreeGrowsUptoCardSaid : Prop := Claim7.holds Tryd.pinned (.plain (OpenSpec.upto treeGrowsSpec)) treeGrowsUptoCard

/-- THE SECOND FORM's CARD OF 'octroilaw05.TreeCuts'. -/
def treeCutsUptoCard : Claim7 := { stood := { row := treeCutsUptoRow, standIns := [], harness := (true, "04c4b40bbce0d84025cb36b361aaef8d3f326e7cf4a843d8aae570efa6aa01d0"), looks := false }, kinds := [], alts := [], laidByText := true, laidKinds := [.data], laidTests := true, laidLooks := .later }
def TreeCutsUptoCardSaid : Prop := Claim7.holds Tryd.pinned (.plain (OpenSpec.upto treeCutsSpec)) treeCutsUptoCard

/-- THE SECOND FORM's CARD OF 'octroilaw05.TreeParts'. -/
def treePartsUptoCard : Claim7 := { stood := { row := treePartsUptoRow, standIns := [], harness := (true, "04c4b40bbce0d84025cb36b361aaef8d3f326e7cf4a843d8aae570efa6aa01d0"), looks := false }, kinds := [], alts := [], laidByText := true, laidKinds := [.data], laidTests := true, laidLooks := .later }
def TreePartsUptoCardSaid : Prop := Claim7.holds Tryd.pinned (.plain (OpenSpec.upto treePartsSpec)) treePartsUptoCard

/-- THE SECOND FORM's CARD OF 'octroilaw05.TreeKeeps'. -/
def treeKeepsUptoCard : Claim7 := { stood := { row := treeKeepsUptoRow, standIns := [], harness := (true, "04c4b40bbce0d84025cb36b361aaef8d3f326e7cf4a843d8aae570efa6aa01d0"), looks := false }, kinds := [], alts := [], laidByText := true, laidKinds := [.data], laidTests := true, laidLooks := .later }
def TreeKeepsUptoCardSaid : Prop := Claim7.holds Tryd.pinned (.plain (OpenSpec.upto treeKeepsSpec)) treeKeepsUptoCard

/-- THE SECOND FORM's CARD OF 'octroilaw05.TreeFacts'. -/
def treeFactsUptoCard : Claim7 := { stood := { row := treeFactsUptoRow, standIns := [], harness := (true, "04c4b40bbce0d84025cb36b361aaef8d3f326e7cf4a843d8aae570efa6aa01d0"), looks := false }, kinds := [], alts := [], laidByText := true, laidKinds := [.data], laidTests := true, laidLooks := .later }
def TreeFactsUptoCardSaid : Prop := Claim7.holds Tryd.pinned (.plain (OpenSpec.upto treeFactsSpec)) treeFactsUptoCard

/-- THE SECOND FORM's CARD OF 'octroilaw05.TreeScales'. -/
def treeScalesUptoCard : Claim7 := { stood := { row := treeScalesUptoRow, standIns := [], harness := (true, "04c4b40bbce0d84025cb36b361aaef8d3f326e7cf4a843d8aae570efa6aa01d0"), looks := false }, kinds := [], alts := [], laidByText := true, laidKinds := [.data], laidTests := true, laidLooks := .later }
def TreeScalesUptoCardSaid : Prop := Claim7.holds Tryd.pinned (.plain (OpenSpec.upto treeScalesSpec)) treeScalesUptoCard

/-- THE SECOND FORM's CARD OF 'octroilaw08.UnitsTypes'. -/
def unitsTypesUptoCard : Claim7 := { stood := { row := unitsTypesUptoRow, standIns := [], harness := (true, "04c4b40bbce0d84025cb36b361aaef8d3f326e7cf4a843d8aae570efa6aa01d0"), looks := false }, kinds := [], alts := [], laidByText := true, laidKinds := [.data], laidTests := true, laidLooks := .later }
def UnitsTypesUptoCardSaid : Prop := Claim7.holds Tryd.pinned (.plain (OpenSpec.upto unitsTypesSpec)) unitsTypesUptoCard

/-- THE SECOND FORM's CARD OF 'octroilaw08.UnitsGrow'. -/
def unitsGrowUptoCard : Claim7 := { stood := { row := unitsGrowUptoRow, standIns := [], harness := (true, "04c4b40bbce0d84025cb36b361aaef8d3f326e7cf4a843d8aae570efa6aa01d0"), looks := false }, kinds := [], alts := [], laidByText := true, laidKinds := [.data], laidTests := true, laidLooks := .later }
def UnitsGrowUptoCardSaid : Prop := Claim7.holds Tryd.pinned (.plain (OpenSpec.upto unitsGrowSpec)) unitsGrowUptoCard

/-- THE SECOND FORM's CARD OF 'octroilaw08.UnitsCounts'. -/
def unitsCountsUptoCard : Claim7 := { stood := { row := unitsCountsUptoRow, standIns := [], harness := (true, "04c4b40bbce0d84025cb36b361aaef8d3f326e7cf4a843d8aae570efa6aa01d0"), looks := false }, kinds := [], alts := [], laidByText := true, laidKinds := [.data], laidTests := true, laidLooks := .later }
def UnitsCountsUptoCardSaid : Prop := Claim7.holds Tryd.pinned (.plain (OpenSpec.upto unitsCountsSpec)) unitsCountsUptoCard

/-- THE SECOND FORM's CARD OF 'octroilaw08.UnitsParts'. -/
def unitsPartsUptoCard : Claim7 := { stood := { row := unitsPartsUptoRow, standIns := [], harness := (true, "04c4b40bbce0d84025cb36b361aaef8d3f326e7cf4a843d8aae570efa6aa01d0"), looks := false }, kinds := [], alts := [], laidByText := true, laidKinds := [.data], laidTests := true, laidLooks := .later }
def UnitsPartsUptoCardSaid : Prop := Claim7.holds Tryd.pinned (.plain (OpenSpec.upto unitsPartsSpec)) unitsPartsUptoCard
end Rows
end Go.Proofs.YthbnigjckjkmnaaDoor
