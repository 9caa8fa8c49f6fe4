/-
  NARROWER THAN 'FOR EVERY INPUT', by the rows' own cells (each row's printed sentence says how): TreeChecks: laid · TreeSames: laid · TreeGrows: laid · TreeCuts: laid · TreeParts: laid · TreeKeeps: laid · TreeFacts: laid · TreeScales: laid · UnitsTypes: laid · UnitsGrow: laid · UnitsCounts: laid · UnitsParts: laid.
  DERIVED. THE GIVEN ROWS OF THIS SEAT. 12 by the template 'for every input the law returns true; each argument reads behind the call as it read before'; 0 by the template 'total and deterministic' (their statements: YthbnigjckjkmnaaDoorTotals.lean).
  GIVEN WITH THE SEED: the statements are not yours to turn. If you find one false, say at which input.
  Laid BY PROGRAM, IN A SANDBOX (cutbox-rows.mjs): the forced cells as the released guide's own fill.sh prints them over the translation 612c342f5e01cdb8… (all of the seat's roots in one cut). By AI agents, Wed Nov 11 2026. No macro, syntax, notation, axiom, sorry.
-/
import Derived.Test.YthbnigjckjkmnaaDoorChecked
import GoSem.Claim
import GoSem.ClaimJoined
import GoSem.ClaimMapViews
import Derived.JoinedTies
import Derived.KernelRfl
namespace Go.Proofs.YthbnigjckjkmnaaDoor
/- THE CELL 'sum', in the pinned program and in every row, IS THE sha256 OF THE DUMP (.gsa) THAT YthbnigjckjkmnaaDoorProg.lean LOADS. Nothing in Lean hashes anything: it is a label: what it is worth is what the hold of that sum in a sandbox is worth. -/
noncomputable def Tryd.pinned : Pinned := { name := "ythbnigjckjkmnaadoor", sum := "612c342f5e01cdb83bd4de348a4f8ffcee0b2c057f4175e6d3fb994895454a2b", checked := Tryd.checked }
namespace Rows
def none {H : Type} : Left H := { results := [], args := [] }

/- WHAT THE LISTED PACKAGE-LEVEL VARIABLES READ AS WHEN THE CALL BEGINS. Each datum BY PROGRAM (the guide's laid-datum.mjs) off the statement by which the dump's own 'gosem.cut.vars' lays the variable. In a bare row this is a premise. The card (YthbnigjckjkmnaaDoorCards.lean) ties it to the program's text. -/
def laid_octroi_tree_kinds {H : Type} : DataW H := .agg [.agg [.lit (.int .i64 0), .lit (.int .i64 0), .lit (.bool false), .lit (.bool false)], .agg [.lit (.int .i64 0), .lit (.int .i64 1000000000000), .lit (.bool false), .lit (.bool false)], .agg [.lit (.int .i64 0), .lit (.int .i64 1000000000000), .lit (.bool false), .lit (.bool false)], .agg [.lit (.int .i64 0), .lit (.int .i64 (-1)), .lit (.bool false), .lit (.bool false)], .agg [.lit (.int .i64 0), .lit (.int .i64 (-1)), .lit (.bool false), .lit (.bool false)], .agg [.lit (.int .i64 1), .lit (.int .i64 0), .lit (.bool false), .lit (.bool false)], .agg [.lit (.int .i64 2), .lit (.int .i64 0), .lit (.bool false), .lit (.bool false)], .agg [.lit (.int .i64 2), .lit (.int .i64 0), .lit (.bool false), .lit (.bool false)], .agg [.lit (.int .i64 2), .lit (.int .i64 0), .lit (.bool false), .lit (.bool false)], .agg [.lit (.int .i64 (-1)), .lit (.int .i64 0), .lit (.bool false), .lit (.bool false)], .agg [.lit (.int .i64 (-1)), .lit (.int .i64 0), .lit (.bool false), .lit (.bool false)], .agg [.lit (.int .i64 1), .lit (.int .i64 1000000000000), .lit (.bool false), .lit (.bool false)], .agg [.lit (.int .i64 1), .lit (.int .i64 1000000000000), .lit (.bool false), .lit (.bool false)], .agg [.lit (.int .i64 1), .lit (.int .i64 0), .lit (.bool true), .lit (.bool false)], .agg [.lit (.int .i64 1), .lit (.int .i64 0), .lit (.bool true), .lit (.bool false)], .agg [.lit (.int .i64 1), .lit (.int .i64 10000), .lit (.bool false), .lit (.bool false)], .agg [.lit (.int .i64 3), .lit (.int .i64 1000000000000), .lit (.bool false), .lit (.bool true)]]

/-- 'octroilaw05.TreeChecks': WHATEVER THE INPUT: true; the input reads as it did. -/
def treeChecksSpec : ChangeSpec := { name := "treeChecks", fn := fun _ => fun
  | [d] => { results := [.lit (.bool true)], args := [d] }
  | _ => none }
def treeChecksRow : OpenClaim := { program := "ythbnigjckjkmnaadoor", sum := "612c342f5e01cdb83bd4de348a4f8ffcee0b2c057f4175e6d3fb994895454a2b", func := "octroi/octroilaw05.TreeChecks", spec := "treeChecks", inPlace := ["internal/bytealg.IndexByteString", "internal/bytealg.IndexString"], unfollowed := true, recurses := true, named := ["internal/bytealg.MaxLen", "octroi/tree.kinds"], apart := false, laid := [("octroi/tree.kinds", laid_octroi_tree_kinds)] }
def TreeChecksSaid : Prop := treeChecksRow.holds Tryd.pinned (OpenSpec.ofChange treeChecksSpec)

/-- ITS FALSE NEIGHBOUR: 'it returns false'. Refute it at one input. -/
def treeChecksWrong : ChangeSpec := { name := "treeChecks", fn := fun _ => fun
  | [d] => { results := [.lit (.bool false)], args := [d] }
  | _ => none }
def TreeChecksWrongFalsely : Prop := treeChecksRow.holds Tryd.pinned (OpenSpec.ofChange treeChecksWrong)

/-- 'octroilaw05.TreeSames': WHATEVER THE INPUT: true; the input reads as it did. -/
def treeSamesSpec : ChangeSpec := { name := "treeSames", fn := fun _ => fun
  | [d1, d2, d3] => { results := [.lit (.bool true)], args := [d1, d2, d3] }
  | _ => none }
def treeSamesRow : OpenClaim := { program := "ythbnigjckjkmnaadoor", sum := "612c342f5e01cdb83bd4de348a4f8ffcee0b2c057f4175e6d3fb994895454a2b", func := "octroi/octroilaw05.TreeSames", spec := "treeSames", inPlace := ["internal/bytealg.IndexByteString", "internal/bytealg.IndexString"], unfollowed := true, recurses := true, named := ["internal/bytealg.MaxLen", "octroi/tree.kinds"], apart := false, laid := [("octroi/tree.kinds", laid_octroi_tree_kinds)] }
def TreeSamesSaid : Prop := treeSamesRow.holds Tryd.pinned (OpenSpec.ofChange treeSamesSpec)

/-- ITS FALSE NEIGHBOUR: 'it returns false'. Refute it at one input. -/
def treeSamesWrong : ChangeSpec := { name := "treeSames", fn := fun _ => fun
  | [d1, d2, d3] => { results := [.lit (.bool false)], args := [d1, d2, d3] }
  | _ => none }
def TreeSamesWrongFalsely : Prop := treeSamesRow.holds Tryd.pinned (OpenSpec.ofChange treeSamesWrong)

/-- 'octroilaw05.TreeGrows': WHATEVER THE INPUT: true; the input reads as it did. -/
def treeGrowsSpec : ChangeSpec := { name := "treeGrows", fn := fun _ => fun
  | [d1, d2, d3] => { results := [.lit (.bool true)], args := [d1, d2, d3] }
  | _ => none }
def treeGrowsRow : OpenClaim := { program := "ythbnigjckjkmnaadoor", sum := "612c342f5e01cdb83bd4de348a4f8ffcee0b2c057f4175e6d3fb994895454a2b", func := "octroi/octroilaw05.TreeGrows", spec := "treeGrows", inPlace := ["internal/bytealg.IndexByteString", "internal/bytealg.IndexString"], unfollowed := true, recurses := true, named := ["internal/bytealg.MaxLen", "octroi/tree.kinds"], apart := false, laid := [("octroi/tree.kinds", laid_octroi_tree_kinds)] }
def TreeGrowsSaid : Prop := treeGrowsRow.holds Tryd.pinned (OpenSpec.ofChange treeGrowsSpec)

/-- ITS FALSE NEIGHBOUR: 'it returns false'. Refute it at one input. -/
def treeGrowsWrong : ChangeSpec := { name := "treeGrows", fn := fun _ => fun
  | [d1, d2, d3] => { results := [.lit (.bool false)], args := [d1, d2, d3] }
  | _ => none }
def TreeGrowsWrongFalsely : Prop := treeGrowsRow.holds Tryd.pinned (OpenSpec.ofChange treeGrowsWrong)

/-- 'octroilaw05.TreeCuts': WHATEVER THE INPUT: true; the input reads as it did. -/
def treeCutsSpec : ChangeSpec := { name := "treeCuts", fn := fun _ => fun
  | [d1, d2] => { results := [.lit (.bool true)], args := [d1, d2] }
  | _ => none }
def treeCutsRow : OpenClaim := { program := "ythbnigjckjkmnaadoor", sum := "612c342f5e01cdb83bd4de348a4f8ffcee0b2c057f4175e6d3fb994895454a2b", func := "octroi/octroilaw05.TreeCuts", spec := "treeCuts", inPlace := ["internal/bytealg.IndexByteString", "internal/bytealg.IndexString"], unfollowed := true, recurses := true, named := ["internal/bytealg.MaxLen", "octroi/tree.kinds"], apart := false, laid := [("octroi/tree.kinds", laid_octroi_tree_kinds)] }
def TreeCutsSaid : Prop := treeCutsRow.holds Tryd.pinned (OpenSpec.ofChange treeCutsSpec)

/-- ITS FALSE NEIGHBOUR: 'it returns false'. Refute it at one input. -/
def treeCutsWrong : ChangeSpec := { name := "treeCuts", fn := fun _ => fun
  | [d1, d2] => { results := [.lit (.bool false)], args := [d1, d2] }
  | _ => none }
def TreeCutsWrongFalsely : Prop := treeCutsRow.holds Tryd.pinned (OpenSpec.ofChange treeCutsWrong)

/-- 'octroilaw05.TreeParts': WHATEVER THE INPUT: true; the input reads as it did. -/
def treePartsSpec : ChangeSpec := { name := "treeParts", fn := fun _ => fun
  | [d1, d2] => { results := [.lit (.bool true)], args := [d1, d2] }
  | _ => none }
def treePartsRow : OpenClaim := { program := "ythbnigjckjkmnaadoor", sum := "612c342f5e01cdb83bd4de348a4f8ffcee0b2c057f4175e6d3fb994895454a2b", func := "octroi/octroilaw05.TreeParts", spec := "treeParts", inPlace := ["internal/bytealg.IndexByteString", "internal/bytealg.IndexString"], unfollowed := true, recurses := true, named := ["internal/bytealg.MaxLen", "octroi/tree.kinds"], apart := false, laid := [("octroi/tree.kinds", laid_octroi_tree_kinds)] }
def TreePartsSaid : Prop := treePartsRow.holds Tryd.pinned (OpenSpec.ofChange treePartsSpec)

/-- ITS FALSE NEIGHBOUR: 'it returns false'. Refute it at one input. -/
def treePartsWrong : ChangeSpec := { name := "treeParts", fn := fun _ => fun
  | [d1, d2] => { results := [.lit (.bool false)], args := [d1, d2] }
  | _ => none }
def TreePartsWrongFalsely : Prop := treePartsRow.holds Tryd.pinned (OpenSpec.ofChange treePartsWrong)

/-- 'octroilaw05.TreeKeeps': WHATEVER THE INPUT: true; the input reads as it did. -/
def treeKeepsSpec : ChangeSpec := { name := "treeKeeps", fn := fun _ => fun
  | [d1, d2] => { results := [.lit (.bool true)], args := [d1, d2] }
  | _ => none }
def treeKeepsRow : OpenClaim := { program := "ythbnigjckjkmnaadoor", sum := "612c342f5e01cdb83bd4de348a4f8ffcee0b2c057f4175e6d3fb994895454a2b", func := "octroi/octroilaw05.TreeKeeps", spec := "treeKeeps", inPlace := ["internal/bytealg.IndexByteString", "internal/bytealg.IndexString"], unfollowed := true, recurses := true, named := ["internal/bytealg.MaxLen", "octroi/tree.kinds"], apart := false, laid := [("octroi/tree.kinds", laid_octroi_tree_kinds)] }
def TreeKeepsSaid : Prop := treeKeepsRow.holds Tryd.pinned (OpenSpec.ofChange treeKeepsSpec)

/-- ITS FALSE NEIGHBOUR: 'it returns false'. Refute it at one input. -/
def treeKeepsWrong : ChangeSpec := { name := "treeKeeps", fn := fun _ => fun
  | [d1, d2] => { results := [.lit (.bool false)], args := [d1, d2] }
  | _ => none }
def TreeKeepsWrongFalsely : Prop := treeKeepsRow.holds Tryd.pinned (OpenSpec.ofChange treeKeepsWrong)

/-- 'octroilaw05.TreeFacts': WHATEVER THE INPUT: true; the input reads as it did. -/
def treeFactsSpec : ChangeSpec := { name := "treeFacts", fn := fun _ => fun
  | [d] => { results := [.lit (.bool true)], args := [d] }
  | _ => none }
def treeFactsRow : OpenClaim := { program := "ythbnigjckjkmnaadoor", sum := "612c342f5e01cdb83bd4de348a4f8ffcee0b2c057f4175e6d3fb994895454a2b", func := "octroi/octroilaw05.TreeFacts", spec := "treeFacts", inPlace := ["internal/bytealg.IndexByteString", "internal/bytealg.IndexString"], unfollowed := true, recurses := true, named := ["internal/bytealg.MaxLen", "octroi/tree.kinds"], apart := false, laid := [("octroi/tree.kinds", laid_octroi_tree_kinds)] }
def TreeFactsSaid : Prop := treeFactsRow.holds Tryd.pinned (OpenSpec.ofChange treeFactsSpec)

/-- ITS FALSE NEIGHBOUR: 'it returns false'. Refute it at one input. -/
def treeFactsWrong : ChangeSpec := { name := "treeFacts", fn := fun _ => fun
  | [d] => { results := [.lit (.bool false)], args := [d] }
  | _ => none }
def TreeFactsWrongFalsely : Prop := treeFactsRow.holds Tryd.pinned (OpenSpec.ofChange treeFactsWrong)

/-- 'octroilaw05.TreeScales': WHATEVER THE INPUT: true; the input reads as it did. -/
def treeScalesSpec : ChangeSpec := { name := "treeScales", fn := fun _ => fun
  | [d1, d2, d3] => { results := [.lit (.bool true)], args := [d1, d2, d3] }
  | _ => none }
def treeScalesRow : OpenClaim := { program := "ythbnigjckjkmnaadoor", sum := "612c342f5e01cdb83bd4de348a4f8ffcee0b2c057f4175e6d3fb994895454a2b", func := "octroi/octroilaw05.TreeScales", spec := "treeScales", inPlace := ["internal/bytealg.IndexByteString", "internal/bytealg.IndexString"], unfollowed := true, recurses := true, named := ["internal/bytealg.MaxLen", "octroi/tree.kinds"], apart := false, laid := [("octroi/tree.kinds", laid_octroi_tree_kinds)] }
def TreeScalesSaid : Prop := treeScalesRow.holds Tryd.pinned (OpenSpec.ofChange treeScalesSpec)

/-- ITS FALSE NEIGHBOUR: 'it returns false'. Refute it at one input. -/
def treeScalesWrong : ChangeSpec := { name := "treeScales", fn := fun _ => fun
  | [d1, d2, d3] => { results := [.lit (.bool false)], args := [d1, d2, d3] }
  | _ => none }
def TreeScalesWrongFalsely : Prop := treeScalesRow.holds Tryd.pinned (OpenSpec.ofChange treeScalesWrong)

/-- 'octroilaw08.UnitsTypes': WHATEVER THE INPUT: true; the input reads as it did. -/
def unitsTypesSpec : ChangeSpec := { name := "unitsTypes", fn := fun _ => fun
  | [d] => { results := [.lit (.bool true)], args := [d] }
  | _ => none }
def unitsTypesRow : OpenClaim := { program := "ythbnigjckjkmnaadoor", sum := "612c342f5e01cdb83bd4de348a4f8ffcee0b2c057f4175e6d3fb994895454a2b", func := "octroi/octroilaw08.UnitsTypes", spec := "unitsTypes", inPlace := ["internal/bytealg.IndexByteString", "internal/bytealg.IndexString"], unfollowed := true, recurses := true, named := ["internal/bytealg.MaxLen", "octroi/tree.kinds"], apart := false, laid := [("octroi/tree.kinds", laid_octroi_tree_kinds)] }
def UnitsTypesSaid : Prop := unitsTypesRow.holds Tryd.pinned (OpenSpec.ofChange unitsTypesSpec)

/-- ITS FALSE NEIGHBOUR: 'it returns false'. Refute it at one input. -/
def unitsTypesWrong : ChangeSpec := { name := "unitsTypes", fn := fun _ => fun
  | [d] => { results := [.lit (.bool false)], args := [d] }
  | _ => none }
def UnitsTypesWrongFalsely : Prop := unitsTypesRow.holds Tryd.pinned (OpenSpec.ofChange unitsTypesWrong)

/-- 'octroilaw08.UnitsGrow': WHATEVER THE INPUT: true; the input reads as it did. -/
def unitsGrowSpec : ChangeSpec := { name := "unitsGrow", fn := fun _ => fun
  | [d1, d2] => { results := [.lit (.bool true)], args := [d1, d2] }
  | _ => none }
def unitsGrowRow : OpenClaim := { program := "ythbnigjckjkmnaadoor", sum := "612c342f5e01cdb83bd4de348a4f8ffcee0b2c057f4175e6d3fb994895454a2b", func := "octroi/octroilaw08.UnitsGrow", spec := "unitsGrow", inPlace := ["internal/bytealg.IndexByteString", "internal/bytealg.IndexString"], unfollowed := true, recurses := true, named := ["internal/bytealg.MaxLen", "octroi/tree.kinds"], apart := false, laid := [("octroi/tree.kinds", laid_octroi_tree_kinds)] }
def UnitsGrowSaid : Prop := unitsGrowRow.holds Tryd.pinned (OpenSpec.ofChange unitsGrowSpec)

/-- ITS FALSE NEIGHBOUR: 'it returns false'. Refute it at one input. -/
def unitsGrowWrong : ChangeSpec := { name := "unitsGrow", fn := fun _ => fun
  | [d1, d2] => { results := [.lit (.bool false)], args := [d1, d2] }
  | _ => none }
def UnitsGrowWrongFalsely : Prop := unitsGrowRow.holds Tryd.pinned (OpenSpec.ofChange unitsGrowWrong)

/-- 'octroilaw08.UnitsCounts': WHATEVER THE INPUT: true; the input reads as it did. -/
def unitsCountsSpec : ChangeSpec := { name := "unitsCounts", fn := fun _ => fun
  | [d1, d2, d3, d4] => { results := [.lit (.bool true)], args := [d1, d2, d3, d4] }
  | _ => none }
def unitsCountsRow : OpenClaim := { program := "ythbnigjckjkmnaadoor", sum := "612c342f5e01cdb83bd4de348a4f8ffcee0b2c057f4175e6d3fb994895454a2b", func := "octroi/octroilaw08.UnitsCounts", spec := "unitsCounts", inPlace := ["internal/bytealg.IndexByteString", "internal/bytealg.IndexString"], unfollowed := true, recurses := true, named := ["internal/bytealg.MaxLen", "octroi/tree.kinds"], apart := false, laid := [("octroi/tree.kinds", laid_octroi_tree_kinds)] }
def UnitsCountsSaid : Prop := unitsCountsRow.holds Tryd.pinned (OpenSpec.ofChange unitsCountsSpec)

/-- ITS FALSE NEIGHBOUR: 'it returns false'. Refute it at one input. -/
def unitsCountsWrong : ChangeSpec := { name := "unitsCounts", fn := fun _ => fun
  | [d1, d2, d3, d4] => { results := [.lit (.bool false)], args := [d1, d2, d3, d4] }
  | _ => none }
def UnitsCountsWrongFalsely : Prop := unitsCountsRow.holds Tryd.pinned (OpenSpec.ofChange unitsCountsWrong)

/-- 'octroilaw08.UnitsParts': WHATEVER THE INPUT: true; the input reads as it did. -/
def unitsPartsSpec : ChangeSpec := { name := "unitsParts", fn := fun _ => fun
  | [d1, d2] => { results := [.lit (.bool true)], args := [d1, d2] }
  | _ => none }
def unitsPartsRow : OpenClaim := { program := "ythbnigjckjkmnaadoor", sum := "612c342f5e01cdb83bd4de348a4f8ffcee0b2c057f4175e6d3fb994895454a2b", func := "octroi/octroilaw08.UnitsParts", spec := "unitsParts", inPlace := ["internal/bytealg.IndexByteString", "internal/bytealg.IndexString"], unfollowed := true, recurses := true, named := ["internal/bytealg.MaxLen", "octroi/tree.kinds"], apart := false, laid := [("octroi/tree.kinds", laid_octroi_tree_kinds)] }
def UnitsPartsSaid : Prop := unitsPartsRow.holds Tryd.pinned (OpenSpec.ofChange unitsPartsSpec)

/-- ITS FALSE NEIGHBOUR: 'it returns false'. Refute it at one input. -/
def unitsPartsWrong : ChangeSpec := { name := "unitsParts", fn := fun _ => fun
  | [d1, d2] => { results := [.lit (.bool false)], args := [d1, d2] }
  | _ => none }
def UnitsPartsWrongFalsely : Prop := unitsPartsRow.holds Tryd.pinned (OpenSpec.ofChange unitsPartsWrong)

/- THE SECOND FORM. 'bulk': how many values and letters a reading holds, each counted each time it is reached (what is shared counts as often as it is met; a slice's spare places count too). A statement '..UptoSaid' is the law's where the arguments, and the package variables that the reading takes, are together of bulk at most 1048576: NARROWER than '..Said'. Prove '..Said' where nothing that the law and all that it calls make is longer than what came in: it says more and counts as full. Else prove '..UptoSaid'. A law counts once. -/
mutual
def uptoBulk {H : Type} : DataW H → Nat
  | .lit (.string bytes) => bytes.length + 1
  | .lit _ => 1
  | .nil => 1
  | .ptr d => uptoBulk d + 1
  | .slice elems spare => uptoBulkAll elems + uptoBulkAll spare + 1
  | .agg parts => uptoBulkAll parts + 1
  | .iface _ d => uptoBulk d + 1
  | .map entries => uptoBulkEntries entries + 1
  | .held _ => 1
def uptoBulkAll {H : Type} : List (DataW H) → Nat
  | [] => 0
  | d :: r => uptoBulk d + uptoBulkAll r
def uptoBulkEntries {H : Type} : List (Lit × DataW H) → Nat
  | [] => 0
  | x :: r => uptoBulkEntry x + uptoBulkEntries r
def uptoBulkEntry {H : Type} : Lit × DataW H → Nat
  | (.string bytes, d) => bytes.length + uptoBulk d + 1
  | (_, d) => uptoBulk d + 1
 end
def uptoSmall : (H : Type) → List (DataW H) → Bool := fun _ ds => decide (uptoBulkAll ds ≤ 1048576)
def OpenSpec.upto (s : _root_.Go.ChangeSpec) : _root_.Go.OpenSpec := { _root_.Go.OpenSpec.ofChange s with cond := some uptoSmall }

/-- 'octroilaw05.TreeChecks', WHERE WHAT IT READS IS OF BULK AT MOST 1048576: true; the input reads as it did. -/
def treeChecksUptoRow : OpenClaim := { program := "ythbnigjckjkmnaadoor", sum := "612c342f5e01cdb83bd4de348a4f8ffcee0b2c057f4175e6d3fb994895454a2b", func := "octroi/octroilaw05.TreeChecks", spec := "treeChecks", inPlace := ["internal/bytealg.IndexByteString", "internal/bytealg.IndexString"], unfollowed := true, recurses := true, named := ["internal/bytealg.MaxLen", "octroi/tree.kinds"], apart := false, laid := [("octroi/tree.kinds", laid_octroi_tree_kinds)], narrowed := true }
def TreeChecksUptoSaid : Prop := treeChecksUptoRow.holds Tryd.pinned (OpenSpec.upto treeChecksSpec)

/-- 'octroilaw05.TreeSames', WHERE WHAT IT READS IS OF BULK AT MOST 1048576: true; the input reads as it did. -/
def treeSamesUptoRow : OpenClaim := { program := "ythbnigjckjkmnaadoor", sum := "612c342f5e01cdb83bd4de348a4f8ffcee0b2c057f4175e6d3fb994895454a2b", func := "octroi/octroilaw05.TreeSames", spec := "treeSames", inPlace := ["internal/bytealg.IndexByteString", "internal/bytealg.IndexString"], unfollowed := true, recurses := true, named := ["internal/bytealg.MaxLen", "octroi/tree.kinds"], apart := false, laid := [("octroi/tree.kinds", laid_octroi_tree_kinds)], narrowed := true }
def TreeSamesUptoSaid : Prop := treeSamesUptoRow.holds Tryd.pinned (OpenSpec.upto treeSamesSpec)

/-- 'octroilaw05.TreeGrows', WHERE WHAT IT READS IS OF BULK AT MOST 1048576: true; the input reads as it did. -/
def treeGrowsUptoRow : OpenClaim := { program := "ythbnigjckjkmnaadoor", sum := "612c342f5e01cdb83bd4de348a4f8ffcee0b2c057f4175e6d3fb994895454a2b", func := "octroi/octroilaw05.TreeGrows", spec := "treeGrows", inPlace := ["internal/bytealg.IndexByteString", "internal/bytealg.IndexString"], unfollowed := true, recurses := true, named := ["internal/bytealg.MaxLen", "octroi/tree.kinds"], apart := false, laid := [("octroi/tree.kinds", laid_octroi_tree_kinds)], narrowed := true }
def TreeGrowsUptoSaid : Prop := treeGrowsUptoRow.holds Tryd.pinned (OpenSpec.upto treeGrowsSpec)

/-- 'octroilaw05.TreeCuts', WHERE WHAT IT READS IS OF BULK AT MOST 1048576: true; the input reads as it did. -/
def treeCutsUptoRow : OpenClaim := { program := "ythbnigjckjkmnaadoor", sum := "612c342f5e01cdb83bd4de348a4f8ffcee0b2c057f4175e6d3fb994895454a2b", func := "octroi/octroilaw05.TreeCuts", spec := "treeCuts", inPlace := ["internal/bytealg.IndexByteString", "internal/bytealg.IndexString"], unfollowed := true, recurses := true, named := ["internal/bytealg.MaxLen", "octroi/tree.kinds"], apart := false, laid := [("octroi/tree.kinds", laid_octroi_tree_kinds)], narrowed := true }
def TreeCutsUptoSaid : Prop := treeCutsUptoRow.holds Tryd.pinned (OpenSpec.upto treeCutsSpec)

/-- 'octroilaw05.TreeParts', WHERE WHAT IT READS IS OF BULK AT MOST 1048576: true; the input reads as it did. -/
def treePartsUptoRow : OpenClaim := { program := "ythbnigjckjkmnaadoor", sum := "612c342f5e01cdb83bd4de348a4f8ffcee0b2c057f4175e6d3fb994895454a2b", func := "octroi/octroilaw05.TreeParts", spec := "treeParts", inPlace := ["internal/bytealg.IndexByteString", "internal/bytealg.IndexString"], unfollowed := true, recurses := true, named := ["internal/bytealg.MaxLen", "octroi/tree.kinds"], apart := false, laid := [("octroi/tree.kinds", laid_octroi_tree_kinds)], narrowed := true }
def TreePartsUptoSaid : Prop := treePartsUptoRow.holds Tryd.pinned (OpenSpec.upto treePartsSpec)

/-- 'octroilaw05.TreeKeeps', WHERE WHAT IT READS IS OF BULK AT MOST 1048576: true; the input reads as it did. -/
def treeKeepsUptoRow : OpenClaim := { program := "ythbnigjckjkmnaadoor", sum := "612c342f5e01cdb83bd4de348a4f8ffcee0b2c057f4175e6d3fb994895454a2b", func := "octroi/octroilaw05.TreeKeeps", spec := "treeKeeps", inPlace := ["internal/bytealg.IndexByteString", "internal/bytealg.IndexString"], unfollowed := true, recurses := true, named := ["internal/bytealg.MaxLen", "octroi/tree.kinds"], apart := false, laid := [("octroi/tree.kinds", laid_octroi_tree_kinds)], narrowed := true }
def TreeKeepsUptoSaid : Prop := treeKeepsUptoRow.holds Tryd.pinned (OpenSpec.upto treeKeepsSpec)

/-- 'octroilaw05.TreeFacts', WHERE WHAT IT READS IS OF BULK AT MOST 1048576: true; the input reads as it did. -/
def treeFactsUptoRow : OpenClaim := { program := "ythbnigjckjkmnaadoor", sum := "612c342f5e01cdb83bd4de348a4f8ffcee0b2c057f4175e6d3fb994895454a2b", func := "octroi/octroilaw05.TreeFacts", spec := "treeFacts", inPlace := ["internal/bytealg.IndexByteString", "internal/bytealg.IndexString"], unfollowed := true, recurses := true, named := ["internal/bytealg.MaxLen", "octroi/tree.kinds"], apart := false, laid := [("octroi/tree.kinds", laid_octroi_tree_kinds)], narrowed := true }
def TreeFactsUptoSaid : Prop := treeFactsUptoRow.holds Tryd.pinned (OpenSpec.upto treeFactsSpec)

/-- 'octroilaw05.TreeScales', WHERE WHAT IT READS IS OF BULK AT MOST 1048576: true; the input reads as it did. -/
def treeScalesUptoRow : OpenClaim := { program := "ythbnigjckjkmnaadoor", sum := "612c342f5e01cdb83bd4de348a4f8ffcee0b2c057f4175e6d3fb994895454a2b", func := "octroi/octroilaw05.TreeScales", spec := "treeScales", inPlace := ["internal/bytealg.IndexByteString", "internal/bytealg.IndexString"], unfollowed := true, recurses := true, named := ["internal/bytealg.MaxLen", "octroi/tree.kinds"], apart := false, laid := [("octroi/tree.kinds", laid_octroi_tree_kinds)], narrowed := true }
def TreeScalesUptoSaid : Prop := treeScalesUptoRow.holds Tryd.pinned (OpenSpec.upto treeScalesSpec)

/-- 'octroilaw08.UnitsTypes', WHERE WHAT IT READS IS OF BULK AT MOST 1048576: true; the input reads as it did. -/
def unitsTypesUptoRow : OpenClaim := { program := "ythbnigjckjkmnaadoor", sum := "612c342f5e01cdb83bd4de348a4f8ffcee0b2c057f4175e6d3fb994895454a2b", func := "octroi/octroilaw08.UnitsTypes", spec := "unitsTypes", inPlace := ["internal/bytealg.IndexByteString", "internal/bytealg.IndexString"], unfollowed := true, recurses := true, named := ["internal/bytealg.MaxLen", "octroi/tree.kinds"], apart := false, laid := [("octroi/tree.kinds", laid_octroi_tree_kinds)], narrowed := true }
def UnitsTypesUptoSaid : Prop := unitsTypesUptoRow.holds Tryd.pinned (OpenSpec.upto unitsTypesSpec)

/-- 'octroilaw08.UnitsGrow', WHERE WHAT IT READS IS OF BULK AT MOST 1048576: true; the input reads as it did. -/
def unitsGrowUptoRow : OpenClaim := { program := "ythbnigjckjkmnaadoor", sum := "612c342f5e01cdb83bd4de348a4f8ffcee0b2c057f4175e6d3fb994895454a2b", func := "octroi/octroilaw08.UnitsGrow", spec := "unitsGrow", inPlace := ["internal/bytealg.IndexByteString", "internal/bytealg.IndexString"], unfollowed := true, recurses := true, named := ["internal/bytealg.MaxLen", "octroi/tree.kinds"], apart := false, laid := [("octroi/tree.kinds", laid_octroi_tree_kinds)], narrowed := true }
def UnitsGrowUptoSaid : Prop := unitsGrowUptoRow.holds Tryd.pinned (OpenSpec.upto unitsGrowSpec)

/-- 'octroilaw08.UnitsCounts', WHERE WHAT IT READS IS OF BULK AT MOST 1048576: true; the input reads as it did. -/
def unitsCountsUptoRow : OpenClaim := { program := "ythbnigjckjkmnaadoor", sum := "612c342f5e01cdb83bd4de348a4f8ffcee0b2c057f4175e6d3fb994895454a2b", func := "octroi/octroilaw08.UnitsCounts", spec := "unitsCounts", inPlace := ["internal/bytealg.IndexByteString", "internal/bytealg.IndexString"], unfollowed := true, recurses := true, named := ["internal/bytealg.MaxLen", "octroi/tree.kinds"], apart := false, laid := [("octroi/tree.kinds", laid_octroi_tree_kinds)], narrowed := true }
def UnitsCountsUptoSaid : Prop := unitsCountsUptoRow.holds Tryd.pinned (OpenSpec.upto unitsCountsSpec)

/-- 'octroilaw08.UnitsParts', WHERE WHAT IT READS IS OF BULK AT MOST 1048576: true; the input reads as it did. -/
def unitsPartsUptoRow : OpenClaim := { program := "ythbnigjckjkmnaadoor", sum := "612c342f5e01cdb83bd4de348a4f8ffcee0b2c057f4175e6d3fb994895454a2b", func := "octroi/octroilaw08.UnitsParts", spec := "unitsParts", inPlace := ["internal/bytealg.IndexByteString", "internal/bytealg.IndexString"], unfollowed := true, recurses := true, named := ["internal/bytealg.MaxLen", "octroi/tree.kinds"], apart := false, laid := [("octroi/tree.kinds", laid_octroi_tree_kinds)], narrowed := true }
def UnitsPartsUptoSaid : Prop := unitsPartsUptoRow.holds Tryd.pinned (OpenSpec.upto unitsPartsSpec)

end Rows
end Go.Proofs.YthbnigjckjkmnaaDoor
