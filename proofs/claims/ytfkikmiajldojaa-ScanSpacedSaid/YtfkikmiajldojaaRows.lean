/-
  No cell of these rows narrows 'for every input' (looked for: loops, veiled, ifaces, maps, wideKeys, modest, calm, conditions, laid).
  DERIVED. THE GIVEN ROWS OF THIS SEAT. 5 by the template 'for every input the law returns true; each argument reads behind the call as it read before'; 0 by the template 'total and deterministic' (their statements: YtfkikmiajldojaaTotals.lean).
  GIVEN WITH THE SEED: the statements are not yours to turn. If you find one false, say at which input.
  Laid BY PROGRAM, IN A SANDBOX (cutbox-rows.mjs): the forced cells as the released guide's own fill.sh prints them over the translation eacd03cec9b9bfde… (all of the seat's roots in one cut). By AI agents, Wed Nov 11 2026. No macro, syntax, notation, axiom, sorry.
-/
import Derived.Test.YtfkikmiajldojaaChecked
import GoSem.Claim
import GoSem.ClaimJoined
import GoSem.ClaimMapViews
import Derived.JoinedTies
import Derived.KernelRfl
namespace Go.Proofs.Ytfkikmiajldojaa
/- THE CELL 'sum', in the pinned program and in every row, IS THE sha256 OF THE DUMP (.gsa) THAT YtfkikmiajldojaaProg.lean LOADS. Nothing in Lean hashes anything: it is a label: what it is worth is what the hold of that sum in a sandbox is worth. -/
noncomputable def Try.pinned : Pinned := { name := "ytfkikmiajldojaa", sum := "eacd03cec9b9bfde53996ba531dda0b058ce7d095c10613c80a5bb359fa37dce", checked := Try.checked }
namespace Rows
def none {H : Type} : Left H := { results := [], args := [] }

/-- 'octroilaw04.ScanTokens': WHATEVER THE INPUT: true; the input reads as it did. -/
def scanTokensSpec : ChangeSpec := { name := "scanTokens", fn := fun _ => fun
  | [d] => { results := [.lit (.bool true)], args := [d] }
  | _ => none }
def scanTokensRow : OpenClaim := { program := "ytfkikmiajldojaa", sum := "eacd03cec9b9bfde53996ba531dda0b058ce7d095c10613c80a5bb359fa37dce", func := "octroi/octroilaw04.ScanTokens", spec := "scanTokens", inPlace := ["internal/bytealg.IndexByteString", "internal/bytealg.IndexString"], unfollowed := true, recurses := true, named := ["internal/bytealg.MaxLen"], apart := false }
def ScanTokensSaid : Prop := scanTokensRow.holds Try.pinned (OpenSpec.ofChange scanTokensSpec)

/-- ITS FALSE NEIGHBOUR: 'it returns false'. Refute it at one input. -/
def scanTokensWrong : ChangeSpec := { name := "scanTokens", fn := fun _ => fun
  | [d] => { results := [.lit (.bool false)], args := [d] }
  | _ => none }
def ScanTokensWrongFalsely : Prop := scanTokensRow.holds Try.pinned (OpenSpec.ofChange scanTokensWrong)

/-- 'octroilaw04.ScanNames': WHATEVER THE INPUT: true; the input reads as it did. -/
def scanNamesSpec : ChangeSpec := { name := "scanNames", fn := fun _ => fun
  | [d] => { results := [.lit (.bool true)], args := [d] }
  | _ => none }
def scanNamesRow : OpenClaim := { program := "ytfkikmiajldojaa", sum := "eacd03cec9b9bfde53996ba531dda0b058ce7d095c10613c80a5bb359fa37dce", func := "octroi/octroilaw04.ScanNames", spec := "scanNames", inPlace := ["internal/bytealg.IndexByteString", "internal/bytealg.IndexString"], unfollowed := true, recurses := true, named := ["internal/bytealg.MaxLen"], apart := false }
def ScanNamesSaid : Prop := scanNamesRow.holds Try.pinned (OpenSpec.ofChange scanNamesSpec)

/-- ITS FALSE NEIGHBOUR: 'it returns false'. Refute it at one input. -/
def scanNamesWrong : ChangeSpec := { name := "scanNames", fn := fun _ => fun
  | [d] => { results := [.lit (.bool false)], args := [d] }
  | _ => none }
def ScanNamesWrongFalsely : Prop := scanNamesRow.holds Try.pinned (OpenSpec.ofChange scanNamesWrong)

/-- 'octroilaw04.ScanCovers': WHATEVER THE INPUT: true; the input reads as it did. -/
def scanCoversSpec : ChangeSpec := { name := "scanCovers", fn := fun _ => fun
  | [d] => { results := [.lit (.bool true)], args := [d] }
  | _ => none }
def scanCoversRow : OpenClaim := { program := "ytfkikmiajldojaa", sum := "eacd03cec9b9bfde53996ba531dda0b058ce7d095c10613c80a5bb359fa37dce", func := "octroi/octroilaw04.ScanCovers", spec := "scanCovers", inPlace := ["internal/bytealg.IndexByteString", "internal/bytealg.IndexString"], unfollowed := true, recurses := true, named := ["internal/bytealg.MaxLen"], apart := false }
def ScanCoversSaid : Prop := scanCoversRow.holds Try.pinned (OpenSpec.ofChange scanCoversSpec)

/-- ITS FALSE NEIGHBOUR: 'it returns false'. Refute it at one input. -/
def scanCoversWrong : ChangeSpec := { name := "scanCovers", fn := fun _ => fun
  | [d] => { results := [.lit (.bool false)], args := [d] }
  | _ => none }
def ScanCoversWrongFalsely : Prop := scanCoversRow.holds Try.pinned (OpenSpec.ofChange scanCoversWrong)

/-- 'octroilaw04.ScanSpaced': WHATEVER THE INPUT: true; the input reads as it did. -/
def scanSpacedSpec : ChangeSpec := { name := "scanSpaced", fn := fun _ => fun
  | [d1, d2] => { results := [.lit (.bool true)], args := [d1, d2] }
  | _ => none }
def scanSpacedRow : OpenClaim := { program := "ytfkikmiajldojaa", sum := "eacd03cec9b9bfde53996ba531dda0b058ce7d095c10613c80a5bb359fa37dce", func := "octroi/octroilaw04.ScanSpaced", spec := "scanSpaced", inPlace := ["internal/bytealg.IndexByteString", "internal/bytealg.IndexString"], unfollowed := true, recurses := true, named := ["internal/bytealg.MaxLen"], apart := false }
def ScanSpacedSaid : Prop := scanSpacedRow.holds Try.pinned (OpenSpec.ofChange scanSpacedSpec)

/-- ITS FALSE NEIGHBOUR: 'it returns false'. Refute it at one input. -/
def scanSpacedWrong : ChangeSpec := { name := "scanSpaced", fn := fun _ => fun
  | [d1, d2] => { results := [.lit (.bool false)], args := [d1, d2] }
  | _ => none }
def ScanSpacedWrongFalsely : Prop := scanSpacedRow.holds Try.pinned (OpenSpec.ofChange scanSpacedWrong)

/-- 'octroilaw04.ScanFaults': WHATEVER THE INPUT: true; the input reads as it did. -/
def scanFaultsSpec : ChangeSpec := { name := "scanFaults", fn := fun _ => fun
  | [d1, d2] => { results := [.lit (.bool true)], args := [d1, d2] }
  | _ => none }
def scanFaultsRow : OpenClaim := { program := "ytfkikmiajldojaa", sum := "eacd03cec9b9bfde53996ba531dda0b058ce7d095c10613c80a5bb359fa37dce", func := "octroi/octroilaw04.ScanFaults", spec := "scanFaults", inPlace := ["internal/bytealg.IndexByteString", "internal/bytealg.IndexString"], unfollowed := true, recurses := true, named := ["internal/bytealg.MaxLen"], apart := false }
def ScanFaultsSaid : Prop := scanFaultsRow.holds Try.pinned (OpenSpec.ofChange scanFaultsSpec)

/-- ITS FALSE NEIGHBOUR: 'it returns false'. Refute it at one input. -/
def scanFaultsWrong : ChangeSpec := { name := "scanFaults", fn := fun _ => fun
  | [d1, d2] => { results := [.lit (.bool false)], args := [d1, d2] }
  | _ => none }
def ScanFaultsWrongFalsely : Prop := scanFaultsRow.holds Try.pinned (OpenSpec.ofChange scanFaultsWrong)

/- THE SECOND FORM. 'bulk': how many values and letters a reading holds, each counted each time it is reached (what is shared counts as often as it is met; a slice's spare places count too). A statement '..UptoSaid' is the law's where the arguments, and the package variables that the reading takes, are together of bulk at most 1048576: NARROWER than '..Said'. Prove '..Said' where nothing that the law and all that it calls make is longer than what came in: it says more and counts as full. Else prove '..UptoSaid'. A law counts once. -/
mutual
def uptoBulk {H : Type} : DataW H → Nat
  | .lit (.string bytes) => bytes.length + 1
  | .lit _ => 1
  | .nil => 1
  | .ptr d => uptoBulk d + 1
  | .slice elems spare => uptoBulkAll elems + uptoBulkAll spare + 1
  | .agg parts => uptoBulkAll parts + 1
  | .iface _ d => uptoBulk d + 1
  | .map entries => uptoBulkEntries entries + 1
  | .held _ => 1
def uptoBulkAll {H : Type} : List (DataW H) → Nat
  | [] => 0
  | d :: r => uptoBulk d + uptoBulkAll r
def uptoBulkEntries {H : Type} : List (Lit × DataW H) → Nat
  | [] => 0
  | x :: r => uptoBulkEntry x + uptoBulkEntries r
def uptoBulkEntry {H : Type} : Lit × DataW H → Nat
  | (.string bytes, d) => bytes.length + uptoBulk d + 1
  | (_, d) => uptoBulk d + 1
 end
def uptoSmall : (H : Type) → List (DataW H) → Bool := fun _ ds => decide (uptoBulkAll ds ≤ 1048576)
def OpenSpec.upto (s : _root_.Go.ChangeSpec) : _root_.Go.OpenSpec := { _root_.Go.OpenSpec.ofChange s with cond := some uptoSmall }

/-- 'octroilaw04.ScanTokens', WHERE WHAT IT READS IS OF BULK AT MOST 1048576: true; the input reads as it did. -/
def scanTokensUptoRow : OpenClaim := { program := "ytfkikmiajldojaa", sum := "eacd03cec9b9bfde53996ba531dda0b058ce7d095c10613c80a5bb359fa37dce", func := "octroi/octroilaw04.ScanTokens", spec := "scanTokens", inPlace := ["internal/bytealg.IndexByteString", "internal/bytealg.IndexString"], unfollowed := true, recurses := true, named := ["internal/bytealg.MaxLen"], apart := false, narrowed := true }
def ScanTokensUptoSaid : Prop := scanTokensUptoRow.holds Try.pinned (OpenSpec.upto scanTokensSpec)

/-- 'octroilaw04.ScanNames', WHERE WHAT IT READS IS OF BULK AT MOST 1048576: true; the input reads as it did. -/
def scanNamesUptoRow : OpenClaim := { program := "ytfkikmiajldojaa", sum := "eacd03cec9b9bfde53996ba531dda0b058ce7d095c10613c80a5bb359fa37dce", func := "octroi/octroilaw04.ScanNames", spec := "scanNames", inPlace := ["internal/bytealg.IndexByteString", "internal/bytealg.IndexString"], unfollowed := true, recurses := true, named := ["internal/bytealg.MaxLen"], apart := false, narrowed := true }
def ScanNamesUptoSaid : Prop := scanNamesUptoRow.holds Try.pinned (OpenSpec.upto scanNamesSpec)

/-- 'octroilaw04.ScanCovers', WHERE WHAT IT READS IS OF BULK AT MOST 1048576: true; the input reads as it did. -/
def scanCoversUptoRow : OpenClaim := { program := "ytfkikmiajldojaa", sum := "eacd03cec9b9bfde53996ba531dda0b058ce7d095c10613c80a5bb359fa37dce", func := "octroi/octroilaw04.ScanCovers", spec := "scanCovers", inPlace := ["internal/bytealg.IndexByteString", "internal/bytealg.IndexString"], unfollowed := true, recurses := true, named := ["internal/bytealg.MaxLen"], apart := false, narrowed := true }
def ScanCoversUptoSaid : Prop := scanCoversUptoRow.holds Try.pinned (OpenSpec.upto scanCoversSpec)

/-- 'octroilaw04.ScanSpaced', WHERE WHAT IT READS IS OF BULK AT MOST 1048576: true; the input reads as it did. -/
def scanSpacedUptoRow : OpenClaim := { program := "ytfkikmiajldojaa", sum := "eacd03cec9b9bfde53996ba531dda0b058ce7d095c10613c80a5bb359fa37dce", func := "octroi/octroilaw04.ScanSpaced", spec := "scanSpaced", inPlace := ["internal/bytealg.IndexByteString", "internal/bytealg.IndexString"], unfollowed := true, recurses := true, named := ["internal/bytealg.MaxLen"], apart := false, narrowed := true }
def ScanSpacedUptoSaid : Prop := scanSpacedUptoRow.holds Try.pinned (OpenSpec.upto scanSpacedSpec)

/-- 'octroilaw04.ScanFaults', WHERE WHAT IT READS IS OF BULK AT MOST 1048576: true; the input reads as it did. -/
def scanFaultsUptoRow : OpenClaim := { program := "ytfkikmiajldojaa", sum := "eacd03cec9b9bfde53996ba531dda0b058ce7d095c10613c80a5bb359fa37dce", func := "octroi/octroilaw04.ScanFaults", spec := "scanFaults", inPlace := ["internal/bytealg.IndexByteString", "internal/bytealg.IndexString"], unfollowed := true, recurses := true, named := ["internal/bytealg.MaxLen"], apart := false, narrowed := true }
def ScanFaultsUptoSaid : Prop := scanFaultsUptoRow.holds Try.pinned (OpenSpec.upto scanFaultsSpec)

end Rows
end Go.Proofs.Ytfkikmiajldojaa
