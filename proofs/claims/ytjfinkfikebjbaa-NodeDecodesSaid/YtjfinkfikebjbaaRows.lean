/-
  No cell of these rows narrows 'for every input' (looked for: loops, veiled, ifaces, maps, wideKeys, modest, calm, conditions, laid).
  DERIVED. THE GIVEN ROWS OF THIS SEAT. 7 by the template 'for every input the law returns true; each argument reads behind the call as it read before'; 0 by the template 'total and deterministic' (their statements: YtjfinkfikebjbaaTotals.lean).
  GIVEN WITH THE SEED: the statements are not yours to turn. If you find one false, say at which input.
  Laid BY PROGRAM, IN A SANDBOX (cutbox-rows.mjs): the forced cells as the released guide's own fill.sh prints them over the translation e53c9c8790020d2c… (all of the seat's roots in one cut). By AI agents, Wed Nov 11 2026. No macro, syntax, notation, axiom, sorry.
-/
import Derived.Test.YtjfinkfikebjbaaChecked
import GoSem.Claim
import GoSem.ClaimJoined
import GoSem.ClaimMapViews
import Derived.JoinedTies
import Derived.KernelRfl
namespace Go.Proofs.Ytjfinkfikebjbaa
/- THE CELL 'sum', in the pinned program and in every row, IS THE sha256 OF THE DUMP (.gsa) THAT YtjfinkfikebjbaaProg.lean LOADS. Nothing in Lean hashes anything: it is a label: what it is worth is what the hold of that sum in a sandbox is worth. -/
noncomputable def Try.pinned : Pinned := { name := "ytjfinkfikebjbaa", sum := "e53c9c8790020d2c9cb09a1d33ed27a2f1d5a10a9ae0f58905c2a07b5e879b85", checked := Try.checked }
namespace Rows
def none {H : Type} : Left H := { results := [], args := [] }

/-- 'dasdlaw20.NodeDecodes': WHATEVER THE INPUT: true; the input reads as it did. -/
def nodeDecodesSpec : ChangeSpec := { name := "nodeDecodes", fn := fun _ => fun
  | [d1, d2] => { results := [.lit (.bool true)], args := [d1, d2] }
  | _ => none }
def nodeDecodesRow : OpenClaim := { program := "ytjfinkfikebjbaa", sum := "e53c9c8790020d2c9cb09a1d33ed27a2f1d5a10a9ae0f58905c2a07b5e879b85", func := "dasd/dasdlaw20.NodeDecodes", spec := "nodeDecodes", inPlace := ["internal/abi.NoEscape", "internal/bytealg.MakeNoZero"], unfollowed := true, recurses := true, apart := false }
def NodeDecodesSaid : Prop := nodeDecodesRow.holds Try.pinned (OpenSpec.ofChange nodeDecodesSpec)

/-- ITS FALSE NEIGHBOUR: 'it returns false'. Refute it at one input. -/
def nodeDecodesWrong : ChangeSpec := { name := "nodeDecodes", fn := fun _ => fun
  | [d1, d2] => { results := [.lit (.bool false)], args := [d1, d2] }
  | _ => none }
def NodeDecodesWrongFalsely : Prop := nodeDecodesRow.holds Try.pinned (OpenSpec.ofChange nodeDecodesWrong)

/-- 'dasdlaw20.NodeLeads': WHATEVER THE INPUT: true; the input reads as it did. -/
def nodeLeadsSpec : ChangeSpec := { name := "nodeLeads", fn := fun _ => fun
  | [d1, d2] => { results := [.lit (.bool true)], args := [d1, d2] }
  | _ => none }
def nodeLeadsRow : OpenClaim := { program := "ytjfinkfikebjbaa", sum := "e53c9c8790020d2c9cb09a1d33ed27a2f1d5a10a9ae0f58905c2a07b5e879b85", func := "dasd/dasdlaw20.NodeLeads", spec := "nodeLeads", inPlace := ["internal/abi.NoEscape", "internal/bytealg.MakeNoZero"], unfollowed := true, recurses := true, apart := false }
def NodeLeadsSaid : Prop := nodeLeadsRow.holds Try.pinned (OpenSpec.ofChange nodeLeadsSpec)

/-- ITS FALSE NEIGHBOUR: 'it returns false'. Refute it at one input. -/
def nodeLeadsWrong : ChangeSpec := { name := "nodeLeads", fn := fun _ => fun
  | [d1, d2] => { results := [.lit (.bool false)], args := [d1, d2] }
  | _ => none }
def NodeLeadsWrongFalsely : Prop := nodeLeadsRow.holds Try.pinned (OpenSpec.ofChange nodeLeadsWrong)

/-- 'dasdlaw20.NodeEncodes': WHATEVER THE INPUT: true; the input reads as it did. -/
def nodeEncodesSpec : ChangeSpec := { name := "nodeEncodes", fn := fun _ => fun
  | [d1, d2] => { results := [.lit (.bool true)], args := [d1, d2] }
  | _ => none }
def nodeEncodesRow : OpenClaim := { program := "ytjfinkfikebjbaa", sum := "e53c9c8790020d2c9cb09a1d33ed27a2f1d5a10a9ae0f58905c2a07b5e879b85", func := "dasd/dasdlaw20.NodeEncodes", spec := "nodeEncodes", inPlace := ["internal/abi.NoEscape", "internal/bytealg.MakeNoZero"], unfollowed := true, recurses := true, apart := false }
def NodeEncodesSaid : Prop := nodeEncodesRow.holds Try.pinned (OpenSpec.ofChange nodeEncodesSpec)

/-- ITS FALSE NEIGHBOUR: 'it returns false'. Refute it at one input. -/
def nodeEncodesWrong : ChangeSpec := { name := "nodeEncodes", fn := fun _ => fun
  | [d1, d2] => { results := [.lit (.bool false)], args := [d1, d2] }
  | _ => none }
def NodeEncodesWrongFalsely : Prop := nodeEncodesRow.holds Try.pinned (OpenSpec.ofChange nodeEncodesWrong)

/-- 'dasdlaw20.NodeInverts': WHATEVER THE INPUT: true; the input reads as it did. -/
def nodeInvertsSpec : ChangeSpec := { name := "nodeInverts", fn := fun _ => fun
  | [d1, d2, d3] => { results := [.lit (.bool true)], args := [d1, d2, d3] }
  | _ => none }
def nodeInvertsRow : OpenClaim := { program := "ytjfinkfikebjbaa", sum := "e53c9c8790020d2c9cb09a1d33ed27a2f1d5a10a9ae0f58905c2a07b5e879b85", func := "dasd/dasdlaw20.NodeInverts", spec := "nodeInverts", inPlace := ["internal/abi.NoEscape", "internal/bytealg.MakeNoZero"], unfollowed := true, recurses := true, apart := false }
def NodeInvertsSaid : Prop := nodeInvertsRow.holds Try.pinned (OpenSpec.ofChange nodeInvertsSpec)

/-- ITS FALSE NEIGHBOUR: 'it returns false'. Refute it at one input. -/
def nodeInvertsWrong : ChangeSpec := { name := "nodeInverts", fn := fun _ => fun
  | [d1, d2, d3] => { results := [.lit (.bool false)], args := [d1, d2, d3] }
  | _ => none }
def NodeInvertsWrongFalsely : Prop := nodeInvertsRow.holds Try.pinned (OpenSpec.ofChange nodeInvertsWrong)

/-- 'dasdlaw20.NodeHalves': WHATEVER THE INPUT: true; the input reads as it did. -/
def nodeHalvesSpec : ChangeSpec := { name := "nodeHalves", fn := fun _ => fun
  | [d1, d2] => { results := [.lit (.bool true)], args := [d1, d2] }
  | _ => none }
def nodeHalvesRow : OpenClaim := { program := "ytjfinkfikebjbaa", sum := "e53c9c8790020d2c9cb09a1d33ed27a2f1d5a10a9ae0f58905c2a07b5e879b85", func := "dasd/dasdlaw20.NodeHalves", spec := "nodeHalves", inPlace := ["internal/abi.NoEscape", "internal/bytealg.MakeNoZero"], unfollowed := true, recurses := true, apart := false }
def NodeHalvesSaid : Prop := nodeHalvesRow.holds Try.pinned (OpenSpec.ofChange nodeHalvesSpec)

/-- ITS FALSE NEIGHBOUR: 'it returns false'. Refute it at one input. -/
def nodeHalvesWrong : ChangeSpec := { name := "nodeHalves", fn := fun _ => fun
  | [d1, d2] => { results := [.lit (.bool false)], args := [d1, d2] }
  | _ => none }
def NodeHalvesWrongFalsely : Prop := nodeHalvesRow.holds Try.pinned (OpenSpec.ofChange nodeHalvesWrong)

/-- 'dasdlaw20.NodeInserts': WHATEVER THE INPUT: true; the input reads as it did. -/
def nodeInsertsSpec : ChangeSpec := { name := "nodeInserts", fn := fun _ => fun
  | [d1, d2, d3, d4] => { results := [.lit (.bool true)], args := [d1, d2, d3, d4] }
  | _ => none }
def nodeInsertsRow : OpenClaim := { program := "ytjfinkfikebjbaa", sum := "e53c9c8790020d2c9cb09a1d33ed27a2f1d5a10a9ae0f58905c2a07b5e879b85", func := "dasd/dasdlaw20.NodeInserts", spec := "nodeInserts", inPlace := ["internal/abi.NoEscape", "internal/bytealg.MakeNoZero", "slices.overlaps[dasd/api.NodeEntry]"], unfollowed := true, recurses := true, apart := false }
def NodeInsertsSaid : Prop := nodeInsertsRow.holds Try.pinned (OpenSpec.ofChange nodeInsertsSpec)

/-- ITS FALSE NEIGHBOUR: 'it returns false'. Refute it at one input. -/
def nodeInsertsWrong : ChangeSpec := { name := "nodeInserts", fn := fun _ => fun
  | [d1, d2, d3, d4] => { results := [.lit (.bool false)], args := [d1, d2, d3, d4] }
  | _ => none }
def NodeInsertsWrongFalsely : Prop := nodeInsertsRow.holds Try.pinned (OpenSpec.ofChange nodeInsertsWrong)

/-- 'dasdlaw20.NodeChanges': WHATEVER THE INPUT: true; the input reads as it did. -/
def nodeChangesSpec : ChangeSpec := { name := "nodeChanges", fn := fun _ => fun
  | [d1, d2, d3, d4] => { results := [.lit (.bool true)], args := [d1, d2, d3, d4] }
  | _ => none }
def nodeChangesRow : OpenClaim := { program := "ytjfinkfikebjbaa", sum := "e53c9c8790020d2c9cb09a1d33ed27a2f1d5a10a9ae0f58905c2a07b5e879b85", func := "dasd/dasdlaw20.NodeChanges", spec := "nodeChanges", inPlace := ["internal/abi.NoEscape", "internal/bytealg.MakeNoZero", "slices.overlaps[dasd/api.NodeEntry]"], unfollowed := true, recurses := true, apart := false }
def NodeChangesSaid : Prop := nodeChangesRow.holds Try.pinned (OpenSpec.ofChange nodeChangesSpec)

/-- ITS FALSE NEIGHBOUR: 'it returns false'. Refute it at one input. -/
def nodeChangesWrong : ChangeSpec := { name := "nodeChanges", fn := fun _ => fun
  | [d1, d2, d3, d4] => { results := [.lit (.bool false)], args := [d1, d2, d3, d4] }
  | _ => none }
def NodeChangesWrongFalsely : Prop := nodeChangesRow.holds Try.pinned (OpenSpec.ofChange nodeChangesWrong)

/- THE SECOND FORM. 'bulk': how many values and letters a reading holds, each counted each time it is reached (what is shared counts as often as it is met; a slice's spare places count too). A statement '..UptoSaid' is the law's where the arguments, and the package variables that the reading takes, are together of bulk at most 1048576: NARROWER than '..Said'. Prove '..Said' where nothing that the law and all that it calls make is longer than what came in: it says more and counts as full. Else prove '..UptoSaid'. A law counts once. -/
mutual
def uptoBulk {H : Type} : DataW H → Nat
  | .lit (.string bytes) => bytes.length + 1
  | .lit _ => 1
  | .nil => 1
  | .ptr d => uptoBulk d + 1
  | .slice elems spare => uptoBulkAll elems + uptoBulkAll spare + 1
  | .agg parts => uptoBulkAll parts + 1
  | .iface _ d => uptoBulk d + 1
  | .map entries => uptoBulkEntries entries + 1
  | .held _ => 1
def uptoBulkAll {H : Type} : List (DataW H) → Nat
  | [] => 0
  | d :: r => uptoBulk d + uptoBulkAll r
def uptoBulkEntries {H : Type} : List (Lit × DataW H) → Nat
  | [] => 0
  | x :: r => uptoBulkEntry x + uptoBulkEntries r
def uptoBulkEntry {H : Type} : Lit × DataW H → Nat
  | (.string bytes, d) => bytes.length + uptoBulk d + 1
  | (_, d) => uptoBulk d + 1
 end
def uptoSmall : (H : Type) → List (DataW H) → Bool := fun _ ds => decide (uptoBulkAll ds ≤ 1048576)
def OpenSpec.upto (s : _root_.Go.ChangeSpec) : _root_.Go.OpenSpec := { _root_.Go.OpenSpec.ofChange s with cond := some uptoSmall }

/-- 'dasdlaw20.NodeDecodes', WHERE WHAT IT READS IS OF BULK AT MOST 1048576: true; the input reads as it did. -/
def nodeDecodesUptoRow : OpenClaim := { program := "ytjfinkfikebjbaa", sum := "e53c9c8790020d2c9cb09a1d33ed27a2f1d5a10a9ae0f58905c2a07b5e879b85", func := "dasd/dasdlaw20.NodeDecodes", spec := "nodeDecodes", inPlace := ["internal/abi.NoEscape", "internal/bytealg.MakeNoZero"], unfollowed := true, recurses := true, apart := false, narrowed := true }
def NodeDecodesUptoSaid : Prop := nodeDecodesUptoRow.holds Try.pinned (OpenSpec.upto nodeDecodesSpec)

/-- 'dasdlaw20.NodeLeads', WHERE WHAT IT READS IS OF BULK AT MOST 1048576: true; the input reads as it did. -/
def nodeLeadsUptoRow : OpenClaim := { program := "ytjfinkfikebjbaa", sum := "e53c9c8790020d2c9cb09a1d33ed27a2f1d5a10a9ae0f58905c2a07b5e879b85", func := "dasd/dasdlaw20.NodeLeads", spec := "nodeLeads", inPlace := ["internal/abi.NoEscape", "internal/bytealg.MakeNoZero"], unfollowed := true, recurses := true, apart := false, narrowed := true }
def NodeLeadsUptoSaid : Prop := nodeLeadsUptoRow.holds Try.pinned (OpenSpec.upto nodeLeadsSpec)

/-- 'dasdlaw20.NodeEncodes', WHERE WHAT IT READS IS OF BULK AT MOST 1048576: true; the input reads as it did. -/
def nodeEncodesUptoRow : OpenClaim := { program := "ytjfinkfikebjbaa", sum := "e53c9c8790020d2c9cb09a1d33ed27a2f1d5a10a9ae0f58905c2a07b5e879b85", func := "dasd/dasdlaw20.NodeEncodes", spec := "nodeEncodes", inPlace := ["internal/abi.NoEscape", "internal/bytealg.MakeNoZero"], unfollowed := true, recurses := true, apart := false, narrowed := true }
def NodeEncodesUptoSaid : Prop := nodeEncodesUptoRow.holds Try.pinned (OpenSpec.upto nodeEncodesSpec)

/-- 'dasdlaw20.NodeInverts', WHERE WHAT IT READS IS OF BULK AT MOST 1048576: true; the input reads as it did. -/
def nodeInvertsUptoRow : OpenClaim := { program := "ytjfinkfikebjbaa", sum := "e53c9c8790020d2c9cb09a1d33ed27a2f1d5a10a9ae0f58905c2a07b5e879b85", func := "dasd/dasdlaw20.NodeInverts", spec := "nodeInverts", inPlace := ["internal/abi.NoEscape", "internal/bytealg.MakeNoZero"], unfollowed := true, recurses := true, apart := false, narrowed := true }
def NodeInvertsUptoSaid : Prop := nodeInvertsUptoRow.holds Try.pinned (OpenSpec.upto nodeInvertsSpec)

/-- 'dasdlaw20.NodeHalves', WHERE WHAT IT READS IS OF BULK AT MOST 1048576: true; the input reads as it did. -/
def nodeHalvesUptoRow : OpenClaim := { program := "ytjfinkfikebjbaa", sum := "e53c9c8790020d2c9cb09a1d33ed27a2f1d5a10a9ae0f58905c2a07b5e879b85", func := "dasd/dasdlaw20.NodeHalves", spec := "nodeHalves", inPlace := ["internal/abi.NoEscape", "internal/bytealg.MakeNoZero"], unfollowed := true, recurses := true, apart := false, narrowed := true }
def NodeHalvesUptoSaid : Prop := nodeHalvesUptoRow.holds Try.pinned (OpenSpec.upto nodeHalvesSpec)

/-- 'dasdlaw20.NodeInserts', WHERE WHAT IT READS IS OF BULK AT MOST 1048576: true; the input reads as it did. -/
def nodeInsertsUptoRow : OpenClaim := { program := "ytjfinkfikebjbaa", sum := "e53c9c8790020d2c9cb09a1d33ed27a2f1d5a10a9ae0f58905c2a07b5e879b85", func := "dasd/dasdlaw20.NodeInserts", spec := "nodeInserts", inPlace := ["internal/abi.NoEscape", "internal/bytealg.MakeNoZero", "slices.overlaps[dasd/api.NodeEntry]"], unfollowed := true, recurses := true, apart := false, narrowed := true }
def NodeInsertsUptoSaid : Prop := nodeInsertsUptoRow.holds Try.pinned (OpenSpec.upto nodeInsertsSpec)

/-- 'dasdlaw20.NodeChanges', WHERE WHAT IT READS IS OF BULK AT MOST 1048576: true; the input reads as it did. -/
def nodeChangesUptoRow : OpenClaim := { program := "ytjfinkfikebjbaa", sum := "e53c9c8790020d2c9cb09a1d33ed27a2f1d5a10a9ae0f58905c2a07b5e879b85", func := "dasd/dasdlaw20.NodeChanges", spec := "nodeChanges", inPlace := ["internal/abi.NoEscape", "internal/bytealg.MakeNoZero", "slices.overlaps[dasd/api.NodeEntry]"], unfollowed := true, recurses := true, apart := false, narrowed := true }
def NodeChangesUptoSaid : Prop := nodeChangesUptoRow.holds Try.pinned (OpenSpec.upto nodeChangesSpec)

end Rows
end Go.Proofs.Ytjfinkfikebjbaa
