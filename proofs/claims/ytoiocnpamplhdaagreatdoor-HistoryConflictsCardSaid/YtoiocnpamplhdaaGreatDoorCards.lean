/-
  DERIVED. GIVEN WITH THE SEED: THE CARDS: each row of YtoiocnpamplhdaaGreatDoorRows.lean that lists a variable, with what it lists TIED to the program's text (the seventh form; the later family's looks); each row that meets fmt, with fmt's text TOLD by the authors' own Lean function (tested against real Go, not proved from fmt's source: count such statements apart). THE CARD IS WHAT COUNTS. Prove the row's statement (the work); the ties are given (YtoiocnpamplhdaaGreatDoorTie.lean); close each card by the builder's one call (the guide's Derived/Test/ToyasCard.lean, 'card_holds'). Laid BY PROGRAM, IN A SANDBOX (cutbox-door.mjs). By AI agents, Wed Nov 11 2026. No macro, syntax, notation, axiom, sorry.
-/
import Derived.Test.YtoiocnpamplhdaaGreatDoorRows
import GoSem.ClaimSeven
namespace Go.Proofs.YtoiocnpamplhdaaGreatDoor
namespace Rows

/-- THE TIED CARD OF 'dasdlaw59.HistoryOrders'. -/
def historyOrdersCard : Claim7 := { stood := { row := historyOrdersRow, standIns := [], harness := (true, "5e5ada1a51f468fe014f7d7373e40d30a562d03e0410932de7957a9015cb784b"), looks := false }, kinds := [], alts := [], laidByText := true, laidKinds := [.data, .data, .data, .data, .widerDeep, .pinned], laidTests := true, laidLooks := .later }
def HistoryOrdersCardSaid : Prop := Claim7.holds Tryz.pinned (.plain (OpenSpec.ofChange historyOrdersSpec)) historyOrdersCard

/-- THE TIED CARD OF 'dasdlaw59.HistoryConflicts'. -/
def historyConflictsCard : Claim7 := { stood := { row := historyConflictsRow, standIns := [], harness := (true, "5e5ada1a51f468fe014f7d7373e40d30a562d03e0410932de7957a9015cb784b"), looks := false }, kinds := [], alts := [], laidByText := true, laidKinds := [.data, .data, .data, .data, .widerDeep, .pinned], laidTests := true, laidLooks := .later }
def HistoryConflictsCardSaid : Prop := Claim7.holds Tryz.pinned (.plain (OpenSpec.ofChange historyConflictsSpec)) historyConflictsCard

/-- THE SECOND FORM's CARD OF 'dasdlaw59.HistoryOrders'. -/
def historyOrdersUptoCard : Claim7 := { stood := { row := historyOrdersUptoRow, standIns := [], harness := (true, "5e5ada1a51f468fe014f7d7373e40d30a562d03e0410932de7957a9015cb784b"), looks := false }, kinds := [], alts := [], laidByText := true, laidKinds := [.data, .data, .data, .data, .widerDeep, .pinned], laidTests := true, laidLooks := .later }
def HistoryOrdersUptoCardSaid : Prop := Claim7.holds Tryz.pinned (.plain (OpenSpec.upto historyOrdersSpec)) historyOrdersUptoCard

/-- THE SECOND FORM's CARD OF 'dasdlaw59.HistoryConflicts'. -/
def historyConflictsUptoCard : Claim7 := { stood := { row := historyConflictsUptoRow, standIns := [], harness := (true, "5e5ada1a51f468fe014f7d7373e40d30a562d03e0410932de7957a9015cb784b"), looks := false }, kinds := [], alts := [], laidByText := true, laidKinds := [.data, .data, .data, .data, .widerDeep, .pinned], laidTests := true, laidLooks := .later }
def HistoryConflictsUptoCardSaid : Prop := Claim7.holds Tryz.pinned (.plain (OpenSpec.upto historyConflictsSpec)) historyConflictsUptoCard
end Rows
end Go.Proofs.YtoiocnpamplhdaaGreatDoor
