/-
  DERIVED. GIVEN WITH THE SEED: THE CARDS: each row of YtdleakjejodjjaaGreatDoorRows.lean that lists a variable, with what it lists TIED to the program's text (the seventh form; the later family's looks); each row that meets fmt, with fmt's text TOLD by the authors' own Lean function (tested against real Go, not proved from fmt's source: count such statements apart). THE CARD IS WHAT COUNTS. Prove the row's statement (the work); the ties are given (YtdleakjejodjjaaGreatDoorTie.lean); close each card by the builder's one call (the guide's Derived/Test/ToyasCard.lean, 'card_holds'). Laid BY PROGRAM, IN A SANDBOX (cutbox-door.mjs). By AI agents, Wed Nov 11 2026. No macro, syntax, notation, axiom, sorry.
-/
import Derived.Test.YtdleakjejodjjaaGreatDoorRows
import GoSem.ClaimSeven
namespace Go.Proofs.YtdleakjejodjjaaGreatDoor
namespace Rows

/-- THE TIED CARD OF 'dasdlaw59.HistoryChecks'. -/
def historyChecksCard : Claim7 := { stood := { row := historyChecksRow, standIns := [], harness := (true, "f7b7e15f139b61cff0fa1a3bd9aedef7a3ea027cf0bb867d46e77df450adcdb3"), looks := false }, kinds := [], alts := [], laidByText := true, laidKinds := [.data, .data, .data, .data, .widerDeep, .pinned], laidTests := true, laidLooks := .later }
def HistoryChecksCardSaid : Prop := Claim7.holds Tryz.pinned (.plain (OpenSpec.ofChange historyChecksSpec)) historyChecksCard

/-- THE TIED CARD OF 'dasdlaw59.HistoryReplays'. -/
def historyReplaysCard : Claim7 := { stood := { row := historyReplaysRow, standIns := [], harness := (true, "f7b7e15f139b61cff0fa1a3bd9aedef7a3ea027cf0bb867d46e77df450adcdb3"), looks := false }, kinds := [], alts := [], laidByText := true, laidKinds := [.data, .data, .data, .data, .widerDeep, .pinned], laidTests := true, laidLooks := .later }
def HistoryReplaysCardSaid : Prop := Claim7.holds Tryz.pinned (.plain (OpenSpec.ofChange historyReplaysSpec)) historyReplaysCard

/-- THE SECOND FORM's CARD OF 'dasdlaw59.HistoryChecks'. -/
def historyChecksUptoCard : Claim7 := { stood := { row := historyChecksUptoRow, standIns := [], harness := (true, "f7b7e15f139b61cff0fa1a3bd9aedef7a3ea027cf0bb867d46e77df450adcdb3"), looks := false }, kinds := [], alts := [], laidByText := true, laidKinds := [.data, .data, .data, .data, .widerDeep, .pinned], laidTests := true, laidLooks := .later }
def HistoryChecksUptoCardSaid : Prop := Claim7.holds Tryz.pinned (.plain (OpenSpec.upto historyChecksSpec)) historyChecksUptoCard

/-- THE SECOND FORM's CARD OF 'dasdlaw59.HistoryReplays'. -/
def historyReplaysUptoCard : Claim7 := { stood := { row := historyReplaysUptoRow, standIns := [], harness := (true, "f7b7e15f139b61cff0fa1a3bd9aedef7a3ea027cf0bb867d46e77df450adcdb3"), looks := false }, kinds := [], alts := [], laidByText := true, laidKinds := [.data, .data, .data, .data, .widerDeep, .pinned], laidTests := true, laidLooks := .later }
def HistoryReplaysUptoCardSaid : Prop := Claim7.holds Tryz.pinned (.plain (OpenSpec.upto historyReplaysSpec)) historyReplaysUptoCard
end Rows
end Go.Proofs.YtdleakjejodjjaaGreatDoor
