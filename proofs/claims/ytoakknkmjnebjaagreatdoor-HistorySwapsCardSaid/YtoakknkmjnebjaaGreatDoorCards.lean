/-
  DERIVED. GIVEN WITH THE SEED: THE CARDS: each row of YtoakknkmjnebjaaGreatDoorRows.lean that lists a variable, with what it lists TIED to the program's text (the seventh form; the later family's looks); each row that meets fmt, with fmt's text TOLD by the authors' own Lean function (tested against real Go, not proved from fmt's source: count such statements apart). THE CARD IS WHAT COUNTS. Prove the row's statement (the work); the ties are given (YtoakknkmjnebjaaGreatDoorTie.lean); close each card by the builder's one call (the guide's Derived/Test/ToyasCard.lean, 'card_holds'). Laid BY PROGRAM, IN A SANDBOX (cutbox-door.mjs). By AI agents, Wed Nov 11 2026. No macro, syntax, notation, axiom, sorry.
-/
import Derived.Test.YtoakknkmjnebjaaGreatDoorRows
import GoSem.ClaimSeven
namespace Go.Proofs.YtoakknkmjnebjaaGreatDoor
namespace Rows

/-- THE TIED CARD OF 'dasdlaw59.HistorySwaps'. -/
def historySwapsCard : Claim7 := { stood := { row := historySwapsRow, standIns := [], harness := (true, "df9fbd7182fe0038e49c091bc21ed4e244724516c9de09265a7a5605e54b7a68"), looks := false }, kinds := [], alts := [], laidByText := true, laidKinds := [.data, .data, .data, .data, .widerDeep, .pinned], laidTests := true, laidLooks := .later }
def HistorySwapsCardSaid : Prop := Claim7.holds Tryz.pinned (.plain (OpenSpec.ofChange historySwapsSpec)) historySwapsCard

/-- THE TIED CARD OF 'dasdlaw59.HistoryReads'. -/
def historyReadsCard : Claim7 := { stood := { row := historyReadsRow, standIns := [], harness := (true, "df9fbd7182fe0038e49c091bc21ed4e244724516c9de09265a7a5605e54b7a68"), looks := false }, kinds := [], alts := [], laidByText := true, laidKinds := [.data, .data, .data, .data, .widerDeep, .pinned], laidTests := true, laidLooks := .later }
def HistoryReadsCardSaid : Prop := Claim7.holds Tryz.pinned (.plain (OpenSpec.ofChange historyReadsSpec)) historyReadsCard

/-- THE SECOND FORM's CARD OF 'dasdlaw59.HistorySwaps'. -/
def historySwapsUptoCard : Claim7 := { stood := { row := historySwapsUptoRow, standIns := [], harness := (true, "df9fbd7182fe0038e49c091bc21ed4e244724516c9de09265a7a5605e54b7a68"), looks := false }, kinds := [], alts := [], laidByText := true, laidKinds := [.data, .data, .data, .data, .widerDeep, .pinned], laidTests := true, laidLooks := .later }
def HistorySwapsUptoCardSaid : Prop := Claim7.holds Tryz.pinned (.plain (OpenSpec.upto historySwapsSpec)) historySwapsUptoCard

/-- THE SECOND FORM's CARD OF 'dasdlaw59.HistoryReads'. -/
def historyReadsUptoCard : Claim7 := { stood := { row := historyReadsUptoRow, standIns := [], harness := (true, "df9fbd7182fe0038e49c091bc21ed4e244724516c9de09265a7a5605e54b7a68"), looks := false }, kinds := [], alts := [], laidByText := true, laidKinds := [.data, .data, .data, .data, .widerDeep, .pinned], laidTests := true, laidLooks := .later }
def HistoryReadsUptoCardSaid : Prop := Claim7.holds Tryz.pinned (.plain (OpenSpec.upto historyReadsSpec)) historyReadsUptoCard
end Rows
end Go.Proofs.YtoakknkmjnebjaaGreatDoor
