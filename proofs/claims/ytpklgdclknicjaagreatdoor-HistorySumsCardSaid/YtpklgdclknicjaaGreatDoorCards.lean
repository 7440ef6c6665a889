/-
  DERIVED. GIVEN WITH THE SEED: THE CARDS: each row of YtpklgdclknicjaaGreatDoorRows.lean that lists a variable, with what it lists TIED to the program's text (the seventh form; the later family's looks); each row that meets fmt, with fmt's text TOLD by the authors' own Lean function (tested against real Go, not proved from fmt's source: count such statements apart). THE CARD IS WHAT COUNTS. Prove the row's statement (the work); the ties are given (YtpklgdclknicjaaGreatDoorTie.lean); close each card by the builder's one call (the guide's Derived/Test/ToyasCard.lean, 'card_holds'). Laid BY PROGRAM, IN A SANDBOX (cutbox-door.mjs). By AI agents, Wed Nov 11 2026. No macro, syntax, notation, axiom, sorry.
-/
import Derived.Test.YtpklgdclknicjaaGreatDoorRows
import GoSem.ClaimSeven
namespace Go.Proofs.YtpklgdclknicjaaGreatDoor
namespace Rows

/-- THE TIED CARD OF 'dasdlaw59.HistorySums'. -/
def historySumsCard : Claim7 := { stood := { row := historySumsRow, standIns := [], harness := (true, "75ce09e1382dc91fbe0ba9d563903880230065e8fcc562b3dace750fca282567"), looks := false }, kinds := [], alts := [], laidByText := true, laidKinds := [.data, .data, .data, .data, .widerDeep, .pinned], laidTests := true, laidLooks := .later }
def HistorySumsCardSaid : Prop := Claim7.holds Tryz.pinned (.plain (OpenSpec.ofChange historySumsSpec)) historySumsCard

/-- THE SECOND FORM's CARD OF 'dasdlaw59.HistorySums'. -/
def historySumsUptoCard : Claim7 := { stood := { row := historySumsUptoRow, standIns := [], harness := (true, "75ce09e1382dc91fbe0ba9d563903880230065e8fcc562b3dace750fca282567"), looks := false }, kinds := [], alts := [], laidByText := true, laidKinds := [.data, .data, .data, .data, .widerDeep, .pinned], laidTests := true, laidLooks := .later }
def HistorySumsUptoCardSaid : Prop := Claim7.holds Tryz.pinned (.plain (OpenSpec.upto historySumsSpec)) historySumsUptoCard
end Rows
end Go.Proofs.YtpklgdclknicjaaGreatDoor
