/-
  DERIVED. GIVEN WITH THE SEED: THE CARDS: each row of YtphpkmjobhohfaaGreatDoorRows.lean that lists a variable, with what it lists TIED to the program's text (the seventh form; the later family's looks); each row that meets fmt, with fmt's text TOLD by the authors' own Lean function (tested against real Go, not proved from fmt's source: count such statements apart). THE CARD IS WHAT COUNTS. Prove the row's statement (the work); the ties are given (YtphpkmjobhohfaaGreatDoorTie.lean); close each card by the builder's one call (the guide's Derived/Test/ToyasCard.lean, 'card_holds'). Laid BY PROGRAM, IN A SANDBOX (cutbox-door.mjs). By AI agents, Wed Nov 11 2026. No macro, syntax, notation, axiom, sorry.
-/
import Derived.Test.YtphpkmjobhohfaaGreatDoorRows
import GoSem.ClaimSeven
namespace Go.Proofs.YtphpkmjobhohfaaGreatDoor
namespace Rows

/-- THE TIED CARD OF 'dasdlaw56.AuditText'. -/
def auditTextCard : Claim7 := { stood := { row := auditTextRow, standIns := [], harness := (true, "ff37f59801faa2b6fb3f303013df6702a7ee196d8e9e947d86bf1e566bedcc84"), looks := false }, kinds := [], alts := [], laidByText := true, laidKinds := [.data, .data, .data], laidTests := true, laidLooks := .later }
def AuditTextCardSaid : Prop := Claim7.holds Tryz.pinned (.plain (OpenSpec.ofChange auditTextSpec)) auditTextCard

/-- THE SECOND FORM's CARD OF 'dasdlaw56.AuditText'. -/
def auditTextUptoCard : Claim7 := { stood := { row := auditTextUptoRow, standIns := [], harness := (true, "ff37f59801faa2b6fb3f303013df6702a7ee196d8e9e947d86bf1e566bedcc84"), looks := false }, kinds := [], alts := [], laidByText := true, laidKinds := [.data, .data, .data], laidTests := true, laidLooks := .later }
def AuditTextUptoCardSaid : Prop := Claim7.holds Tryz.pinned (.plain (OpenSpec.upto auditTextSpec)) auditTextUptoCard
end Rows
end Go.Proofs.YtphpkmjobhohfaaGreatDoor
