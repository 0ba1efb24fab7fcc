/-
  DERIVED. GIVEN WITH THE SEED: THE CARDS: each row of YtgcmaglhocmnlaaGreatDoorRows.lean that lists a variable, with what it lists TIED to the program's text (the seventh form; the later family's looks); each row that meets fmt, with fmt's text TOLD by the authors' own Lean function (tested against real Go, not proved from fmt's source: count such statements apart). THE CARD IS WHAT COUNTS. Prove the row's statement (the work); the ties are given (YtgcmaglhocmnlaaGreatDoorTie.lean); close each card by the builder's one call (the guide's Derived/Test/ToyasCard.lean, 'card_holds'). Laid BY PROGRAM, IN A SANDBOX (cutbox-door.mjs). By AI agents, Wed Nov 11 2026. No macro, syntax, notation, axiom, sorry.
-/
import Derived.Test.YtgcmaglhocmnlaaGreatDoorRows
import GoSem.ClaimSeven
namespace Go.Proofs.YtgcmaglhocmnlaaGreatDoor
namespace Rows

/-- THE TIED CARD OF 'recompilelaw45.AuditWrong'. -/
def auditWrongCard : Claim7 := { stood := { row := auditWrongRow, standIns := [], harness := (true, "b63a0399ccd72cbd6c39aa797fb1fe4f30806da8bc4d2ff29d752721ea4590e9"), looks := true }, kinds := [], alts := [], laidByText := true, laidKinds := [.data, .data, .data, .data, .sentinel, .sentinel, .pinned], laidTests := true, laidLooks := .later }
def AuditWrongCardSaid : Prop := Claim7.holds Tryz.pinned (.plain (OpenSpec.ofChange auditWrongSpec)) auditWrongCard

/-- THE SECOND FORM's CARD OF 'recompilelaw45.AuditWrong'. -/
def auditWrongUptoCard : Claim7 := { stood := { row := auditWrongUptoRow, standIns := [], harness := (true, "b63a0399ccd72cbd6c39aa797fb1fe4f30806da8bc4d2ff29d752721ea4590e9"), looks := true }, kinds := [], alts := [], laidByText := true, laidKinds := [.data, .data, .data, .data, .sentinel, .sentinel, .pinned], laidTests := true, laidLooks := .later }
def AuditWrongUptoCardSaid : Prop := Claim7.holds Tryz.pinned (.plain (OpenSpec.upto auditWrongSpec)) auditWrongUptoCard
end Rows
end Go.Proofs.YtgcmaglhocmnlaaGreatDoor
