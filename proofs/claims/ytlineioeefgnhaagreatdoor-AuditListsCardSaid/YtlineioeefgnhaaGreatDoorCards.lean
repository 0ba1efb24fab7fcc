/-
  DERIVED. GIVEN WITH THE SEED: THE CARDS: each row of YtlineioeefgnhaaGreatDoorRows.lean that lists a variable, with what it lists TIED to the program's text (the seventh form; the later family's looks); each row that meets fmt, with fmt's text TOLD by the authors' own Lean function (tested against real Go, not proved from fmt's source: count such statements apart). THE CARD IS WHAT COUNTS. Prove the row's statement (the work); the ties are given (YtlineioeefgnhaaGreatDoorTie.lean); close each card by the builder's one call (the guide's Derived/Test/ToyasCard.lean, 'card_holds'). Laid BY PROGRAM, IN A SANDBOX (cutbox-door.mjs). By AI agents, Wed Nov 11 2026. No macro, syntax, notation, axiom, sorry.
-/
import Derived.Test.YtlineioeefgnhaaGreatDoorRows
import GoSem.ClaimSeven
namespace Go.Proofs.YtlineioeefgnhaaGreatDoor
namespace Rows

/-- THE TIED CARD OF 'recompilelaw45.AuditLists'. -/
def auditListsCard : Claim7 := { stood := { row := auditListsRow, standIns := [], harness := (true, "ee89cfdf609cb1d4e32cb8e52781d634ed2065dd7101b9ce74134f17fc9d3eec"), looks := true }, kinds := [], alts := [], laidByText := true, laidKinds := [.data, .data, .data, .data, .sentinel, .sentinel, .pinned], laidTests := true, laidLooks := .later }
def AuditListsCardSaid : Prop := Claim7.holds Tryz.pinned (.plain (OpenSpec.ofChange auditListsSpec)) auditListsCard

/-- THE SECOND FORM's CARD OF 'recompilelaw45.AuditLists'. -/
def auditListsUptoCard : Claim7 := { stood := { row := auditListsUptoRow, standIns := [], harness := (true, "ee89cfdf609cb1d4e32cb8e52781d634ed2065dd7101b9ce74134f17fc9d3eec"), looks := true }, kinds := [], alts := [], laidByText := true, laidKinds := [.data, .data, .data, .data, .sentinel, .sentinel, .pinned], laidTests := true, laidLooks := .later }
def AuditListsUptoCardSaid : Prop := Claim7.holds Tryz.pinned (.plain (OpenSpec.upto auditListsSpec)) auditListsUptoCard
end Rows
end Go.Proofs.YtlineioeefgnhaaGreatDoor
