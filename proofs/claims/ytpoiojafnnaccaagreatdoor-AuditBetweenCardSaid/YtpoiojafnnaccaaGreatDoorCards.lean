/-
  DERIVED. GIVEN WITH THE SEED: THE CARDS: each row of YtpoiojafnnaccaaGreatDoorRows.lean that lists a variable, with what it lists TIED to the program's text (the seventh form; the later family's looks); each row that meets fmt, with fmt's text TOLD by the authors' own Lean function (tested against real Go, not proved from fmt's source: count such statements apart). THE CARD IS WHAT COUNTS. Prove the row's statement (the work); the ties are given (YtpoiojafnnaccaaGreatDoorTie.lean); close each card by the builder's one call (the guide's Derived/Test/ToyasCard.lean, 'card_holds'). Laid BY PROGRAM, IN A SANDBOX (cutbox-door.mjs). By AI agents, Wed Nov 11 2026. No macro, syntax, notation, axiom, sorry.
-/
import Derived.Test.YtpoiojafnnaccaaGreatDoorRows
import GoSem.ClaimSeven
namespace Go.Proofs.YtpoiojafnnaccaaGreatDoor
namespace Rows

/-- THE TIED CARD OF 'recompilelaw45.AuditTheorem'. -/
def auditTheoremCard : Claim7 := { stood := { row := auditTheoremRow, standIns := [], harness := (true, "06280254396febd23b788e9c023ea4df7cb43763645703941323cbc94178394d"), looks := true }, kinds := [], alts := [], laidByText := true, laidKinds := [.data, .data, .data, .data, .sentinel, .sentinel, .pinned], laidTests := true, laidLooks := .later }
def AuditTheoremCardSaid : Prop := Claim7.holds Tryz.pinned (.plain (OpenSpec.ofChange auditTheoremSpec)) auditTheoremCard

/-- THE TIED CARD OF 'recompilelaw45.AuditBetween'. -/
def auditBetweenCard : Claim7 := { stood := { row := auditBetweenRow, standIns := [], harness := (true, "06280254396febd23b788e9c023ea4df7cb43763645703941323cbc94178394d"), looks := true }, kinds := [], alts := [], laidByText := true, laidKinds := [.data, .data, .data, .data, .sentinel, .sentinel, .pinned], laidTests := true, laidLooks := .later }
def AuditBetweenCardSaid : Prop := Claim7.holds Tryz.pinned (.plain (OpenSpec.ofChange auditBetweenSpec)) auditBetweenCard

/-- THE SECOND FORM's CARD OF 'recompilelaw45.AuditTheorem'. -/
def auditTheoremUptoCard : Claim7 := { stood := { row := auditTheoremUptoRow, standIns := [], harness := (true, "06280254396febd23b788e9c023ea4df7cb43763645703941323cbc94178394d"), looks := true }, kinds := [], alts := [], laidByText := true, laidKinds := [.data, .data, .data, .data, .sentinel, .sentinel, .pinned], laidTests := true, laidLooks := .later }
def AuditTheoremUptoCardSaid : Prop := Claim7.holds Tryz.pinned (.plain (OpenSpec.upto auditTheoremSpec)) auditTheoremUptoCard

/-- THE SECOND FORM's CARD OF 'recompilelaw45.AuditBetween'. -/
def auditBetweenUptoCard : Claim7 := { stood := { row := auditBetweenUptoRow, standIns := [], harness := (true, "06280254396febd23b788e9c023ea4df7cb43763645703941323cbc94178394d"), looks := true }, kinds := [], alts := [], laidByText := true, laidKinds := [.data, .data, .data, .data, .sentinel, .sentinel, .pinned], laidTests := true, laidLooks := .later }
def AuditBetweenUptoCardSaid : Prop := Claim7.holds Tryz.pinned (.plain (OpenSpec.upto auditBetweenSpec)) auditBetweenUptoCard
end Rows
end Go.Proofs.YtpoiojafnnaccaaGreatDoor
