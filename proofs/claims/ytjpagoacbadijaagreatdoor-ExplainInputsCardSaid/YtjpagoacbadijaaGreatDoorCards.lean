/-
  DERIVED. GIVEN WITH THE SEED: THE CARDS: each row of YtjpagoacbadijaaGreatDoorRows.lean that lists a variable, with what it lists TIED to the program's text (the seventh form; the later family's looks); each row that meets fmt, with fmt's text TOLD by the authors' own Lean function (tested against real Go, not proved from fmt's source: count such statements apart). THE CARD IS WHAT COUNTS. Prove the row's statement (the work); the ties are given (YtjpagoacbadijaaGreatDoorTie.lean); close each card by the builder's one call (the guide's Derived/Test/ToyasCard.lean, 'card_holds'). Laid BY PROGRAM, IN A SANDBOX (cutbox-door.mjs). By AI agents, Wed Nov 11 2026. No macro, syntax, notation, axiom, sorry.
-/
import Derived.Test.YtjpagoacbadijaaGreatDoorRows
import GoSem.ClaimSeven
namespace Go.Proofs.YtjpagoacbadijaaGreatDoor
namespace Rows

/-- THE TIED CARD OF 'recompilelaw41.ExplainRuns'. -/
def explainRunsCard : Claim7 := { stood := { row := explainRunsRow, standIns := [], harness := (true, "8c1cd16eb08857fcb245d2e8549ba0b13d3c75f402574bc64b80b57993279c32"), looks := true }, kinds := [], alts := [], laidByText := true, laidKinds := [.data, .data, .data, .data, .sentinel, .sentinel, .pinned], laidTests := true, laidLooks := .later }
def ExplainRunsCardSaid : Prop := Claim7.holds Tryz.pinned (.plain (OpenSpec.ofChange explainRunsSpec)) explainRunsCard

/-- THE TIED CARD OF 'recompilelaw41.ExplainNone'. -/
def explainNoneCard : Claim7 := { stood := { row := explainNoneRow, standIns := [], harness := (true, "8c1cd16eb08857fcb245d2e8549ba0b13d3c75f402574bc64b80b57993279c32"), looks := true }, kinds := [], alts := [], laidByText := true, laidKinds := [.data, .data, .data, .data, .sentinel, .sentinel, .pinned], laidTests := true, laidLooks := .later }
def ExplainNoneCardSaid : Prop := Claim7.holds Tryz.pinned (.plain (OpenSpec.ofChange explainNoneSpec)) explainNoneCard

/-- THE TIED CARD OF 'recompilelaw41.ExplainInputs'. -/
def explainInputsCard : Claim7 := { stood := { row := explainInputsRow, standIns := [], harness := (true, "8c1cd16eb08857fcb245d2e8549ba0b13d3c75f402574bc64b80b57993279c32"), looks := true }, kinds := [], alts := [], laidByText := true, laidKinds := [.data, .data, .data, .data, .sentinel, .sentinel, .pinned], laidTests := true, laidLooks := .later }
def ExplainInputsCardSaid : Prop := Claim7.holds Tryz.pinned (.plain (OpenSpec.ofChange explainInputsSpec)) explainInputsCard

/-- THE SECOND FORM's CARD OF 'recompilelaw41.ExplainRuns'. -/
def explainRunsUptoCard : Claim7 := { stood := { row := explainRunsUptoRow, standIns := [], harness := (true, "8c1cd16eb08857fcb245d2e8549ba0b13d3c75f402574bc64b80b57993279c32"), looks := true }, kinds := [], alts := [], laidByText := true, laidKinds := [.data, .data, .data, .data, .sentinel, .sentinel, .pinned], laidTests := true, laidLooks := .later }
def ExplainRunsUptoCardSaid : Prop := Claim7.holds Tryz.pinned (.plain (OpenSpec.upto explainRunsSpec)) explainRunsUptoCard

/-- THE SECOND FORM's CARD OF 'recompilelaw41.ExplainNone'. -/
def explainNoneUptoCard : Claim7 := { stood := { row := explainNoneUptoRow, standIns := [], harness := (true, "8c1cd16eb08857fcb245d2e8549ba0b13d3c75f402574bc64b80b57993279c32"), looks := true }, kinds := [], alts := [], laidByText := true, laidKinds := [.data, .data, .data, .data, .sentinel, .sentinel, .pinned], laidTests := true, laidLooks := .later }
def ExplainNoneUptoCardSaid : Prop := Claim7.holds Tryz.pinned (.plain (OpenSpec.upto explainNoneSpec)) explainNoneUptoCard

/-- THE SECOND FORM's CARD OF 'recompilelaw41.ExplainInputs'. -/
def explainInputsUptoCard : Claim7 := { stood := { row := explainInputsUptoRow, standIns := [], harness := (true, "8c1cd16eb08857fcb245d2e8549ba0b13d3c75f402574bc64b80b57993279c32"), looks := true }, kinds := [], alts := [], laidByText := true, laidKinds := [.data, .data, .data, .data, .sentinel, .sentinel, .pinned], laidTests := true, laidLooks := .later }
def ExplainInputsUptoCardSaid : Prop := Claim7.holds Tryz.pinned (.plain (OpenSpec.upto explainInputsSpec)) explainInputsUptoCard
end Rows
end Go.Proofs.YtjpagoacbadijaaGreatDoor
