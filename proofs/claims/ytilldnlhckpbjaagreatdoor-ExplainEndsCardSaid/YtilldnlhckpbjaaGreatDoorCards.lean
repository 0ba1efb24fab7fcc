/-
  DERIVED. GIVEN WITH THE SEED: THE CARDS: each row of YtilldnlhckpbjaaGreatDoorRows.lean that lists a variable, with what it lists TIED to the program's text (the seventh form; the later family's looks); each row that meets fmt, with fmt's text TOLD by the authors' own Lean function (tested against real Go, not proved from fmt's source: count such statements apart). THE CARD IS WHAT COUNTS. Prove the row's statement (the work); the ties are given (YtilldnlhckpbjaaGreatDoorTie.lean); close each card by the builder's one call (the guide's Derived/Test/ToyasCard.lean, 'card_holds'). Laid BY PROGRAM, IN A SANDBOX (cutbox-door.mjs). By AI agents, Wed Nov 11 2026. No macro, syntax, notation, axiom, sorry.
-/
import Derived.Test.YtilldnlhckpbjaaGreatDoorRows
import GoSem.ClaimSeven
namespace Go.Proofs.YtilldnlhckpbjaaGreatDoor
namespace Rows

/-- THE TIED CARD OF 'recompilelaw30.EngineNew'. -/
def engineNewCard : Claim7 := { stood := { row := engineNewRow, standIns := [], harness := (true, "e9ec18fc98cd35cf63f0d11710a28f51e2aeb99849eb99ea6ab7da6434b73765"), looks := true }, kinds := [], alts := [], laidByText := true, laidKinds := [.data, .data, .data, .data, .sentinel, .sentinel, .pinned], laidTests := true, laidLooks := .later }
def EngineNewCardSaid : Prop := Claim7.holds Tryz.pinned (.plain (OpenSpec.ofChange engineNewSpec)) engineNewCard

/-- THE TIED CARD OF 'recompilelaw41.ExplainEnds'. -/
def explainEndsCard : Claim7 := { stood := { row := explainEndsRow, standIns := [], harness := (true, "e9ec18fc98cd35cf63f0d11710a28f51e2aeb99849eb99ea6ab7da6434b73765"), looks := true }, kinds := [], alts := [], laidByText := true, laidKinds := [.data, .data, .data, .data, .sentinel, .sentinel, .pinned], laidTests := true, laidLooks := .later }
def ExplainEndsCardSaid : Prop := Claim7.holds Tryz.pinned (.plain (OpenSpec.ofChange explainEndsSpec)) explainEndsCard

/-- THE SECOND FORM's CARD OF 'recompilelaw30.EngineNew'. -/
def engineNewUptoCard : Claim7 := { stood := { row := engineNewUptoRow, standIns := [], harness := (true, "e9ec18fc98cd35cf63f0d11710a28f51e2aeb99849eb99ea6ab7da6434b73765"), looks := true }, kinds := [], alts := [], laidByText := true, laidKinds := [.data, .data, .data, .data, .sentinel, .sentinel, .pinned], laidTests := true, laidLooks := .later }
def EngineNewUptoCardSaid : Prop := Claim7.holds Tryz.pinned (.plain (OpenSpec.upto engineNewSpec)) engineNewUptoCard

/-- THE SECOND FORM's CARD OF 'recompilelaw41.ExplainEnds'. -/
def explainEndsUptoCard : Claim7 := { stood := { row := explainEndsUptoRow, standIns := [], harness := (true, "e9ec18fc98cd35cf63f0d11710a28f51e2aeb99849eb99ea6ab7da6434b73765"), looks := true }, kinds := [], alts := [], laidByText := true, laidKinds := [.data, .data, .data, .data, .sentinel, .sentinel, .pinned], laidTests := true, laidLooks := .later }
def ExplainEndsUptoCardSaid : Prop := Claim7.holds Tryz.pinned (.plain (OpenSpec.upto explainEndsSpec)) explainEndsUptoCard
end Rows
end Go.Proofs.YtilldnlhckpbjaaGreatDoor
