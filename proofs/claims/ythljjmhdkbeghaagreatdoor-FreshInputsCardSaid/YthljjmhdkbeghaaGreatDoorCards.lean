/-
  DERIVED. GIVEN WITH THE SEED: THE CARDS: each row of YthljjmhdkbeghaaGreatDoorRows.lean that lists a variable, with what it lists TIED to the program's text (the seventh form; the later family's looks); each row that meets fmt, with fmt's text TOLD by the authors' own Lean function (tested against real Go, not proved from fmt's source: count such statements apart). THE CARD IS WHAT COUNTS. Prove the row's statement (the work); the ties are given (YthljjmhdkbeghaaGreatDoorTie.lean); close each card by the builder's one call (the guide's Derived/Test/ToyasCard.lean, 'card_holds'). Laid BY PROGRAM, IN A SANDBOX (cutbox-door.mjs). By AI agents, Wed Nov 11 2026. No macro, syntax, notation, axiom, sorry.
-/
import Derived.Test.YthljjmhdkbeghaaGreatDoorRows
import GoSem.ClaimSeven
namespace Go.Proofs.YthljjmhdkbeghaaGreatDoor
namespace Rows

/-- THE TIED CARD OF 'recompilelaw28.FreshInputs'. -/
def freshInputsCard : Claim7 := { stood := { row := freshInputsRow, standIns := [], harness := (true, "b117244caac12bbe72b6c5903168aa3fc4a42a695550eda3a7233596b973e208"), looks := true }, kinds := [], alts := [], laidByText := true, laidKinds := [.data, .data, .data, .data, .sentinel, .sentinel, .pinned], laidTests := true, laidLooks := .later }
def FreshInputsCardSaid : Prop := Claim7.holds Tryz.pinned (.plain (OpenSpec.ofChange freshInputsSpec)) freshInputsCard

/-- THE TIED CARD OF 'recompilelaw28.FreshLeast'. -/
def freshLeastCard : Claim7 := { stood := { row := freshLeastRow, standIns := [], harness := (true, "b117244caac12bbe72b6c5903168aa3fc4a42a695550eda3a7233596b973e208"), looks := true }, kinds := [], alts := [], laidByText := true, laidKinds := [.data, .data, .data, .data, .sentinel, .sentinel, .pinned], laidTests := true, laidLooks := .later }
def FreshLeastCardSaid : Prop := Claim7.holds Tryz.pinned (.plain (OpenSpec.ofChange freshLeastSpec)) freshLeastCard

/-- THE TIED CARD OF 'recompilelaw28.FreshRules'. -/
def freshRulesCard : Claim7 := { stood := { row := freshRulesRow, standIns := [], harness := (true, "b117244caac12bbe72b6c5903168aa3fc4a42a695550eda3a7233596b973e208"), looks := true }, kinds := [], alts := [], laidByText := true, laidKinds := [.data, .data, .data, .data, .sentinel, .sentinel, .pinned], laidTests := true, laidLooks := .later }
def FreshRulesCardSaid : Prop := Claim7.holds Tryz.pinned (.plain (OpenSpec.ofChange freshRulesSpec)) freshRulesCard

/-- THE TIED CARD OF 'recompilelaw28.FreshBelow'. -/
def freshBelowCard : Claim7 := { stood := { row := freshBelowRow, standIns := [], harness := (true, "b117244caac12bbe72b6c5903168aa3fc4a42a695550eda3a7233596b973e208"), looks := true }, kinds := [], alts := [], laidByText := true, laidKinds := [.data, .data, .data, .data, .sentinel, .sentinel, .pinned], laidTests := true, laidLooks := .later }
def FreshBelowCardSaid : Prop := Claim7.holds Tryz.pinned (.plain (OpenSpec.ofChange freshBelowSpec)) freshBelowCard

/-- THE SECOND FORM's CARD OF 'recompilelaw28.FreshInputs'. -/
def freshInputsUptoCard : Claim7 := { stood := { row := freshInputsUptoRow, standIns := [], harness := (true, "b117244caac12bbe72b6c5903168aa3fc4a42a695550eda3a7233596b973e208"), looks := true }, kinds := [], alts := [], laidByText := true, laidKinds := [.data, .data, .data, .data, .sentinel, .sentinel, .pinned], laidTests := true, laidLooks := .later }
def FreshInputsUptoCardSaid : Prop := Claim7.holds Tryz.pinned (.plain (OpenSpec.upto freshInputsSpec)) freshInputsUptoCard

/-- THE SECOND FORM's CARD OF 'recompilelaw28.FreshLeast'. -/
def freshLeastUptoCard : Claim7 := { stood := { row := freshLeastUptoRow, standIns := [], harness := (true, "b117244caac12bbe72b6c5903168aa3fc4a42a695550eda3a7233596b973e208"), looks := true }, kinds := [], alts := [], laidByText := true, laidKinds := [.data, .data, .data, .data, .sentinel, .sentinel, .pinned], laidTests := true, laidLooks := .later }
def FreshLeastUptoCardSaid : Prop := Claim7.holds Tryz.pinned (.plain (OpenSpec.upto freshLeastSpec)) freshLeastUptoCard

/-- THE SECOND FORM's CARD OF 'recompilelaw28.FreshRules'. -/
def freshRulesUptoCard : Claim7 := { stood := { row := freshRulesUptoRow, standIns := [], harness := (true, "b117244caac12bbe72b6c5903168aa3fc4a42a695550eda3a7233596b973e208"), looks := true }, kinds := [], alts := [], laidByText := true, laidKinds := [.data, .data, .data, .data, .sentinel, .sentinel, .pinned], laidTests := true, laidLooks := .later }
def FreshRulesUptoCardSaid : Prop := Claim7.holds Tryz.pinned (.plain (OpenSpec.upto freshRulesSpec)) freshRulesUptoCard

/-- THE SECOND FORM's CARD OF 'recompilelaw28.FreshBelow'. -/
def freshBelowUptoCard : Claim7 := { stood := { row := freshBelowUptoRow, standIns := [], harness := (true, "b117244caac12bbe72b6c5903168aa3fc4a42a695550eda3a7233596b973e208"), looks := true }, kinds := [], alts := [], laidByText := true, laidKinds := [.data, .data, .data, .data, .sentinel, .sentinel, .pinned], laidTests := true, laidLooks := .later }
def FreshBelowUptoCardSaid : Prop := Claim7.holds Tryz.pinned (.plain (OpenSpec.upto freshBelowSpec)) freshBelowUptoCard
end Rows
end Go.Proofs.YthljjmhdkbeghaaGreatDoor
