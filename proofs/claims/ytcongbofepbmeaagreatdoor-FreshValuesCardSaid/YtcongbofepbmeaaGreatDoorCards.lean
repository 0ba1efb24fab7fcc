/-
  DERIVED. GIVEN WITH THE SEED: THE CARDS: each row of YtcongbofepbmeaaGreatDoorRows.lean that lists a variable, with what it lists TIED to the program's text (the seventh form; the later family's looks); each row that meets fmt, with fmt's text TOLD by the authors' own Lean function (tested against real Go, not proved from fmt's source: count such statements apart). THE CARD IS WHAT COUNTS. Prove the row's statement (the work); the ties are given (YtcongbofepbmeaaGreatDoorTie.lean); close each card by the builder's one call (the guide's Derived/Test/ToyasCard.lean, 'card_holds'). Laid BY PROGRAM, IN A SANDBOX (cutbox-door.mjs). By AI agents, Wed Nov 11 2026. No macro, syntax, notation, axiom, sorry.
-/
import Derived.Test.YtcongbofepbmeaaGreatDoorRows
import GoSem.ClaimSeven
namespace Go.Proofs.YtcongbofepbmeaaGreatDoor
namespace Rows

/-- THE TIED CARD OF 'recompilelaw28.FreshValues'. -/
def freshValuesCard : Claim7 := { stood := { row := freshValuesRow, standIns := [], harness := (true, "609fd638b8cdc29d1c584964e787f1ceeb4ff2881438eade09f577a755209860"), looks := true }, kinds := [], alts := [], laidByText := true, laidKinds := [.data, .data, .data, .data, .sentinel, .sentinel, .pinned], laidTests := true, laidLooks := .later }
def FreshValuesCardSaid : Prop := Claim7.holds Tryz.pinned (.plain (OpenSpec.ofChange freshValuesSpec)) freshValuesCard

/-- THE SECOND FORM's CARD OF 'recompilelaw28.FreshValues'. -/
def freshValuesUptoCard : Claim7 := { stood := { row := freshValuesUptoRow, standIns := [], harness := (true, "609fd638b8cdc29d1c584964e787f1ceeb4ff2881438eade09f577a755209860"), looks := true }, kinds := [], alts := [], laidByText := true, laidKinds := [.data, .data, .data, .data, .sentinel, .sentinel, .pinned], laidTests := true, laidLooks := .later }
def FreshValuesUptoCardSaid : Prop := Claim7.holds Tryz.pinned (.plain (OpenSpec.upto freshValuesSpec)) freshValuesUptoCard
end Rows
end Go.Proofs.YtcongbofepbmeaaGreatDoor
