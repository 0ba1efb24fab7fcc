/-
  DERIVED. GIVEN WITH THE SEED: THE CARDS: each row of YtfamnpoplgkkcaaGreatDoorRows.lean that lists a variable, with what it lists TIED to the program's text (the seventh form; the later family's looks); each row that meets fmt, with fmt's text TOLD by the authors' own Lean function (tested against real Go, not proved from fmt's source: count such statements apart). THE CARD IS WHAT COUNTS. Prove the row's statement (the work); the ties are given (YtfamnpoplgkkcaaGreatDoorTie.lean); close each card by the builder's one call (the guide's Derived/Test/ToyasCard.lean, 'card_holds'). Laid BY PROGRAM, IN A SANDBOX (cutbox-door.mjs). By AI agents, Wed Nov 11 2026. No macro, syntax, notation, axiom, sorry.
-/
import Derived.Test.YtfamnpoplgkkcaaGreatDoorRows
import GoSem.ClaimSeven
namespace Go.Proofs.YtfamnpoplgkkcaaGreatDoor
namespace Rows

/-- THE TIED CARD OF 'recompilelaw30.EngineRight'. -/
def engineRightCard : Claim7 := { stood := { row := engineRightRow, standIns := [], harness := (true, "0cd1527cbfc57c596f6a40b3c7ec4f1b3a61472b3f449b50d132227065dd36a8"), looks := true }, kinds := [], alts := [], laidByText := true, laidKinds := [.data, .data, .data, .data, .sentinel, .sentinel, .pinned], laidTests := true, laidLooks := .later }
def EngineRightCardSaid : Prop := Claim7.holds Tryz.pinned (.plain (OpenSpec.ofChange engineRightSpec)) engineRightCard

/-- THE TIED CARD OF 'recompilelaw30.EngineStops'. -/
def engineStopsCard : Claim7 := { stood := { row := engineStopsRow, standIns := [], harness := (true, "0cd1527cbfc57c596f6a40b3c7ec4f1b3a61472b3f449b50d132227065dd36a8"), looks := true }, kinds := [], alts := [], laidByText := true, laidKinds := [.data, .data, .data, .data, .sentinel, .sentinel, .pinned], laidTests := true, laidLooks := .later }
def EngineStopsCardSaid : Prop := Claim7.holds Tryz.pinned (.plain (OpenSpec.ofChange engineStopsSpec)) engineStopsCard

/-- THE TIED CARD OF 'recompilelaw30.EngineBack'. -/
def engineBackCard : Claim7 := { stood := { row := engineBackRow, standIns := [], harness := (true, "0cd1527cbfc57c596f6a40b3c7ec4f1b3a61472b3f449b50d132227065dd36a8"), looks := true }, kinds := [], alts := [], laidByText := true, laidKinds := [.data, .data, .data, .data, .sentinel, .sentinel, .pinned], laidTests := true, laidLooks := .later }
def EngineBackCardSaid : Prop := Claim7.holds Tryz.pinned (.plain (OpenSpec.ofChange engineBackSpec)) engineBackCard

/-- THE SECOND FORM's CARD OF 'recompilelaw30.EngineRight'. -/
def engineRightUptoCard : Claim7 := { stood := { row := engineRightUptoRow, standIns := [], harness := (true, "0cd1527cbfc57c596f6a40b3c7ec4f1b3a61472b3f449b50d132227065dd36a8"), looks := true }, kinds := [], alts := [], laidByText := true, laidKinds := [.data, .data, .data, .data, .sentinel, .sentinel, .pinned], laidTests := true, laidLooks := .later }
def EngineRightUptoCardSaid : Prop := Claim7.holds Tryz.pinned (.plain (OpenSpec.upto engineRightSpec)) engineRightUptoCard

/-- THE SECOND FORM's CARD OF 'recompilelaw30.EngineStops'. -/
def engineStopsUptoCard : Claim7 := { stood := { row := engineStopsUptoRow, standIns := [], harness := (true, "0cd1527cbfc57c596f6a40b3c7ec4f1b3a61472b3f449b50d132227065dd36a8"), looks := true }, kinds := [], alts := [], laidByText := true, laidKinds := [.data, .data, .data, .data, .sentinel, .sentinel, .pinned], laidTests := true, laidLooks := .later }
def EngineStopsUptoCardSaid : Prop := Claim7.holds Tryz.pinned (.plain (OpenSpec.upto engineStopsSpec)) engineStopsUptoCard

/-- THE SECOND FORM's CARD OF 'recompilelaw30.EngineBack'. -/
def engineBackUptoCard : Claim7 := { stood := { row := engineBackUptoRow, standIns := [], harness := (true, "0cd1527cbfc57c596f6a40b3c7ec4f1b3a61472b3f449b50d132227065dd36a8"), looks := true }, kinds := [], alts := [], laidByText := true, laidKinds := [.data, .data, .data, .data, .sentinel, .sentinel, .pinned], laidTests := true, laidLooks := .later }
def EngineBackUptoCardSaid : Prop := Claim7.holds Tryz.pinned (.plain (OpenSpec.upto engineBackSpec)) engineBackUptoCard
end Rows
end Go.Proofs.YtfamnpoplgkkcaaGreatDoor
