/-
  DERIVED. GIVEN WITH THE SEED: THE CARDS: each row of YtmpkegmkoclbhaaGreatDoorRows.lean that lists a variable, with what it lists TIED to the program's text (the seventh form; the later family's looks); each row that meets fmt, with fmt's text TOLD by the authors' own Lean function (tested against real Go, not proved from fmt's source: count such statements apart). THE CARD IS WHAT COUNTS. Prove the row's statement (the work); the ties are given (YtmpkegmkoclbhaaGreatDoorTie.lean); close each card by the builder's one call (the guide's Derived/Test/ToyasCard.lean, 'card_holds'). Laid BY PROGRAM, IN A SANDBOX (cutbox-door.mjs). By AI agents, Wed Nov 11 2026. No macro, syntax, notation, axiom, sorry.
-/
import Derived.Test.YtmpkegmkoclbhaaGreatDoorRows
import GoSem.ClaimSeven
namespace Go.Proofs.YtmpkegmkoclbhaaGreatDoor
namespace Rows

/-- THE TIED CARD OF 'recompilelaw30.EngineMore'. -/
def engineMoreCard : Claim7 := { stood := { row := engineMoreRow, standIns := [], harness := (true, "fdd5766370f92f4577922f243d2a6db127859b39384bcde46631fdf8310d4985"), looks := true }, kinds := [], alts := [], laidByText := true, laidKinds := [.data, .data, .data, .data, .sentinel, .sentinel, .pinned], laidTests := true, laidLooks := .later }
def EngineMoreCardSaid : Prop := Claim7.holds Tryz.pinned (.plain (OpenSpec.ofChange engineMoreSpec)) engineMoreCard

/-- THE TIED CARD OF 'recompilelaw30.EngineOrder'. -/
def engineOrderCard : Claim7 := { stood := { row := engineOrderRow, standIns := [], harness := (true, "fdd5766370f92f4577922f243d2a6db127859b39384bcde46631fdf8310d4985"), looks := true }, kinds := [], alts := [], laidByText := true, laidKinds := [.data, .data, .data, .data, .sentinel, .sentinel, .pinned], laidTests := true, laidLooks := .later }
def EngineOrderCardSaid : Prop := Claim7.holds Tryz.pinned (.plain (OpenSpec.ofChange engineOrderSpec)) engineOrderCard

/-- THE SECOND FORM's CARD OF 'recompilelaw30.EngineMore'. -/
def engineMoreUptoCard : Claim7 := { stood := { row := engineMoreUptoRow, standIns := [], harness := (true, "fdd5766370f92f4577922f243d2a6db127859b39384bcde46631fdf8310d4985"), looks := true }, kinds := [], alts := [], laidByText := true, laidKinds := [.data, .data, .data, .data, .sentinel, .sentinel, .pinned], laidTests := true, laidLooks := .later }
def EngineMoreUptoCardSaid : Prop := Claim7.holds Tryz.pinned (.plain (OpenSpec.upto engineMoreSpec)) engineMoreUptoCard

/-- THE SECOND FORM's CARD OF 'recompilelaw30.EngineOrder'. -/
def engineOrderUptoCard : Claim7 := { stood := { row := engineOrderUptoRow, standIns := [], harness := (true, "fdd5766370f92f4577922f243d2a6db127859b39384bcde46631fdf8310d4985"), looks := true }, kinds := [], alts := [], laidByText := true, laidKinds := [.data, .data, .data, .data, .sentinel, .sentinel, .pinned], laidTests := true, laidLooks := .later }
def EngineOrderUptoCardSaid : Prop := Claim7.holds Tryz.pinned (.plain (OpenSpec.upto engineOrderSpec)) engineOrderUptoCard
end Rows
end Go.Proofs.YtmpkegmkoclbhaaGreatDoor
