/- The call starts no goroutine; some type is asked for. Conditions: none. -/
import Derived.Test.YthljjmhdkbeghaaGreatDoorCards
import Derived.Test.YthljjmhdkbeghaaGreatDoorIReach
namespace Go.Proofs.YthljjmhdkbeghaaGreatDoor
open Go
set_option linter.unusedVariables false
set_option maxRecDepth 1000000
theorem goes_eq : Tryz.prog.goes 3 = false := by
  unfold Program.goes
  rw [clo_eq, unfollowed_eq, ← Array.any_toList]
  simp only [picked]
  kernel_rfl
theorem goesBy_eq : Rows.freshInputsRow.goesBy Tryz.prog = false := by
  unfold OpenClaim.goesBy Program.goesAt Program.goesFrom
  rw [show Rows.freshInputsRow.func = "recompile/recompilelaw28.FreshInputs" from rfl, lawNamed]
  rw [Option.any_some, goes_eq]
  rfl
theorem looks_eq : Tryz.prog.looks [] = true := by
  unfold Program.looks
  refine List.any_eq_true.2 ⟨166, List.mem_range.2 (nFuncs ▸ by decide), ?_⟩
  simp only [picked]
  kernel_rfl
end Go.Proofs.YthljjmhdkbeghaaGreatDoor
