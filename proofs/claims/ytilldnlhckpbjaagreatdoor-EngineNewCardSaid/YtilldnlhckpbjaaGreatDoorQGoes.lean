/- The call starts no goroutine; some type is asked for. Conditions: none. -/
import Derived.Test.YtilldnlhckpbjaaGreatDoorCards
import Derived.Test.YtilldnlhckpbjaaGreatDoorQReach
namespace Go.Proofs.YtilldnlhckpbjaaGreatDoor
open Go
set_option linter.all false
set_option maxRecDepth 1000000
theorem HJ : Tryz.prog.goes 3 = false := by
  unfold Program.goes
  rw [vh, ji, ← Array.any_toList]
  simp only [oy]
  kernel_rfl
theorem Cw : Rows.engineNewRow.goesBy Tryz.prog = false := by
  unfold OpenClaim.goesBy Program.goesAt Program.goesFrom
  rw [show Rows.engineNewRow.func = "recompile/recompilelaw30.EngineNew" from rfl, rz]
  rw [Option.any_some, HJ]
  rfl
theorem ET : Tryz.prog.looks [] = true := by
  unfold Program.looks
  refine List.any_eq_true.2 ⟨198, List.mem_range.2 (zW ▸ by decide), ?_⟩
  simp only [oy]
  kernel_rfl
end Go.Proofs.YtilldnlhckpbjaaGreatDoor
