/- The call starts no goroutine; some type is asked for. Conditions: none. -/
import Derived.Test.YtilldnlhckpbjaaGreatDoorCards
import Derived.Test.YtilldnlhckpbjaaGreatDoorEReach
namespace Go.Proofs.YtilldnlhckpbjaaGreatDoor
open Go
set_option linter.all false
set_option maxRecDepth 1000000
theorem Ie : Tryz.prog.goes 4 = false := by
  unfold Program.goes
  rw [vG, jn, ← Array.any_toList]
  simp only [oR]
  kernel_rfl
theorem C2 : Rows.explainEndsRow.goesBy Tryz.prog = false := by
  unfold OpenClaim.goesBy Program.goesAt Program.goesFrom
  rw [show Rows.explainEndsRow.func = "recompile/recompilelaw41.ExplainEnds" from rfl, rW]
  rw [Option.any_some, Ie]
  rfl
theorem Ft : Tryz.prog.looks [] = true := by
  unfold Program.looks
  refine List.any_eq_true.2 ⟨198, List.mem_range.2 (Al ▸ by decide), ?_⟩
  simp only [oR]
  kernel_rfl
end Go.Proofs.YtilldnlhckpbjaaGreatDoor
