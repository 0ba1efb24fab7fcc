/- The call starts no goroutine; some type is asked for. Conditions: none. -/
import Derived.Test.YtjpagoacbadijaaGreatDoorCards
import Derived.Test.YtjpagoacbadijaaGreatDoorVReach
namespace Go.Proofs.YtjpagoacbadijaaGreatDoor
open Go
set_option linter.all false
set_option maxRecDepth 1000000
theorem S0 : Tryz.prog.goes 3 = false := by
  unfold Program.goes
  rw [Ee, nX, ← Array.any_toList]
  simp only [vW]
  kernel_rfl
theorem MA : Rows.explainRunsRow.goesBy Tryz.prog = false := by
  unfold OpenClaim.goesBy Program.goesAt Program.goesFrom
  rw [show Rows.explainRunsRow.func = "recompile/recompilelaw41.ExplainRuns" from rfl, zW]
  rw [Option.any_some, S0]
  rfl
theorem Pn : Tryz.prog.looks [] = true := by
  unfold Program.looks
  refine List.any_eq_true.2 ⟨383, List.mem_range.2 (Jv ▸ by decide), ?_⟩
  simp only [vW]
  kernel_rfl
end Go.Proofs.YtjpagoacbadijaaGreatDoor
