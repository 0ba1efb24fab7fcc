/- The call starts no goroutine; some type is asked for. Conditions: none. -/
import Derived.Test.YtjpagoacbadijaaGreatDoorCards
import Derived.Test.YtjpagoacbadijaaGreatDoorJReach
namespace Go.Proofs.YtjpagoacbadijaaGreatDoor
open Go
set_option linter.all false
set_option maxRecDepth 1000000
theorem HI : Tryz.prog.goes 5 = false := by
  unfold Program.goes
  rw [vg, je, ← Array.any_toList]
  simp only [ox]
  kernel_rfl
theorem Cw : Rows.explainInputsRow.goesBy Tryz.prog = false := by
  unfold OpenClaim.goesBy Program.goesAt Program.goesFrom
  rw [show Rows.explainInputsRow.func = "recompile/recompilelaw41.ExplainInputs" from rfl, rq]
  rw [Option.any_some, HI]
  rfl
theorem EU : Tryz.prog.looks [] = true := by
  unfold Program.looks
  refine List.any_eq_true.2 ⟨383, List.mem_range.2 (zQ ▸ by decide), ?_⟩
  simp only [ox]
  kernel_rfl
end Go.Proofs.YtjpagoacbadijaaGreatDoor
