/- The call starts no goroutine; some type is asked for. Conditions: none. -/
import Derived.Test.YtjpagoacbadijaaGreatDoorCards
import Derived.Test.YtjpagoacbadijaaGreatDoorNReach
namespace Go.Proofs.YtjpagoacbadijaaGreatDoor
open Go
set_option linter.all false
set_option maxRecDepth 1000000
theorem S8 : Tryz.prog.goes 4 = false := by
  unfold Program.goes
  rw [Em, n9, ← Array.any_toList]
  simp only [we]
  kernel_rfl
theorem ME : Rows.explainNoneRow.goesBy Tryz.prog = false := by
  unfold OpenClaim.goesBy Program.goesAt Program.goesFrom
  rw [show Rows.explainNoneRow.func = "recompile/recompilelaw41.ExplainNone" from rfl, Af]
  rw [Option.any_some, S8]
  rfl
theorem Pr : Tryz.prog.looks [] = true := by
  unfold Program.looks
  refine List.any_eq_true.2 ⟨383, List.mem_range.2 (JA ▸ by decide), ?_⟩
  simp only [we]
  kernel_rfl
end Go.Proofs.YtjpagoacbadijaaGreatDoor
