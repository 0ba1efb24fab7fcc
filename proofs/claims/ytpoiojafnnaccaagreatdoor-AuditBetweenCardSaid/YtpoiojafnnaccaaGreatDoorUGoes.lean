/- The call starts no goroutine; some type is asked for. Conditions: none. -/
import Derived.Test.YtpoiojafnnaccaaGreatDoorCards
import Derived.Test.YtpoiojafnnaccaaGreatDoorUReach
namespace Go.Proofs.YtpoiojafnnaccaaGreatDoor
open Go
set_option linter.all false
set_option maxRecDepth 1000000
theorem TU : Tryz.prog.goes 4 = false := by
  unfold Program.goes
  rw [Fv, oJ, ← Array.any_toList]
  simp only [xw]
  kernel_rfl
theorem NI : Rows.auditBetweenRow.goesBy Tryz.prog = false := by
  unfold OpenClaim.goesBy Program.goesAt Program.goesFrom
  rw [show Rows.auditBetweenRow.func = "recompile/recompilelaw45.AuditBetween" from rfl, Bd]
  rw [Option.any_some, TU]
  rfl
theorem Ql : Tryz.prog.looks [] = true := by
  unfold Program.looks
  refine List.any_eq_true.2 ⟨230, List.mem_range.2 (KB ▸ by decide), ?_⟩
  simp only [xw]
  kernel_rfl
end Go.Proofs.YtpoiojafnnaccaaGreatDoor
