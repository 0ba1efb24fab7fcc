/- The call starts no goroutine; some type is asked for. Conditions: none. -/
import Derived.Test.YtpoiojafnnaccaaGreatDoorCards
import Derived.Test.YtpoiojafnnaccaaGreatDoorTReach
namespace Go.Proofs.YtpoiojafnnaccaaGreatDoor
open Go
set_option linter.all false
set_option maxRecDepth 1000000
theorem Uf : Tryz.prog.goes 3 = false := by
  unfold Program.goes
  rw [FN, oW, ← Array.any_toList]
  simp only [xK]
  kernel_rfl
theorem N5 : Rows.auditTheoremRow.goesBy Tryz.prog = false := by
  unfold OpenClaim.goesBy Program.goesAt Program.goesFrom
  rw [show Rows.auditTheoremRow.func = "recompile/recompilelaw45.AuditTheorem" from rfl, Bw]
  rw [Option.any_some, Uf]
  rfl
theorem QC : Tryz.prog.looks [] = true := by
  unfold Program.looks
  refine List.any_eq_true.2 ⟨230, List.mem_range.2 (K1 ▸ by decide), ?_⟩
  simp only [xK]
  kernel_rfl
end Go.Proofs.YtpoiojafnnaccaaGreatDoor
