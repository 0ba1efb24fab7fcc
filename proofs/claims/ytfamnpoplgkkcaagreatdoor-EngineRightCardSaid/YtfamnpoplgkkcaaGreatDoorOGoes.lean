/- The call starts no goroutine; some type is asked for. Conditions: none. -/
import Derived.Test.YtfamnpoplgkkcaaGreatDoorCards
import Derived.Test.YtfamnpoplgkkcaaGreatDoorOReach
namespace Go.Proofs.YtfamnpoplgkkcaaGreatDoor
open Go
set_option linter.all false
set_option maxRecDepth 1000000
theorem NF : Tryz.prog.goes 3 = false := by
  unfold Program.goes
  rw [zw, kZ, ← Array.any_toList]
  simp only [rS]
  kernel_rfl
theorem HH : Rows.engineRightRow.goesBy Tryz.prog = false := by
  unfold OpenClaim.goesBy Program.goesAt Program.goesFrom
  rw [show Rows.engineRightRow.func = "recompile/recompilelaw30.EngineRight" from rfl, u9]
  rw [Option.any_some, NF]
  rfl
theorem Kn : Tryz.prog.looks [] = true := by
  unfold Program.looks
  refine List.any_eq_true.2 ⟨209, List.mem_range.2 (ET ▸ by decide), ?_⟩
  simp only [rS]
  kernel_rfl
end Go.Proofs.YtfamnpoplgkkcaaGreatDoor
