/- The call starts no goroutine; some type is asked for. Conditions: none. -/
import Derived.Test.YtmpkegmkoclbhaaGreatDoorCards
import Derived.Test.YtmpkegmkoclbhaaGreatDoorMReach
namespace Go.Proofs.YtmpkegmkoclbhaaGreatDoor
open Go
set_option linter.all false
set_option maxRecDepth 1000000
theorem NH : Tryz.prog.goes 3 = false := by
  unfold Program.goes
  rw [zz, k7, ← Array.any_toList]
  simp only [rW]
  kernel_rfl
theorem HW : Rows.engineMoreRow.goesBy Tryz.prog = false := by
  unfold OpenClaim.goesBy Program.goesAt Program.goesFrom
  rw [show Rows.engineMoreRow.func = "recompile/recompilelaw30.EngineMore" from rfl, u7]
  rw [Option.any_some, NH]
  rfl
theorem Ku : Tryz.prog.looks [] = true := by
  unfold Program.looks
  refine List.any_eq_true.2 ⟨197, List.mem_range.2 (Fa ▸ by decide), ?_⟩
  simp only [rW]
  kernel_rfl
end Go.Proofs.YtmpkegmkoclbhaaGreatDoor
