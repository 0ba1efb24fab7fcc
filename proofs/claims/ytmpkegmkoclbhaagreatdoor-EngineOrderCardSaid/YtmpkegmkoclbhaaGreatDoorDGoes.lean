/- The call starts no goroutine; some type is asked for. Conditions: none. -/
import Derived.Test.YtmpkegmkoclbhaaGreatDoorCards
import Derived.Test.YtmpkegmkoclbhaaGreatDoorDReach
namespace Go.Proofs.YtmpkegmkoclbhaaGreatDoor
open Go
set_option linter.all false
set_option maxRecDepth 1000000
theorem NT : Tryz.prog.goes 4 = false := by
  unfold Program.goes
  rw [zw, k7, ← Array.any_toList]
  simp only [rT]
  kernel_rfl
theorem HX : Rows.engineOrderRow.goesBy Tryz.prog = false := by
  unfold OpenClaim.goesBy Program.goesAt Program.goesFrom
  rw [show Rows.engineOrderRow.func = "recompile/recompilelaw30.EngineOrder" from rfl, u7]
  rw [Option.any_some, NT]
  rfl
theorem KA : Tryz.prog.looks [] = true := by
  unfold Program.looks
  refine List.any_eq_true.2 ⟨197, List.mem_range.2 (Fc ▸ by decide), ?_⟩
  simp only [rT]
  kernel_rfl
end Go.Proofs.YtmpkegmkoclbhaaGreatDoor
