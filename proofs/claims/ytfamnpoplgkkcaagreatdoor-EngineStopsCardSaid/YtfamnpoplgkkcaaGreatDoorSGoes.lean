/- The call starts no goroutine; some type is asked for. Conditions: none. -/
import Derived.Test.YtfamnpoplgkkcaaGreatDoorCards
import Derived.Test.YtfamnpoplgkkcaaGreatDoorSReach
namespace Go.Proofs.YtfamnpoplgkkcaaGreatDoor
open Go
set_option linter.all false
set_option maxRecDepth 1000000
theorem N9 : Tryz.prog.goes 4 = false := by
  unfold Program.goes
  rw [zF, lk, ← Array.any_toList]
  simp only [sa]
  kernel_rfl
theorem H4 : Rows.engineStopsRow.goesBy Tryz.prog = false := by
  unfold OpenClaim.goesBy Program.goesAt Program.goesFrom
  rw [show Rows.engineStopsRow.func = "recompile/recompilelaw30.EngineStops" from rfl, vj]
  rw [Option.any_some, N9]
  rfl
theorem KL : Tryz.prog.looks [] = true := by
  unfold Program.looks
  refine List.any_eq_true.2 ⟨209, List.mem_range.2 (Fc ▸ by decide), ?_⟩
  simp only [sa]
  kernel_rfl
end Go.Proofs.YtfamnpoplgkkcaaGreatDoor
