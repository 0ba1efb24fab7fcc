/- The call starts no goroutine; some type is asked for. Conditions: none. -/
import Derived.Test.YtfamnpoplgkkcaaGreatDoorCards
import Derived.Test.YtfamnpoplgkkcaaGreatDoorKReach
namespace Go.Proofs.YtfamnpoplgkkcaaGreatDoor
open Go
set_option linter.all false
set_option maxRecDepth 1000000
theorem FH : Tryz.prog.goes 5 = false := by
  unfold Program.goes
  rw [tu, ib, ← Array.any_toList]
  simp only [mZ]
  kernel_rfl
theorem Aj : Rows.engineBackRow.goesBy Tryz.prog = false := by
  unfold OpenClaim.goesBy Program.goesAt Program.goesFrom
  rw [show Rows.engineBackRow.func = "recompile/recompilelaw30.EngineBack" from rfl, pP]
  rw [Option.any_some, FH]
  rfl
theorem CQ : Tryz.prog.looks [] = true := by
  unfold Program.looks
  refine List.any_eq_true.2 ⟨209, List.mem_range.2 (yg ▸ by decide), ?_⟩
  simp only [mZ]
  kernel_rfl
end Go.Proofs.YtfamnpoplgkkcaaGreatDoor
