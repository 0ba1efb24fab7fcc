/- The call starts no goroutine; some type is asked for. Conditions: none. -/
import Derived.Test.YtcongbofepbmeaaGreatDoorCards
import Derived.Test.YtcongbofepbmeaaGreatDoorFReach
namespace Go.Proofs.YtcongbofepbmeaaGreatDoor
open Go
set_option linter.all false
set_option maxRecDepth 1000000
theorem La : Tryz.prog.goes 3 = false := by
  unfold Program.goes
  rw [yu, kK, ← Array.any_toList]
  simp only [qt]
  kernel_rfl
theorem Gf : Rows.freshValuesRow.goesBy Tryz.prog = false := by
  unfold OpenClaim.goesBy Program.goesAt Program.goesFrom
  rw [show Rows.freshValuesRow.func = "recompile/recompilelaw28.FreshValues" from rfl, uo]
  rw [Option.any_some, La]
  rfl
theorem Il : Tryz.prog.looks [] = true := by
  unfold Program.looks
  refine List.any_eq_true.2 ⟨87, List.mem_range.2 (Dm ▸ by decide), ?_⟩
  simp only [qt]
  kernel_rfl
end Go.Proofs.YtcongbofepbmeaaGreatDoor
