/- Closed facts of the program, each by itself. Conditions: none. -/
import Derived.Test.YthljjmhdkbeghaaGreatDoorRows
import Derived.Test.YthljjmhdkbeghaaGreatDoorLBh
namespace Go.Proofs.YthljjmhdkbeghaaGreatDoor
open Go
set_option linter.unusedVariables false
set_option maxRecDepth 1000000
theorem own : ownKnob Tryz.prog.godebug = none := by kernel_rfl
theorem nTypes : Tryz.prog.types.size = 1035 := Nat.eq_of_beq_eq_true (by kernel_rfl)
theorem mapsOk : mapsRowed Tryz.prog = true := Rc.maps_rowed (n := 33) nTypes (by kernel_rfl) (by kernel_rfl)
theorem rowsOk : (List.range Tryz.prog.types.size).all (rowFine Tryz.prog) = true := Rc.rows_fine (n := 33) nTypes (by kernel_rfl) (by kernel_rfl)
theorem globalsOk : Tryz.prog.globals.all (fun g => decide (g.type < Tryz.prog.types.size)) = true := Rc.globals_in nTypes (by kernel_rfl)
theorem paramsOk : Tryz.prog.funcs.all (fun f => f.params.all fun t => decide (t < Tryz.prog.types.size)) = true := Rc.params_in nTypes (by kernel_rfl)
theorem laidOut : laidOutB Tryz.prog = true := Rc.laid_out rowsOk globalsOk paramsOk
theorem fact1 : (Rows.freshLeastRow.wf (OpenSpec.ofChange Rows.freshLeastSpec)) = true := by kernel_rfl
theorem fact4 : (Tryz.f4.params.all (Tryz.prog.readableRec ·)) = true := by
  simp only [Rc.read_eq]
  kernel_rfl
theorem fact5 : (namedTie Tryz.prog Rows.freshLeastRow.named Rows.freshLeastSpec.vars) = true := by kernel_rfl
theorem fact6 : ((Rows.freshLeastRow.stops == [])) = true := by kernel_rfl
theorem fact7 : ((Tryz.prog.stops == [])) = true := by kernel_rfl
theorem fact8 : ((Rows.freshLeastRow.knobs == [])) = true := by kernel_rfl
theorem fact9 : ((Tryz.prog.stopKnobs == [])) = true := by kernel_rfl
theorem fact14 : ((Rows.freshLeastRow.maps == (Tryz.f4.params.toList ++ Rows.freshLeastSpec.plain.varTypes Tryz.prog).any (Tryz.prog.mapsRec ·))) = true := by
  simp only [Rc.maps_eq]
  kernel_rfl
theorem fact15 : ((Rows.freshLeastRow.ifaces == (Tryz.f4.params.toList ++ Rows.freshLeastSpec.plain.varTypes Tryz.prog).any (Tryz.prog.ifacesRec ·))) = true := by
  simp only [Rc.ifaces_eq]
  kernel_rfl
theorem fact16 : ((Rows.freshLeastRow.mapsOut == Tryz.prog.mapsAmong Tryz.f4.resultTypes.toList)) = true := by kernel_rfl
theorem fact17 : ((Rows.freshLeastRow.loops == (Tryz.f4.params.toList ++ Rows.freshLeastSpec.plain.varTypes Tryz.prog).any (Tryz.prog.loopsFrom ·))) = true := by
  simp only [Rc.loops_eq]
  kernel_rfl
theorem fact18 : ((Rows.freshLeastRow.wideKeys == (Tryz.f4.params.toList ++ Rows.freshLeastSpec.plain.varTypes Tryz.prog ++ Tryz.f4.resultTypes.toList).any (Tryz.prog.wideKeysFrom ·))) = true := by
  simp only [Rc.wide_eq]
  kernel_rfl
theorem fact19 : (Rows.freshLeastSpec.vars.all (Tryz.prog.varReadable ·)) = true := by
  simp only [Rc.varRead_eq]
  kernel_rfl
theorem fact20 : (Tryz.f4.resultTypes.all (fun t => Tryz.prog.readableRec t && decide (t < Tryz.prog.types.size))) = true := by
  simp only [Rc.read_eq]
  kernel_rfl
theorem fact21 : ((Rows.freshLeastRow.ifacesOut == Tryz.f4.resultTypes.toList.any (Tryz.prog.ifacesRec ·))) = true := by
  simp only [Rc.ifaces_eq]
  kernel_rfl
theorem fact22 : ((Rows.freshLeastRow.loopsOut == Tryz.f4.resultTypes.toList.any (Tryz.prog.loopsFrom ·))) = true := by
  simp only [Rc.loops_eq]
  kernel_rfl
theorem fact23 : ((Rows.freshLeastRow.plainKeys == Tryz.prog.plainKeys)) = true := by kernel_rfl
theorem fact24 : (Rows.freshLeastRow.shortTexts.isNone) = true := by kernel_rfl
theorem fact25 : (Tryz.prog.stopsHeard) = true := (Rc.stopsHeard_list _).trans (by kernel_rfl)
theorem fact26 : (Tryz.prog.mayEnter) = true := by
  unfold Program.mayEnter
  simp only [Rc.laysLater_list]
  kernel_rfl
theorem fact27 : ((Rows.freshLeastRow.lifted == Tryz.prog.liftsFinal)) = true := by kernel_rfl
theorem fact28 : ((Tryz.prog.make == some Rows.freshLeastRow.make)) = true := by kernel_rfl
theorem fact29 : ((Rows.freshLeastRow.kinds == (if Rows.freshLeastRow.domain.isEmpty then [] else Tryz.f4.params.toList.map fun t => match Tryz.prog.underlying t with | some (.int k) => some k | _ => none))) = true := by kernel_rfl
theorem fact30 : ((Rows.freshLeastRow.pinned == Rows.freshLeastRow.pinnedBy)) = true := by kernel_rfl
theorem fact31 : ((Rows.freshLeastRow.veiled == (Tryz.f4.params.toList ++ Rows.freshLeastSpec.plain.varTypes Tryz.prog ++ Tryz.f4.resultTypes.toList).any (Tryz.prog.veiledRec ·))) = true := by
  simp only [Rc.veiled_eq]
  kernel_rfl
theorem fact32 : (Rows.freshLeastRow.veiledFits Tryz.prog Tryz.f4.params.toList (Tryz.f4.params.toList ++ Rows.freshLeastSpec.plain.varTypes Tryz.prog ++ Tryz.f4.resultTypes.toList)) = true := by
  unfold OpenClaim.veiledFits
  simp only [Rc.veiled_eq, Rc.veiledOwn_eq]
  kernel_rfl
end Go.Proofs.YthljjmhdkbeghaaGreatDoor
