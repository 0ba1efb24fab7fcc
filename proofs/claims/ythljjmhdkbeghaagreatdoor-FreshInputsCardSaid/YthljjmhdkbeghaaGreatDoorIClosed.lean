/- Closed facts of the program, each by itself. Conditions: none. -/
import Derived.Test.YthljjmhdkbeghaaGreatDoorRows
import Derived.Test.YthljjmhdkbeghaaGreatDoorIBh
namespace Go.Proofs.YthljjmhdkbeghaaGreatDoor
open Go
set_option linter.unusedVariables false
set_option maxRecDepth 1000000
theorem own : ownKnob Tryz.prog.godebug = none := by kernel_rfl
theorem nTypes : Tryz.prog.types.size = 1035 := Nat.eq_of_beq_eq_true (by kernel_rfl)
theorem mapsOk : mapsRowed Tryz.prog = true := Rc.maps_rowed (n := 33) nTypes (by kernel_rfl) (by kernel_rfl)
theorem rowsOk : (List.range Tryz.prog.types.size).all (rowFine Tryz.prog) = true := Rc.rows_fine (n := 33) nTypes (by kernel_rfl) (by kernel_rfl)
theorem globalsOk : Tryz.prog.globals.all (fun g => decide (g.type < Tryz.prog.types.size)) = true := Rc.globals_in nTypes (by kernel_rfl)
theorem paramsOk : Tryz.prog.funcs.all (fun f => f.params.all fun t => decide (t < Tryz.prog.types.size)) = true := Rc.params_in nTypes (by kernel_rfl)
theorem laidOut : laidOutB Tryz.prog = true := Rc.laid_out rowsOk globalsOk paramsOk
theorem fact1 : (Rows.freshInputsRow.wf (OpenSpec.ofChange Rows.freshInputsSpec)) = true := by kernel_rfl
theorem fact4 : (Tryz.f3.params.all (Tryz.prog.readableRec ·)) = true := by
  simp only [Rc.read_eq]
  kernel_rfl
theorem fact5 : (namedTie Tryz.prog Rows.freshInputsRow.named Rows.freshInputsSpec.vars) = true := by kernel_rfl
theorem fact6 : ((Rows.freshInputsRow.stops == [])) = true := by kernel_rfl
theorem fact7 : ((Tryz.prog.stops == [])) = true := by kernel_rfl
theorem fact8 : ((Rows.freshInputsRow.knobs == [])) = true := by kernel_rfl
theorem fact9 : ((Tryz.prog.stopKnobs == [])) = true := by kernel_rfl
theorem fact14 : ((Rows.freshInputsRow.maps == (Tryz.f3.params.toList ++ Rows.freshInputsSpec.plain.varTypes Tryz.prog).any (Tryz.prog.mapsRec ·))) = true := by
  simp only [Rc.maps_eq]
  kernel_rfl
theorem fact15 : ((Rows.freshInputsRow.ifaces == (Tryz.f3.params.toList ++ Rows.freshInputsSpec.plain.varTypes Tryz.prog).any (Tryz.prog.ifacesRec ·))) = true := by
  simp only [Rc.ifaces_eq]
  kernel_rfl
theorem fact16 : ((Rows.freshInputsRow.mapsOut == Tryz.prog.mapsAmong Tryz.f3.resultTypes.toList)) = true := by kernel_rfl
theorem fact17 : ((Rows.freshInputsRow.loops == (Tryz.f3.params.toList ++ Rows.freshInputsSpec.plain.varTypes Tryz.prog).any (Tryz.prog.loopsFrom ·))) = true := by
  simp only [Rc.loops_eq]
  kernel_rfl
theorem fact18 : ((Rows.freshInputsRow.wideKeys == (Tryz.f3.params.toList ++ Rows.freshInputsSpec.plain.varTypes Tryz.prog ++ Tryz.f3.resultTypes.toList).any (Tryz.prog.wideKeysFrom ·))) = true := by
  simp only [Rc.wide_eq]
  kernel_rfl
theorem fact19 : (Rows.freshInputsSpec.vars.all (Tryz.prog.varReadable ·)) = true := by
  simp only [Rc.varRead_eq]
  kernel_rfl
theorem fact20 : (Tryz.f3.resultTypes.all (fun t => Tryz.prog.readableRec t && decide (t < Tryz.prog.types.size))) = true := by
  simp only [Rc.read_eq]
  kernel_rfl
theorem fact21 : ((Rows.freshInputsRow.ifacesOut == Tryz.f3.resultTypes.toList.any (Tryz.prog.ifacesRec ·))) = true := by
  simp only [Rc.ifaces_eq]
  kernel_rfl
theorem fact22 : ((Rows.freshInputsRow.loopsOut == Tryz.f3.resultTypes.toList.any (Tryz.prog.loopsFrom ·))) = true := by
  simp only [Rc.loops_eq]
  kernel_rfl
theorem fact23 : ((Rows.freshInputsRow.plainKeys == Tryz.prog.plainKeys)) = true := by kernel_rfl
theorem fact24 : (Rows.freshInputsRow.shortTexts.isNone) = true := by kernel_rfl
theorem fact25 : (Tryz.prog.stopsHeard) = true := (Rc.stopsHeard_list _).trans (by kernel_rfl)
theorem fact26 : (Tryz.prog.mayEnter) = true := by
  unfold Program.mayEnter
  simp only [Rc.laysLater_list]
  kernel_rfl
theorem fact27 : ((Rows.freshInputsRow.lifted == Tryz.prog.liftsFinal)) = true := by kernel_rfl
theorem fact28 : ((Tryz.prog.make == some Rows.freshInputsRow.make)) = true := by kernel_rfl
theorem fact29 : ((Rows.freshInputsRow.kinds == (if Rows.freshInputsRow.domain.isEmpty then [] else Tryz.f3.params.toList.map fun t => match Tryz.prog.underlying t with | some (.int k) => some k | _ => none))) = true := by kernel_rfl
theorem fact30 : ((Rows.freshInputsRow.pinned == Rows.freshInputsRow.pinnedBy)) = true := by kernel_rfl
theorem fact31 : ((Rows.freshInputsRow.veiled == (Tryz.f3.params.toList ++ Rows.freshInputsSpec.plain.varTypes Tryz.prog ++ Tryz.f3.resultTypes.toList).any (Tryz.prog.veiledRec ·))) = true := by
  simp only [Rc.veiled_eq]
  kernel_rfl
theorem fact32 : (Rows.freshInputsRow.veiledFits Tryz.prog Tryz.f3.params.toList (Tryz.f3.params.toList ++ Rows.freshInputsSpec.plain.varTypes Tryz.prog ++ Tryz.f3.resultTypes.toList)) = true := by
  unfold OpenClaim.veiledFits
  simp only [Rc.veiled_eq, Rc.veiledOwn_eq]
  kernel_rfl
end Go.Proofs.YthljjmhdkbeghaaGreatDoor
