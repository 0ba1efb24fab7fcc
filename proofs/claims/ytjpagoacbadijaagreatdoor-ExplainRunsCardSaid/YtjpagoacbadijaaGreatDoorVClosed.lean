/- Closed facts of the program, each by itself. Conditions: none. -/
import Derived.Test.YtjpagoacbadijaaGreatDoorRows
import Derived.Test.YtjpagoacbadijaaGreatDoorVBi
namespace Go.Proofs.YtjpagoacbadijaaGreatDoor
open Go
set_option linter.all false
set_option maxRecDepth 1000000
theorem own : ownKnob Tryz.prog.godebug = none := by kernel_rfl
theorem D2 : Tryz.prog.types.size = 1056 := Nat.eq_of_beq_eq_true (by kernel_rfl)
theorem WN : mapsRowed Tryz.prog = true := Rc.Jj (n := 34) D2 (by kernel_rfl) (by kernel_rfl)
theorem WO : (List.range Tryz.prog.types.size).all (rowFine Tryz.prog) = true := Rc.Ms (n := 34) D2 (by kernel_rfl) (by kernel_rfl)
theorem Mu : Tryz.prog.globals.all (fun g => decide (g.type < Tryz.prog.types.size)) = true := Rc.Jk D2 (by kernel_rfl)
theorem O3 : Tryz.prog.funcs.all (fun f => f.params.all fun t => decide (t < Tryz.prog.types.size)) = true := Rc.Mt D2 (by kernel_rfl)
theorem laidOut : laidOutB Tryz.prog = true := Rc.O1 WO Mu O3
theorem ab3 : (Rows.explainRunsRow.wf (OpenSpec.ofChange Rows.explainRunsSpec)) = true := by kernel_rfl
theorem ab4 : (Tryz.f3.params.all (Tryz.prog.readableRec ·)) = true := by
  simp only [Rc.yo]
  kernel_rfl
theorem ab5 : (namedTie Tryz.prog Rows.explainRunsRow.named Rows.explainRunsSpec.vars) = true := by kernel_rfl
theorem ab6 : ((Rows.explainRunsRow.stops == [])) = true := by kernel_rfl
theorem ab7 : ((Tryz.prog.stops == [])) = true := by kernel_rfl
theorem ab8 : ((Rows.explainRunsRow.knobs == [])) = true := by kernel_rfl
theorem ab9 : ((Tryz.prog.stopKnobs == [])) = true := by kernel_rfl
theorem WQ : ((Rows.explainRunsRow.maps == (Tryz.f3.params.toList ++ Rows.explainRunsSpec.plain.varTypes Tryz.prog).any (Tryz.prog.mapsRec ·))) = true := by
  simp only [Rc.Sg]
  kernel_rfl
theorem WR : ((Rows.explainRunsRow.ifaces == (Tryz.f3.params.toList ++ Rows.explainRunsSpec.plain.varTypes Tryz.prog).any (Tryz.prog.ifacesRec ·))) = true := by
  simp only [Rc.C1]
  kernel_rfl
theorem WS : ((Rows.explainRunsRow.mapsOut == Tryz.prog.mapsAmong Tryz.f3.resultTypes.toList)) = true := by kernel_rfl
theorem WT : ((Rows.explainRunsRow.loops == (Tryz.f3.params.toList ++ Rows.explainRunsSpec.plain.varTypes Tryz.prog).any (Tryz.prog.loopsFrom ·))) = true := by
  simp only [Rc.GQ]
  kernel_rfl
theorem WV : ((Rows.explainRunsRow.wideKeys == (Tryz.f3.params.toList ++ Rows.explainRunsSpec.plain.varTypes Tryz.prog ++ Tryz.f3.resultTypes.toList).any (Tryz.prog.wideKeysFrom ·))) = true := by
  simp only [Rc.Sh]
  kernel_rfl
theorem WW : (Rows.explainRunsSpec.vars.all (Tryz.prog.varReadable ·)) = true := by
  simp only [Rc.Ji]
  kernel_rfl
theorem WY : (Tryz.f3.resultTypes.all (fun t => Tryz.prog.readableRec t && decide (t < Tryz.prog.types.size))) = true := by
  simp only [Rc.yo]
  kernel_rfl
theorem WZ : ((Rows.explainRunsRow.ifacesOut == Tryz.f3.resultTypes.toList.any (Tryz.prog.ifacesRec ·))) = true := by
  simp only [Rc.C1]
  kernel_rfl
theorem W0 : ((Rows.explainRunsRow.loopsOut == Tryz.f3.resultTypes.toList.any (Tryz.prog.loopsFrom ·))) = true := by
  simp only [Rc.GQ]
  kernel_rfl
theorem W1 : ((Rows.explainRunsRow.plainKeys == Tryz.prog.plainKeys)) = true := by kernel_rfl
theorem W2 : (Rows.explainRunsRow.shortTexts.isNone) = true := by kernel_rfl
theorem W3 : (Tryz.prog.stopsHeard) = true := (Rc.xT _).trans (by kernel_rfl)
theorem W4 : (Tryz.prog.mayEnter) = true := by
  unfold Program.mayEnter
  simp only [Rc.zO]
  kernel_rfl
theorem W5 : ((Rows.explainRunsRow.lifted == Tryz.prog.liftsFinal)) = true := by kernel_rfl
theorem W6 : ((Tryz.prog.make == some Rows.explainRunsRow.make)) = true := by kernel_rfl
theorem W7 : ((Rows.explainRunsRow.kinds == (if Rows.explainRunsRow.domain.isEmpty then [] else Tryz.f3.params.toList.map fun t => match Tryz.prog.underlying t with | some (.int k) => some k | _ => none))) = true := by kernel_rfl
theorem W8 : ((Rows.explainRunsRow.pinned == Rows.explainRunsRow.pinnedBy)) = true := by kernel_rfl
theorem W9 : ((Rows.explainRunsRow.veiled == (Tryz.f3.params.toList ++ Rows.explainRunsSpec.plain.varTypes Tryz.prog ++ Tryz.f3.resultTypes.toList).any (Tryz.prog.veiledRec ·))) = true := by
  simp only [Rc.vP]
  kernel_rfl
theorem Xa : (Rows.explainRunsRow.veiledFits Tryz.prog Tryz.f3.params.toList (Tryz.f3.params.toList ++ Rows.explainRunsSpec.plain.varTypes Tryz.prog ++ Tryz.f3.resultTypes.toList)) = true := by
  unfold OpenClaim.veiledFits
  simp only [Rc.vP, Rc.uC]
  kernel_rfl
end Go.Proofs.YtjpagoacbadijaaGreatDoor
