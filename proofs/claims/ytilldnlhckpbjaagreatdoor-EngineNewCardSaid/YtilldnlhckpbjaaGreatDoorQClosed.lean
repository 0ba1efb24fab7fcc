/- Closed facts of the program, each by itself. Conditions: none. -/
import Derived.Test.YtilldnlhckpbjaaGreatDoorRows
import Derived.Test.YtilldnlhckpbjaaGreatDoorQBh
namespace Go.Proofs.YtilldnlhckpbjaaGreatDoor
open Go
set_option linter.all false
set_option maxRecDepth 1000000
theorem own : ownKnob Tryz.prog.godebug = none := by kernel_rfl
theorem u7 : Tryz.prog.types.size = 1051 := Nat.eq_of_beq_eq_true (by kernel_rfl)
theorem Kz : mapsRowed Tryz.prog = true := Rc.zI (n := 33) u7 (by kernel_rfl) (by kernel_rfl)
theorem KA : (List.range Tryz.prog.types.size).all (rowFine Tryz.prog) = true := Rc.Cr (n := 33) u7 (by kernel_rfl) (by kernel_rfl)
theorem Ct : Tryz.prog.globals.all (fun g => decide (g.type < Tryz.prog.types.size)) = true := Rc.zJ u7 (by kernel_rfl)
theorem En : Tryz.prog.funcs.all (fun f => f.params.all fun t => decide (t < Tryz.prog.types.size)) = true := Rc.Cs u7 (by kernel_rfl)
theorem laidOut : laidOutB Tryz.prog = true := Rc.El KA Ct En
theorem OZ : (Rows.engineNewRow.wf (OpenSpec.ofChange Rows.engineNewSpec)) = true := by kernel_rfl
theorem O0 : (Tryz.f3.params.all (Tryz.prog.readableRec ·)) = true := by
  simp only [Rc.qa]
  kernel_rfl
theorem O1 : (namedTie Tryz.prog Rows.engineNewRow.named Rows.engineNewSpec.vars) = true := by kernel_rfl
theorem O2 : ((Rows.engineNewRow.stops == [])) = true := by kernel_rfl
theorem O3 : ((Tryz.prog.stops == [])) = true := by kernel_rfl
theorem O4 : ((Rows.engineNewRow.knobs == [])) = true := by kernel_rfl
theorem O5 : ((Tryz.prog.stopKnobs == [])) = true := by kernel_rfl
theorem KB : ((Rows.engineNewRow.maps == (Tryz.f3.params.toList ++ Rows.engineNewSpec.plain.varTypes Tryz.prog).any (Tryz.prog.mapsRec ·))) = true := by
  simp only [Rc.G6]
  kernel_rfl
theorem KC : ((Rows.engineNewRow.ifaces == (Tryz.f3.params.toList ++ Rows.engineNewSpec.plain.varTypes Tryz.prog).any (Tryz.prog.ifacesRec ·))) = true := by
  simp only [Rc.ua]
  kernel_rfl
theorem KD : ((Rows.engineNewRow.mapsOut == Tryz.prog.mapsAmong Tryz.f3.resultTypes.toList)) = true := by kernel_rfl
theorem KF : ((Rows.engineNewRow.loops == (Tryz.f3.params.toList ++ Rows.engineNewSpec.plain.varTypes Tryz.prog).any (Tryz.prog.loopsFrom ·))) = true := by
  simp only [Rc.xF]
  kernel_rfl
theorem KG : ((Rows.engineNewRow.wideKeys == (Tryz.f3.params.toList ++ Rows.engineNewSpec.plain.varTypes Tryz.prog ++ Tryz.f3.resultTypes.toList).any (Tryz.prog.wideKeysFrom ·))) = true := by
  simp only [Rc.G7]
  kernel_rfl
theorem KH : (Rows.engineNewSpec.vars.all (Tryz.prog.varReadable ·)) = true := by
  simp only [Rc.zH]
  kernel_rfl
theorem KI : (Tryz.f3.resultTypes.all (fun t => Tryz.prog.readableRec t && decide (t < Tryz.prog.types.size))) = true := by
  simp only [Rc.qa]
  kernel_rfl
theorem KJ : ((Rows.engineNewRow.ifacesOut == Tryz.f3.resultTypes.toList.any (Tryz.prog.ifacesRec ·))) = true := by
  simp only [Rc.ua]
  kernel_rfl
theorem KL : ((Rows.engineNewRow.loopsOut == Tryz.f3.resultTypes.toList.any (Tryz.prog.loopsFrom ·))) = true := by
  simp only [Rc.xF]
  kernel_rfl
theorem KN : ((Rows.engineNewRow.plainKeys == Tryz.prog.plainKeys)) = true := by kernel_rfl
theorem KO : (Rows.engineNewRow.shortTexts.isNone) = true := by kernel_rfl
theorem KP : (Tryz.prog.stopsHeard) = true := (Rc.pL _).trans (by kernel_rfl)
theorem KQ : (Tryz.prog.mayEnter) = true := by
  unfold Program.mayEnter
  simp only [Rc.rf]
  kernel_rfl
theorem KS : ((Rows.engineNewRow.lifted == Tryz.prog.liftsFinal)) = true := by kernel_rfl
theorem KT : ((Tryz.prog.make == some Rows.engineNewRow.make)) = true := by kernel_rfl
theorem KU : ((Rows.engineNewRow.kinds == (if Rows.engineNewRow.domain.isEmpty then [] else Tryz.f3.params.toList.map fun t => match Tryz.prog.underlying t with | some (.int k) => some k | _ => none))) = true := by kernel_rfl
theorem KW : ((Rows.engineNewRow.pinned == Rows.engineNewRow.pinnedBy)) = true := by kernel_rfl
theorem KX : ((Rows.engineNewRow.veiled == (Tryz.f3.params.toList ++ Rows.engineNewSpec.plain.varTypes Tryz.prog ++ Tryz.f3.resultTypes.toList).any (Tryz.prog.veiledRec ·))) = true := by
  simp only [Rc.oj]
  kernel_rfl
theorem KY : (Rows.engineNewRow.veiledFits Tryz.prog Tryz.f3.params.toList (Tryz.f3.params.toList ++ Rows.engineNewSpec.plain.varTypes Tryz.prog ++ Tryz.f3.resultTypes.toList)) = true := by
  unfold OpenClaim.veiledFits
  simp only [Rc.oj, Rc.nB]
  kernel_rfl
end Go.Proofs.YtilldnlhckpbjaaGreatDoor
