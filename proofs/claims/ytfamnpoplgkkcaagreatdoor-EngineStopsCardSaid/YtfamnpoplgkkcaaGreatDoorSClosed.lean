/- Closed facts of the program, each by itself. Conditions: none. -/
import Derived.Test.YtfamnpoplgkkcaaGreatDoorRows
import Derived.Test.YtfamnpoplgkkcaaGreatDoorSBi
namespace Go.Proofs.YtfamnpoplgkkcaaGreatDoor
open Go
set_option linter.all false
set_option maxRecDepth 1000000
theorem own : ownKnob Tryz.prog.godebug = none := by kernel_rfl
theorem zv : Tryz.prog.types.size = 1070 := Nat.eq_of_beq_eq_true (by kernel_rfl)
theorem RD : mapsRowed Tryz.prog = true := Rc.EY (n := 34) zv (by kernel_rfl) (by kernel_rfl)
theorem RF : (List.range Tryz.prog.types.size).all (rowFine Tryz.prog) = true := Rc.HW (n := 34) zv (by kernel_rfl) (by kernel_rfl)
theorem HY : Tryz.prog.globals.all (fun g => decide (g.type < Tryz.prog.types.size)) = true := Rc.EZ zv (by kernel_rfl)
theorem Ko : Tryz.prog.funcs.all (fun f => f.params.all fun t => decide (t < Tryz.prog.types.size)) = true := Rc.HX zv (by kernel_rfl)
theorem laidOut : laidOutB Tryz.prog = true := Rc.Km RF HY Ko
theorem Wx : (Rows.engineStopsRow.wf (OpenSpec.ofChange Rows.engineStopsSpec)) = true := by kernel_rfl
theorem Wz : (Tryz.f4.params.all (Tryz.prog.readableRec ·)) = true := by
  simp only [Rc.tU]
  kernel_rfl
theorem WA : (namedTie Tryz.prog Rows.engineStopsRow.named Rows.engineStopsSpec.vars) = true := by kernel_rfl
theorem WE : ((Rows.engineStopsRow.stops == [])) = true := by kernel_rfl
theorem WG : ((Tryz.prog.stops == [])) = true := by kernel_rfl
theorem WJ : ((Rows.engineStopsRow.knobs == [])) = true := by kernel_rfl
theorem WM : ((Tryz.prog.stopKnobs == [])) = true := by kernel_rfl
theorem RG : ((Rows.engineStopsRow.maps == (Tryz.f4.params.toList ++ Rows.engineStopsSpec.plain.varTypes Tryz.prog).any (Tryz.prog.mapsRec ·))) = true := by
  simp only [Rc.Nn]
  kernel_rfl
theorem RH : ((Rows.engineStopsRow.ifaces == (Tryz.f4.params.toList ++ Rows.engineStopsSpec.plain.varTypes Tryz.prog).any (Tryz.prog.ifacesRec ·))) = true := by
  simp only [Rc.yg]
  kernel_rfl
theorem RJ : ((Rows.engineStopsRow.mapsOut == Tryz.prog.mapsAmong Tryz.f4.resultTypes.toList)) = true := by kernel_rfl
theorem RM : ((Rows.engineStopsRow.loops == (Tryz.f4.params.toList ++ Rows.engineStopsSpec.plain.varTypes Tryz.prog).any (Tryz.prog.loopsFrom ·))) = true := by
  simp only [Rc.Cb]
  kernel_rfl
theorem RN : ((Rows.engineStopsRow.wideKeys == (Tryz.f4.params.toList ++ Rows.engineStopsSpec.plain.varTypes Tryz.prog ++ Tryz.f4.resultTypes.toList).any (Tryz.prog.wideKeysFrom ·))) = true := by
  simp only [Rc.Np]
  kernel_rfl
theorem RO : (Rows.engineStopsSpec.vars.all (Tryz.prog.varReadable ·)) = true := by
  simp only [Rc.EW]
  kernel_rfl
theorem RP : (Tryz.f4.resultTypes.all (fun t => Tryz.prog.readableRec t && decide (t < Tryz.prog.types.size))) = true := by
  simp only [Rc.tU]
  kernel_rfl
theorem RQ : ((Rows.engineStopsRow.ifacesOut == Tryz.f4.resultTypes.toList.any (Tryz.prog.ifacesRec ·))) = true := by
  simp only [Rc.yg]
  kernel_rfl
theorem RU : ((Rows.engineStopsRow.loopsOut == Tryz.f4.resultTypes.toList.any (Tryz.prog.loopsFrom ·))) = true := by
  simp only [Rc.Cb]
  kernel_rfl
theorem RV : ((Rows.engineStopsRow.plainKeys == Tryz.prog.plainKeys)) = true := by kernel_rfl
theorem RW : (Rows.engineStopsRow.shortTexts.isNone) = true := by kernel_rfl
theorem RX : (Tryz.prog.stopsHeard) = true := (Rc.tD _).trans (by kernel_rfl)
theorem RY : (Tryz.prog.mayEnter) = true := by
  unfold Program.mayEnter
  simp only [Rc.vd]
  kernel_rfl
theorem RZ : ((Rows.engineStopsRow.lifted == Tryz.prog.liftsFinal)) = true := by kernel_rfl
theorem R0 : ((Tryz.prog.make == some Rows.engineStopsRow.make)) = true := by kernel_rfl
theorem R1 : ((Rows.engineStopsRow.kinds == (if Rows.engineStopsRow.domain.isEmpty then [] else Tryz.f4.params.toList.map fun t => match Tryz.prog.underlying t with | some (.int k) => some k | _ => none))) = true := by kernel_rfl
theorem R2 : ((Rows.engineStopsRow.pinned == Rows.engineStopsRow.pinnedBy)) = true := by kernel_rfl
theorem R3 : ((Rows.engineStopsRow.veiled == (Tryz.f4.params.toList ++ Rows.engineStopsSpec.plain.varTypes Tryz.prog ++ Tryz.f4.resultTypes.toList).any (Tryz.prog.veiledRec ·))) = true := by
  simp only [Rc.rW]
  kernel_rfl
theorem R4 : (Rows.engineStopsRow.veiledFits Tryz.prog Tryz.f4.params.toList (Tryz.f4.params.toList ++ Rows.engineStopsSpec.plain.varTypes Tryz.prog ++ Tryz.f4.resultTypes.toList)) = true := by
  unfold OpenClaim.veiledFits
  simp only [Rc.rW, Rc.qy]
  kernel_rfl
end Go.Proofs.YtfamnpoplgkkcaaGreatDoor
