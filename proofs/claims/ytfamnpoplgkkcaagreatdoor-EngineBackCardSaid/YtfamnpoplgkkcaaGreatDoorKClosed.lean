/- Closed facts of the program, each by itself. Conditions: none. -/
import Derived.Test.YtfamnpoplgkkcaaGreatDoorRows
import Derived.Test.YtfamnpoplgkkcaaGreatDoorKBh
namespace Go.Proofs.YtfamnpoplgkkcaaGreatDoor
open Go
set_option linter.all false
set_option maxRecDepth 1000000
theorem own : ownKnob Tryz.prog.godebug = none := by kernel_rfl
theorem tn : Tryz.prog.types.size = 1070 := Nat.eq_of_beq_eq_true (by kernel_rfl)
theorem Io : mapsRowed Tryz.prog = true := Rc.x2 (n := 34) tn (by kernel_rfl) (by kernel_rfl)
theorem Ip : (List.range Tryz.prog.types.size).all (rowFine Tryz.prog) = true := Rc.Ae (n := 34) tn (by kernel_rfl) (by kernel_rfl)
theorem Ag : Tryz.prog.globals.all (fun g => decide (g.type < Tryz.prog.types.size)) = true := Rc.x3 tn (by kernel_rfl)
theorem Cr : Tryz.prog.funcs.all (fun f => f.params.all fun t => decide (t < Tryz.prog.types.size)) = true := Rc.Af tn (by kernel_rfl)
theorem laidOut : laidOutB Tryz.prog = true := Rc.Cp Ip Ag Cr
theorem Mp : (Rows.engineBackRow.wf (OpenSpec.ofChange Rows.engineBackSpec)) = true := by kernel_rfl
theorem Mq : (Tryz.f5.params.all (Tryz.prog.readableRec ·)) = true := by
  simp only [Rc.oz]
  kernel_rfl
theorem Mr : (namedTie Tryz.prog Rows.engineBackRow.named Rows.engineBackSpec.vars) = true := by kernel_rfl
theorem Ms : ((Rows.engineBackRow.stops == [])) = true := by kernel_rfl
theorem Mt : ((Tryz.prog.stops == [])) = true := by kernel_rfl
theorem Mu : ((Rows.engineBackRow.knobs == [])) = true := by kernel_rfl
theorem Mv : ((Tryz.prog.stopKnobs == [])) = true := by kernel_rfl
theorem Iq : ((Rows.engineBackRow.maps == (Tryz.f5.params.toList ++ Rows.engineBackSpec.plain.varTypes Tryz.prog).any (Tryz.prog.mapsRec ·))) = true := by
  simp only [Rc.EL]
  kernel_rfl
theorem Ir : ((Rows.engineBackRow.ifaces == (Tryz.f5.params.toList ++ Rows.engineBackSpec.plain.varTypes Tryz.prog).any (Tryz.prog.ifacesRec ·))) = true := by
  simp only [Rc.sc]
  kernel_rfl
theorem Is : ((Rows.engineBackRow.mapsOut == Tryz.prog.mapsAmong Tryz.f5.resultTypes.toList)) = true := by kernel_rfl
theorem It : ((Rows.engineBackRow.loops == (Tryz.f5.params.toList ++ Rows.engineBackSpec.plain.varTypes Tryz.prog).any (Tryz.prog.loopsFrom ·))) = true := by
  simp only [Rc.vw]
  kernel_rfl
theorem Iu : ((Rows.engineBackRow.wideKeys == (Tryz.f5.params.toList ++ Rows.engineBackSpec.plain.varTypes Tryz.prog ++ Tryz.f5.resultTypes.toList).any (Tryz.prog.wideKeysFrom ·))) = true := by
  simp only [Rc.EM]
  kernel_rfl
theorem Iv : (Rows.engineBackSpec.vars.all (Tryz.prog.varReadable ·)) = true := by
  simp only [Rc.xZ]
  kernel_rfl
theorem Iw : (Tryz.f5.resultTypes.all (fun t => Tryz.prog.readableRec t && decide (t < Tryz.prog.types.size))) = true := by
  simp only [Rc.oz]
  kernel_rfl
theorem Ix : ((Rows.engineBackRow.ifacesOut == Tryz.f5.resultTypes.toList.any (Tryz.prog.ifacesRec ·))) = true := by
  simp only [Rc.sc]
  kernel_rfl
theorem Iy : ((Rows.engineBackRow.loopsOut == Tryz.f5.resultTypes.toList.any (Tryz.prog.loopsFrom ·))) = true := by
  simp only [Rc.vw]
  kernel_rfl
theorem Iz : ((Rows.engineBackRow.plainKeys == Tryz.prog.plainKeys)) = true := by kernel_rfl
theorem IA : (Rows.engineBackRow.shortTexts.isNone) = true := by kernel_rfl
theorem IB : (Tryz.prog.stopsHeard) = true := (Rc.oi _).trans (by kernel_rfl)
theorem IC : (Tryz.prog.mayEnter) = true := by
  unfold Program.mayEnter
  simp only [Rc.pJ]
  kernel_rfl
theorem ID : ((Rows.engineBackRow.lifted == Tryz.prog.liftsFinal)) = true := by kernel_rfl
theorem IE : ((Tryz.prog.make == some Rows.engineBackRow.make)) = true := by kernel_rfl
theorem IF : ((Rows.engineBackRow.kinds == (if Rows.engineBackRow.domain.isEmpty then [] else Tryz.f5.params.toList.map fun t => match Tryz.prog.underlying t with | some (.int k) => some k | _ => none))) = true := by kernel_rfl
theorem IH : ((Rows.engineBackRow.pinned == Rows.engineBackRow.pinnedBy)) = true := by kernel_rfl
theorem II : ((Rows.engineBackRow.veiled == (Tryz.f5.params.toList ++ Rows.engineBackSpec.plain.varTypes Tryz.prog ++ Tryz.f5.resultTypes.toList).any (Tryz.prog.veiledRec ·))) = true := by
  simp only [Rc.mP]
  kernel_rfl
theorem IJ : (Rows.engineBackRow.veiledFits Tryz.prog Tryz.f5.params.toList (Tryz.f5.params.toList ++ Rows.engineBackSpec.plain.varTypes Tryz.prog ++ Tryz.f5.resultTypes.toList)) = true := by
  unfold OpenClaim.veiledFits
  simp only [Rc.mP, Rc.l5]
  kernel_rfl
end Go.Proofs.YtfamnpoplgkkcaaGreatDoor
