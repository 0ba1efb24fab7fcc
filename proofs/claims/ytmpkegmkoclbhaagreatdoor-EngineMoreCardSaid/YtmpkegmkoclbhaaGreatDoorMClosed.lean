/- Closed facts of the program, each by itself. Conditions: none. -/
import Derived.Test.YtmpkegmkoclbhaaGreatDoorRows
import Derived.Test.YtmpkegmkoclbhaaGreatDoorMBi
namespace Go.Proofs.YtmpkegmkoclbhaaGreatDoor
open Go
set_option linter.all false
set_option maxRecDepth 1000000
theorem own : ownKnob Tryz.prog.godebug = none := by kernel_rfl
theorem zm : Tryz.prog.types.size = 1068 := Nat.eq_of_beq_eq_true (by kernel_rfl)
theorem Rq : mapsRowed Tryz.prog = true := Rc.EO (n := 34) zm (by kernel_rfl) (by kernel_rfl)
theorem Rr : (List.range Tryz.prog.types.size).all (rowFine Tryz.prog) = true := Rc.HO (n := 34) zm (by kernel_rfl) (by kernel_rfl)
theorem HQ : Tryz.prog.globals.all (fun g => decide (g.type < Tryz.prog.types.size)) = true := Rc.EP zm (by kernel_rfl)
theorem Ke : Tryz.prog.funcs.all (fun f => f.params.all fun t => decide (t < Tryz.prog.types.size)) = true := Rc.HP zm (by kernel_rfl)
theorem laidOut : laidOutB Tryz.prog = true := Rc.Kb Rr HQ Ke
theorem Ww : (Rows.engineMoreRow.wf (OpenSpec.ofChange Rows.engineMoreSpec)) = true := by kernel_rfl
theorem Wx : (Tryz.f3.params.all (Tryz.prog.readableRec ·)) = true := by
  simp only [Rc.tP]
  kernel_rfl
theorem Wz : (namedTie Tryz.prog Rows.engineMoreRow.named Rows.engineMoreSpec.vars) = true := by kernel_rfl
theorem WA : ((Rows.engineMoreRow.stops == [])) = true := by kernel_rfl
theorem WE : ((Tryz.prog.stops == [])) = true := by kernel_rfl
theorem WG : ((Rows.engineMoreRow.knobs == [])) = true := by kernel_rfl
theorem WJ : ((Tryz.prog.stopKnobs == [])) = true := by kernel_rfl
theorem Rt : ((Rows.engineMoreRow.maps == (Tryz.f3.params.toList ++ Rows.engineMoreSpec.plain.varTypes Tryz.prog).any (Tryz.prog.mapsRec ·))) = true := by
  simp only [Rc.MS]
  kernel_rfl
theorem Ru : ((Rows.engineMoreRow.ifaces == (Tryz.f3.params.toList ++ Rows.engineMoreSpec.plain.varTypes Tryz.prog).any (Tryz.prog.ifacesRec ·))) = true := by
  simp only [Rc.yc]
  kernel_rfl
theorem Rv : ((Rows.engineMoreRow.mapsOut == Tryz.prog.mapsAmong Tryz.f3.resultTypes.toList)) = true := by kernel_rfl
theorem Rw : ((Rows.engineMoreRow.loops == (Tryz.f3.params.toList ++ Rows.engineMoreSpec.plain.varTypes Tryz.prog).any (Tryz.prog.loopsFrom ·))) = true := by
  simp only [Rc.Ca]
  kernel_rfl
theorem Ry : ((Rows.engineMoreRow.wideKeys == (Tryz.f3.params.toList ++ Rows.engineMoreSpec.plain.varTypes Tryz.prog ++ Tryz.f3.resultTypes.toList).any (Tryz.prog.wideKeysFrom ·))) = true := by
  simp only [Rc.MT]
  kernel_rfl
theorem Rz : (Rows.engineMoreSpec.vars.all (Tryz.prog.varReadable ·)) = true := by
  simp only [Rc.EN]
  kernel_rfl
theorem RA : (Tryz.f3.resultTypes.all (fun t => Tryz.prog.readableRec t && decide (t < Tryz.prog.types.size))) = true := by
  simp only [Rc.tP]
  kernel_rfl
theorem RB : ((Rows.engineMoreRow.ifacesOut == Tryz.f3.resultTypes.toList.any (Tryz.prog.ifacesRec ·))) = true := by
  simp only [Rc.yc]
  kernel_rfl
theorem RC : ((Rows.engineMoreRow.loopsOut == Tryz.f3.resultTypes.toList.any (Tryz.prog.loopsFrom ·))) = true := by
  simp only [Rc.Ca]
  kernel_rfl
theorem RD : ((Rows.engineMoreRow.plainKeys == Tryz.prog.plainKeys)) = true := by kernel_rfl
theorem RF : (Rows.engineMoreRow.shortTexts.isNone) = true := by kernel_rfl
theorem RG : (Tryz.prog.stopsHeard) = true := (Rc.tx _).trans (by kernel_rfl)
theorem RH : (Tryz.prog.mayEnter) = true := by
  unfold Program.mayEnter
  simp only [Rc.uX]
  kernel_rfl
theorem RJ : ((Rows.engineMoreRow.lifted == Tryz.prog.liftsFinal)) = true := by kernel_rfl
theorem RM : ((Tryz.prog.make == some Rows.engineMoreRow.make)) = true := by kernel_rfl
theorem RN : ((Rows.engineMoreRow.kinds == (if Rows.engineMoreRow.domain.isEmpty then [] else Tryz.f3.params.toList.map fun t => match Tryz.prog.underlying t with | some (.int k) => some k | _ => none))) = true := by kernel_rfl
theorem RO : ((Rows.engineMoreRow.pinned == Rows.engineMoreRow.pinnedBy)) = true := by kernel_rfl
theorem RP : ((Rows.engineMoreRow.veiled == (Tryz.f3.params.toList ++ Rows.engineMoreSpec.plain.varTypes Tryz.prog ++ Tryz.f3.resultTypes.toList).any (Tryz.prog.veiledRec ·))) = true := by
  simp only [Rc.rM]
  kernel_rfl
theorem RQ : (Rows.engineMoreRow.veiledFits Tryz.prog Tryz.f3.params.toList (Tryz.f3.params.toList ++ Rows.engineMoreSpec.plain.varTypes Tryz.prog ++ Tryz.f3.resultTypes.toList)) = true := by
  unfold OpenClaim.veiledFits
  simp only [Rc.rM, Rc.qx]
  kernel_rfl
end Go.Proofs.YtmpkegmkoclbhaaGreatDoor
