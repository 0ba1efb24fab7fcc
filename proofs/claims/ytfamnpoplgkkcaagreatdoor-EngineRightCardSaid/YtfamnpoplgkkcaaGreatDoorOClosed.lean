/- Closed facts of the program, each by itself. Conditions: none. -/
import Derived.Test.YtfamnpoplgkkcaaGreatDoorRows
import Derived.Test.YtfamnpoplgkkcaaGreatDoorOBi
namespace Go.Proofs.YtfamnpoplgkkcaaGreatDoor
open Go
set_option linter.all false
set_option maxRecDepth 1000000
theorem own : ownKnob Tryz.prog.godebug = none := by kernel_rfl
theorem zj : Tryz.prog.types.size = 1070 := Nat.eq_of_beq_eq_true (by kernel_rfl)
theorem Rh : mapsRowed Tryz.prog = true := Rc.EC (n := 34) zj (by kernel_rfl) (by kernel_rfl)
theorem Ri : (List.range Tryz.prog.types.size).all (rowFine Tryz.prog) = true := Rc.HB (n := 34) zj (by kernel_rfl) (by kernel_rfl)
theorem HD : Tryz.prog.globals.all (fun g => decide (g.type < Tryz.prog.types.size)) = true := Rc.ED zj (by kernel_rfl)
theorem J1 : Tryz.prog.funcs.all (fun f => f.params.all fun t => decide (t < Tryz.prog.types.size)) = true := Rc.HC zj (by kernel_rfl)
theorem laidOut : laidOutB Tryz.prog = true := Rc.JZ Ri HD J1
theorem V5 : (Rows.engineRightRow.wf (OpenSpec.ofChange Rows.engineRightSpec)) = true := by kernel_rfl
theorem V6 : (Tryz.f3.params.all (Tryz.prog.readableRec ·)) = true := by
  simp only [Rc.tO]
  kernel_rfl
theorem V7 : (namedTie Tryz.prog Rows.engineRightRow.named Rows.engineRightSpec.vars) = true := by kernel_rfl
theorem V8 : ((Rows.engineRightRow.stops == [])) = true := by kernel_rfl
theorem V9 : ((Tryz.prog.stops == [])) = true := by kernel_rfl
theorem Wa : ((Rows.engineRightRow.knobs == [])) = true := by kernel_rfl
theorem Wb : ((Tryz.prog.stopKnobs == [])) = true := by kernel_rfl
theorem Rj : ((Rows.engineRightRow.maps == (Tryz.f3.params.toList ++ Rows.engineRightSpec.plain.varTypes Tryz.prog).any (Tryz.prog.mapsRec ·))) = true := by
  simp only [Rc.MK]
  kernel_rfl
theorem Rk : ((Rows.engineRightRow.ifaces == (Tryz.f3.params.toList ++ Rows.engineRightSpec.plain.varTypes Tryz.prog).any (Tryz.prog.ifacesRec ·))) = true := by
  simp only [Rc.x3]
  kernel_rfl
theorem Rl : ((Rows.engineRightRow.mapsOut == Tryz.prog.mapsAmong Tryz.f3.resultTypes.toList)) = true := by kernel_rfl
theorem Rm : ((Rows.engineRightRow.loops == (Tryz.f3.params.toList ++ Rows.engineRightSpec.plain.varTypes Tryz.prog).any (Tryz.prog.loopsFrom ·))) = true := by
  simp only [Rc.BZ]
  kernel_rfl
theorem Rn : ((Rows.engineRightRow.wideKeys == (Tryz.f3.params.toList ++ Rows.engineRightSpec.plain.varTypes Tryz.prog ++ Tryz.f3.resultTypes.toList).any (Tryz.prog.wideKeysFrom ·))) = true := by
  simp only [Rc.ML]
  kernel_rfl
theorem Ro : (Rows.engineRightSpec.vars.all (Tryz.prog.varReadable ·)) = true := by
  simp only [Rc.EB]
  kernel_rfl
theorem Rp : (Tryz.f3.resultTypes.all (fun t => Tryz.prog.readableRec t && decide (t < Tryz.prog.types.size))) = true := by
  simp only [Rc.tO]
  kernel_rfl
theorem Rq : ((Rows.engineRightRow.ifacesOut == Tryz.f3.resultTypes.toList.any (Tryz.prog.ifacesRec ·))) = true := by
  simp only [Rc.x3]
  kernel_rfl
theorem Rr : ((Rows.engineRightRow.loopsOut == Tryz.f3.resultTypes.toList.any (Tryz.prog.loopsFrom ·))) = true := by
  simp only [Rc.BZ]
  kernel_rfl
theorem Rt : ((Rows.engineRightRow.plainKeys == Tryz.prog.plainKeys)) = true := by kernel_rfl
theorem Ru : (Rows.engineRightRow.shortTexts.isNone) = true := by kernel_rfl
theorem Rv : (Tryz.prog.stopsHeard) = true := (Rc.tw _).trans (by kernel_rfl)
theorem Rw : (Tryz.prog.mayEnter) = true := by
  unfold Program.mayEnter
  simp only [Rc.u0]
  kernel_rfl
theorem Ry : ((Rows.engineRightRow.lifted == Tryz.prog.liftsFinal)) = true := by kernel_rfl
theorem Rz : ((Tryz.prog.make == some Rows.engineRightRow.make)) = true := by kernel_rfl
theorem RA : ((Rows.engineRightRow.kinds == (if Rows.engineRightRow.domain.isEmpty then [] else Tryz.f3.params.toList.map fun t => match Tryz.prog.underlying t with | some (.int k) => some k | _ => none))) = true := by kernel_rfl
theorem RB : ((Rows.engineRightRow.pinned == Rows.engineRightRow.pinnedBy)) = true := by kernel_rfl
theorem RC : ((Rows.engineRightRow.veiled == (Tryz.f3.params.toList ++ Rows.engineRightSpec.plain.varTypes Tryz.prog ++ Tryz.f3.resultTypes.toList).any (Tryz.prog.veiledRec ·))) = true := by
  simp only [Rc.rI]
  kernel_rfl
theorem RD : (Rows.engineRightRow.veiledFits Tryz.prog Tryz.f3.params.toList (Tryz.f3.params.toList ++ Rows.engineRightSpec.plain.varTypes Tryz.prog ++ Tryz.f3.resultTypes.toList)) = true := by
  unfold OpenClaim.veiledFits
  simp only [Rc.rI, Rc.qn]
  kernel_rfl
end Go.Proofs.YtfamnpoplgkkcaaGreatDoor
