/- Closed facts of the program, each by itself. Conditions: none. -/
import Derived.Test.YtmpkegmkoclbhaaGreatDoorRows
import Derived.Test.YtmpkegmkoclbhaaGreatDoorDBi
namespace Go.Proofs.YtmpkegmkoclbhaaGreatDoor
open Go
set_option linter.all false
set_option maxRecDepth 1000000
theorem own : ownKnob Tryz.prog.godebug = none := by kernel_rfl
theorem zj : Tryz.prog.types.size = 1068 := Nat.eq_of_beq_eq_true (by kernel_rfl)
theorem Rl : mapsRowed Tryz.prog = true := Rc.ET (n := 34) zj (by kernel_rfl) (by kernel_rfl)
theorem Rm : (List.range Tryz.prog.types.size).all (rowFine Tryz.prog) = true := Rc.HR (n := 34) zj (by kernel_rfl) (by kernel_rfl)
theorem HT : Tryz.prog.globals.all (fun g => decide (g.type < Tryz.prog.types.size)) = true := Rc.EU zj (by kernel_rfl)
theorem Kk : Tryz.prog.funcs.all (fun f => f.params.all fun t => decide (t < Tryz.prog.types.size)) = true := Rc.HS zj (by kernel_rfl)
theorem laidOut : laidOutB Tryz.prog = true := Rc.Ki Rm HT Kk
theorem Wl : (Rows.engineOrderRow.wf (OpenSpec.ofChange Rows.engineOrderSpec)) = true := by kernel_rfl
theorem Wm : (Tryz.f4.params.all (Tryz.prog.readableRec ·)) = true := by
  simp only [Rc.tO]
  kernel_rfl
theorem Wn : (namedTie Tryz.prog Rows.engineOrderRow.named Rows.engineOrderSpec.vars) = true := by kernel_rfl
theorem Wo : ((Rows.engineOrderRow.stops == [])) = true := by kernel_rfl
theorem Wp : ((Tryz.prog.stops == [])) = true := by kernel_rfl
theorem Wq : ((Rows.engineOrderRow.knobs == [])) = true := by kernel_rfl
theorem Wr : ((Tryz.prog.stopKnobs == [])) = true := by kernel_rfl
theorem Rn : ((Rows.engineOrderRow.maps == (Tryz.f4.params.toList ++ Rows.engineOrderSpec.plain.varTypes Tryz.prog).any (Tryz.prog.mapsRec ·))) = true := by
  simp only [Rc.Na]
  kernel_rfl
theorem Ro : ((Rows.engineOrderRow.ifaces == (Tryz.f4.params.toList ++ Rows.engineOrderSpec.plain.varTypes Tryz.prog).any (Tryz.prog.ifacesRec ·))) = true := by
  simp only [Rc.x8]
  kernel_rfl
theorem Rp : ((Rows.engineOrderRow.mapsOut == Tryz.prog.mapsAmong Tryz.f4.resultTypes.toList)) = true := by kernel_rfl
theorem Rq : ((Rows.engineOrderRow.loops == (Tryz.f4.params.toList ++ Rows.engineOrderSpec.plain.varTypes Tryz.prog).any (Tryz.prog.loopsFrom ·))) = true := by
  simp only [Rc.B8]
  kernel_rfl
theorem Rr : ((Rows.engineOrderRow.wideKeys == (Tryz.f4.params.toList ++ Rows.engineOrderSpec.plain.varTypes Tryz.prog ++ Tryz.f4.resultTypes.toList).any (Tryz.prog.wideKeysFrom ·))) = true := by
  simp only [Rc.Nb]
  kernel_rfl
theorem Rt : (Rows.engineOrderSpec.vars.all (Tryz.prog.varReadable ·)) = true := by
  simp only [Rc.EP]
  kernel_rfl
theorem Ru : (Tryz.f4.resultTypes.all (fun t => Tryz.prog.readableRec t && decide (t < Tryz.prog.types.size))) = true := by
  simp only [Rc.tO]
  kernel_rfl
theorem Rv : ((Rows.engineOrderRow.ifacesOut == Tryz.f4.resultTypes.toList.any (Tryz.prog.ifacesRec ·))) = true := by
  simp only [Rc.x8]
  kernel_rfl
theorem Rw : ((Rows.engineOrderRow.loopsOut == Tryz.f4.resultTypes.toList.any (Tryz.prog.loopsFrom ·))) = true := by
  simp only [Rc.B8]
  kernel_rfl
theorem Ry : ((Rows.engineOrderRow.plainKeys == Tryz.prog.plainKeys)) = true := by kernel_rfl
theorem Rz : (Rows.engineOrderRow.shortTexts.isNone) = true := by kernel_rfl
theorem RA : (Tryz.prog.stopsHeard) = true := (Rc.tu _).trans (by kernel_rfl)
theorem RB : (Tryz.prog.mayEnter) = true := by
  unfold Program.mayEnter
  simp only [Rc.uX]
  kernel_rfl
theorem RC : ((Rows.engineOrderRow.lifted == Tryz.prog.liftsFinal)) = true := by kernel_rfl
theorem RD : ((Tryz.prog.make == some Rows.engineOrderRow.make)) = true := by kernel_rfl
theorem RF : ((Rows.engineOrderRow.kinds == (if Rows.engineOrderRow.domain.isEmpty then [] else Tryz.f4.params.toList.map fun t => match Tryz.prog.underlying t with | some (.int k) => some k | _ => none))) = true := by kernel_rfl
theorem RG : ((Rows.engineOrderRow.pinned == Rows.engineOrderRow.pinnedBy)) = true := by kernel_rfl
theorem RH : ((Rows.engineOrderRow.veiled == (Tryz.f4.params.toList ++ Rows.engineOrderSpec.plain.varTypes Tryz.prog ++ Tryz.f4.resultTypes.toList).any (Tryz.prog.veiledRec ·))) = true := by
  simp only [Rc.rJ]
  kernel_rfl
theorem RJ : (Rows.engineOrderRow.veiledFits Tryz.prog Tryz.f4.params.toList (Tryz.f4.params.toList ++ Rows.engineOrderSpec.plain.varTypes Tryz.prog ++ Tryz.f4.resultTypes.toList)) = true := by
  unfold OpenClaim.veiledFits
  simp only [Rc.rJ, Rc.qo]
  kernel_rfl
end Go.Proofs.YtmpkegmkoclbhaaGreatDoor
