/- Closed facts of the program, each by itself. Conditions: none. -/
import Derived.Test.YtilldnlhckpbjaaGreatDoorRows
import Derived.Test.YtilldnlhckpbjaaGreatDoorEBi
namespace Go.Proofs.YtilldnlhckpbjaaGreatDoor
open Go
set_option linter.all false
set_option maxRecDepth 1000000
theorem own : ownKnob Tryz.prog.godebug = none := by kernel_rfl
theorem vx : Tryz.prog.types.size = 1051 := Nat.eq_of_beq_eq_true (by kernel_rfl)
theorem Lf : mapsRowed Tryz.prog = true := Rc.zW (n := 33) vx (by kernel_rfl) (by kernel_rfl)
theorem Lg : (List.range Tryz.prog.types.size).all (rowFine Tryz.prog) = true := Rc.CT (n := 33) vx (by kernel_rfl) (by kernel_rfl)
theorem CV : Tryz.prog.globals.all (fun g => decide (g.type < Tryz.prog.types.size)) = true := Rc.zX vx (by kernel_rfl)
theorem Fb : Tryz.prog.funcs.all (fun f => f.params.all fun t => decide (t < Tryz.prog.types.size)) = true := Rc.CU vx (by kernel_rfl)
theorem laidOut : laidOutB Tryz.prog = true := Rc.E9 Lg CV Fb
theorem PT : (Rows.explainEndsRow.wf (OpenSpec.ofChange Rows.explainEndsSpec)) = true := by kernel_rfl
theorem PU : (Tryz.f4.params.all (Tryz.prog.readableRec ·)) = true := by
  simp only [Rc.qw]
  kernel_rfl
theorem PW : (namedTie Tryz.prog Rows.explainEndsRow.named Rows.explainEndsSpec.vars) = true := by kernel_rfl
theorem PX : ((Rows.explainEndsRow.stops == [])) = true := by kernel_rfl
theorem PY : ((Tryz.prog.stops == [])) = true := by kernel_rfl
theorem PZ : ((Rows.explainEndsRow.knobs == [])) = true := by kernel_rfl
theorem P0 : ((Tryz.prog.stopKnobs == [])) = true := by kernel_rfl
theorem Lh : ((Rows.explainEndsRow.maps == (Tryz.f4.params.toList ++ Rows.explainEndsSpec.plain.varTypes Tryz.prog).any (Tryz.prog.mapsRec ·))) = true := by
  simp only [Rc.HC]
  kernel_rfl
theorem Li : ((Rows.explainEndsRow.ifaces == (Tryz.f4.params.toList ++ Rows.explainEndsSpec.plain.varTypes Tryz.prog).any (Tryz.prog.ifacesRec ·))) = true := by
  simp only [Rc.uC]
  kernel_rfl
theorem Lj : ((Rows.explainEndsRow.mapsOut == Tryz.prog.mapsAmong Tryz.f4.resultTypes.toList)) = true := by kernel_rfl
theorem Lk : ((Rows.explainEndsRow.loops == (Tryz.f4.params.toList ++ Rows.explainEndsSpec.plain.varTypes Tryz.prog).any (Tryz.prog.loopsFrom ·))) = true := by
  simp only [Rc.xT]
  kernel_rfl
theorem Ll : ((Rows.explainEndsRow.wideKeys == (Tryz.f4.params.toList ++ Rows.explainEndsSpec.plain.varTypes Tryz.prog ++ Tryz.f4.resultTypes.toList).any (Tryz.prog.wideKeysFrom ·))) = true := by
  simp only [Rc.HD]
  kernel_rfl
theorem Lm : (Rows.explainEndsSpec.vars.all (Tryz.prog.varReadable ·)) = true := by
  simp only [Rc.zV]
  kernel_rfl
theorem Ln : (Tryz.f4.resultTypes.all (fun t => Tryz.prog.readableRec t && decide (t < Tryz.prog.types.size))) = true := by
  simp only [Rc.qw]
  kernel_rfl
theorem Lo : ((Rows.explainEndsRow.ifacesOut == Tryz.f4.resultTypes.toList.any (Tryz.prog.ifacesRec ·))) = true := by
  simp only [Rc.uC]
  kernel_rfl
theorem Lp : ((Rows.explainEndsRow.loopsOut == Tryz.f4.resultTypes.toList.any (Tryz.prog.loopsFrom ·))) = true := by
  simp only [Rc.xT]
  kernel_rfl
theorem Lq : ((Rows.explainEndsRow.plainKeys == Tryz.prog.plainKeys)) = true := by kernel_rfl
theorem Lr : (Rows.explainEndsRow.shortTexts.isNone) = true := by kernel_rfl
theorem Ls : (Tryz.prog.stopsHeard) = true := (Rc.qb _).trans (by kernel_rfl)
theorem Lt : (Tryz.prog.mayEnter) = true := by
  unfold Program.mayEnter
  simp only [Rc.rK]
  kernel_rfl
theorem Lu : ((Rows.explainEndsRow.lifted == Tryz.prog.liftsFinal)) = true := by kernel_rfl
theorem Lv : ((Tryz.prog.make == some Rows.explainEndsRow.make)) = true := by kernel_rfl
theorem Lx : ((Rows.explainEndsRow.kinds == (if Rows.explainEndsRow.domain.isEmpty then [] else Tryz.f4.params.toList.map fun t => match Tryz.prog.underlying t with | some (.int k) => some k | _ => none))) = true := by kernel_rfl
theorem Ly : ((Rows.explainEndsRow.pinned == Rows.explainEndsRow.pinnedBy)) = true := by kernel_rfl
theorem Lz : ((Rows.explainEndsRow.veiled == (Tryz.f4.params.toList ++ Rows.explainEndsSpec.plain.varTypes Tryz.prog ++ Tryz.f4.resultTypes.toList).any (Tryz.prog.veiledRec ·))) = true := by
  simp only [Rc.oH]
  kernel_rfl
theorem LA : (Rows.explainEndsRow.veiledFits Tryz.prog Tryz.f4.params.toList (Tryz.f4.params.toList ++ Rows.explainEndsSpec.plain.varTypes Tryz.prog ++ Tryz.f4.resultTypes.toList)) = true := by
  unfold OpenClaim.veiledFits
  simp only [Rc.oH, Rc.nQ]
  kernel_rfl
end Go.Proofs.YtilldnlhckpbjaaGreatDoor
