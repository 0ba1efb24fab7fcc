/- Closed facts of the program, each by itself. Conditions: none. -/
import Derived.Test.YtpoiojafnnaccaaGreatDoorRows
import Derived.Test.YtpoiojafnnaccaaGreatDoorTBi
namespace Go.Proofs.YtpoiojafnnaccaaGreatDoor
open Go
set_option linter.all false
set_option maxRecDepth 1000000
theorem own : ownKnob Tryz.prog.godebug = none := by kernel_rfl
theorem FB : Tryz.prog.types.size = 1062 := Nat.eq_of_beq_eq_true (by kernel_rfl)
theorem XZ : mapsRowed Tryz.prog = true := Rc.KJ (n := 34) FB (by kernel_rfl) (by kernel_rfl)
theorem X0 : (List.range Tryz.prog.types.size).all (rowFine Tryz.prog) = true := Rc.NX (n := 34) FB (by kernel_rfl) (by kernel_rfl)
theorem NZ : Tryz.prog.globals.all (fun g => decide (g.type < Tryz.prog.types.size)) = true := Rc.KL FB (by kernel_rfl)
theorem Qn : Tryz.prog.funcs.all (fun f => f.params.all fun t => decide (t < Tryz.prog.types.size)) = true := Rc.NY FB (by kernel_rfl)
theorem laidOut : laidOutB Tryz.prog = true := Rc.Ql X0 NZ Qn
theorem adg : (Rows.auditTheoremRow.wf (OpenSpec.ofChange Rows.auditTheoremSpec)) = true := by kernel_rfl
theorem adh : (Tryz.f3.params.all (Tryz.prog.readableRec ·)) = true := by
  simp only [Rc.zJ]
  kernel_rfl
theorem adi : (namedTie Tryz.prog Rows.auditTheoremRow.named Rows.auditTheoremSpec.vars) = true := by kernel_rfl
theorem adj : ((Rows.auditTheoremRow.stops == [])) = true := by kernel_rfl
theorem adk : ((Tryz.prog.stops == [])) = true := by kernel_rfl
theorem adl : ((Rows.auditTheoremRow.knobs == [])) = true := by kernel_rfl
theorem adm : ((Tryz.prog.stopKnobs == [])) = true := by kernel_rfl
theorem X2 : ((Rows.auditTheoremRow.maps == (Tryz.f3.params.toList ++ Rows.auditTheoremSpec.plain.varTypes Tryz.prog).any (Tryz.prog.mapsRec ·))) = true := by
  simp only [Rc.Tx]
  kernel_rfl
theorem X3 : ((Rows.auditTheoremRow.ifaces == (Tryz.f3.params.toList ++ Rows.auditTheoremSpec.plain.varTypes Tryz.prog).any (Tryz.prog.ifacesRec ·))) = true := by
  simp only [Rc.Er]
  kernel_rfl
theorem X4 : ((Rows.auditTheoremRow.mapsOut == Tryz.prog.mapsAmong Tryz.f3.resultTypes.toList)) = true := by kernel_rfl
theorem X5 : ((Rows.auditTheoremRow.loops == (Tryz.f3.params.toList ++ Rows.auditTheoremSpec.plain.varTypes Tryz.prog).any (Tryz.prog.loopsFrom ·))) = true := by
  simp only [Rc.H8]
  kernel_rfl
theorem X6 : ((Rows.auditTheoremRow.wideKeys == (Tryz.f3.params.toList ++ Rows.auditTheoremSpec.plain.varTypes Tryz.prog ++ Tryz.f3.resultTypes.toList).any (Tryz.prog.wideKeysFrom ·))) = true := by
  simp only [Rc.Ty]
  kernel_rfl
theorem X7 : (Rows.auditTheoremSpec.vars.all (Tryz.prog.varReadable ·)) = true := by
  simp only [Rc.KI]
  kernel_rfl
theorem X8 : (Tryz.f3.resultTypes.all (fun t => Tryz.prog.readableRec t && decide (t < Tryz.prog.types.size))) = true := by
  simp only [Rc.zJ]
  kernel_rfl
theorem X9 : ((Rows.auditTheoremRow.ifacesOut == Tryz.f3.resultTypes.toList.any (Tryz.prog.ifacesRec ·))) = true := by
  simp only [Rc.Er]
  kernel_rfl
theorem Ya : ((Rows.auditTheoremRow.loopsOut == Tryz.f3.resultTypes.toList.any (Tryz.prog.loopsFrom ·))) = true := by
  simp only [Rc.H8]
  kernel_rfl
theorem Yb : ((Rows.auditTheoremRow.plainKeys == Tryz.prog.plainKeys)) = true := by kernel_rfl
theorem Yc : (Rows.auditTheoremRow.shortTexts.isNone) = true := by kernel_rfl
theorem Yd : (Tryz.prog.stopsHeard) = true := (Rc.zk _).trans (by kernel_rfl)
theorem Ye : (Tryz.prog.mayEnter) = true := by
  unfold Program.mayEnter
  simp only [Rc.Bo]
  kernel_rfl
theorem Yf : ((Rows.auditTheoremRow.lifted == Tryz.prog.liftsFinal)) = true := by kernel_rfl
theorem Yg : ((Tryz.prog.make == some Rows.auditTheoremRow.make)) = true := by kernel_rfl
theorem Yh : ((Rows.auditTheoremRow.kinds == (if Rows.auditTheoremRow.domain.isEmpty then [] else Tryz.f3.params.toList.map fun t => match Tryz.prog.underlying t with | some (.int k) => some k | _ => none))) = true := by kernel_rfl
theorem Yi : ((Rows.auditTheoremRow.pinned == Rows.auditTheoremRow.pinnedBy)) = true := by kernel_rfl
theorem Yj : ((Rows.auditTheoremRow.veiled == (Tryz.f3.params.toList ++ Rows.auditTheoremSpec.plain.varTypes Tryz.prog ++ Tryz.f3.resultTypes.toList).any (Tryz.prog.veiledRec ·))) = true := by
  simp only [Rc.xD]
  kernel_rfl
theorem Yk : (Rows.auditTheoremRow.veiledFits Tryz.prog Tryz.f3.params.toList (Tryz.f3.params.toList ++ Rows.auditTheoremSpec.plain.varTypes Tryz.prog ++ Tryz.f3.resultTypes.toList)) = true := by
  unfold OpenClaim.veiledFits
  simp only [Rc.xD, Rc.vJ]
  kernel_rfl
end Go.Proofs.YtpoiojafnnaccaaGreatDoor
