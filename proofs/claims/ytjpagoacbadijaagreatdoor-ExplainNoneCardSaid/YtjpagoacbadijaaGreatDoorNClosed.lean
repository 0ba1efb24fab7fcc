/- Closed facts of the program, each by itself. Conditions: none. -/
import Derived.Test.YtjpagoacbadijaaGreatDoorRows
import Derived.Test.YtjpagoacbadijaaGreatDoorNBi
namespace Go.Proofs.YtjpagoacbadijaaGreatDoor
open Go
set_option linter.all false
set_option maxRecDepth 1000000
theorem own : ownKnob Tryz.prog.godebug = none := by kernel_rfl
theorem Eb : Tryz.prog.types.size = 1056 := Nat.eq_of_beq_eq_true (by kernel_rfl)
theorem W3 : mapsRowed Tryz.prog = true := Rc.Jn (n := 34) Eb (by kernel_rfl) (by kernel_rfl)
theorem W4 : (List.range Tryz.prog.types.size).all (rowFine Tryz.prog) = true := Rc.Mx (n := 34) Eb (by kernel_rfl) (by kernel_rfl)
theorem Mz : Tryz.prog.globals.all (fun g => decide (g.type < Tryz.prog.types.size)) = true := Rc.Jo Eb (by kernel_rfl)
theorem O7 : Tryz.prog.funcs.all (fun f => f.params.all fun t => decide (t < Tryz.prog.types.size)) = true := Rc.My Eb (by kernel_rfl)
theorem laidOut : laidOutB Tryz.prog = true := Rc.O5 W4 Mz O7
theorem ace : (Rows.explainNoneRow.wf (OpenSpec.ofChange Rows.explainNoneSpec)) = true := by kernel_rfl
theorem acf : (Tryz.f4.params.all (Tryz.prog.readableRec ·)) = true := by
  simp only [Rc.yz]
  kernel_rfl
theorem acg : (namedTie Tryz.prog Rows.explainNoneRow.named Rows.explainNoneSpec.vars) = true := by kernel_rfl
theorem ach : ((Rows.explainNoneRow.stops == [])) = true := by kernel_rfl
theorem aci : ((Tryz.prog.stops == [])) = true := by kernel_rfl
theorem acj : ((Rows.explainNoneRow.knobs == [])) = true := by kernel_rfl
theorem ack : ((Tryz.prog.stopKnobs == [])) = true := by kernel_rfl
theorem W5 : ((Rows.explainNoneRow.maps == (Tryz.f4.params.toList ++ Rows.explainNoneSpec.plain.varTypes Tryz.prog).any (Tryz.prog.mapsRec ·))) = true := by
  simp only [Rc.Sp]
  kernel_rfl
theorem W6 : ((Rows.explainNoneRow.ifaces == (Tryz.f4.params.toList ++ Rows.explainNoneSpec.plain.varTypes Tryz.prog).any (Tryz.prog.ifacesRec ·))) = true := by
  simp only [Rc.Db]
  kernel_rfl
theorem W7 : ((Rows.explainNoneRow.mapsOut == Tryz.prog.mapsAmong Tryz.f4.resultTypes.toList)) = true := by kernel_rfl
theorem W8 : ((Rows.explainNoneRow.loops == (Tryz.f4.params.toList ++ Rows.explainNoneSpec.plain.varTypes Tryz.prog).any (Tryz.prog.loopsFrom ·))) = true := by
  simp only [Rc.GY]
  kernel_rfl
theorem W9 : ((Rows.explainNoneRow.wideKeys == (Tryz.f4.params.toList ++ Rows.explainNoneSpec.plain.varTypes Tryz.prog ++ Tryz.f4.resultTypes.toList).any (Tryz.prog.wideKeysFrom ·))) = true := by
  simp only [Rc.Sq]
  kernel_rfl
theorem Xa : (Rows.explainNoneSpec.vars.all (Tryz.prog.varReadable ·)) = true := by
  simp only [Rc.Jm]
  kernel_rfl
theorem Xb : (Tryz.f4.resultTypes.all (fun t => Tryz.prog.readableRec t && decide (t < Tryz.prog.types.size))) = true := by
  simp only [Rc.yz]
  kernel_rfl
theorem Xc : ((Rows.explainNoneRow.ifacesOut == Tryz.f4.resultTypes.toList.any (Tryz.prog.ifacesRec ·))) = true := by
  simp only [Rc.Db]
  kernel_rfl
theorem Xd : ((Rows.explainNoneRow.loopsOut == Tryz.f4.resultTypes.toList.any (Tryz.prog.loopsFrom ·))) = true := by
  simp only [Rc.GY]
  kernel_rfl
theorem Xe : ((Rows.explainNoneRow.plainKeys == Tryz.prog.plainKeys)) = true := by kernel_rfl
theorem Xf : (Rows.explainNoneRow.shortTexts.isNone) = true := by kernel_rfl
theorem Xg : (Tryz.prog.stopsHeard) = true := (Rc.x9 _).trans (by kernel_rfl)
theorem Xh : (Tryz.prog.mayEnter) = true := by
  unfold Program.mayEnter
  simp only [Rc.zX]
  kernel_rfl
theorem Xi : ((Rows.explainNoneRow.lifted == Tryz.prog.liftsFinal)) = true := by kernel_rfl
theorem Xj : ((Tryz.prog.make == some Rows.explainNoneRow.make)) = true := by kernel_rfl
theorem Xk : ((Rows.explainNoneRow.kinds == (if Rows.explainNoneRow.domain.isEmpty then [] else Tryz.f4.params.toList.map fun t => match Tryz.prog.underlying t with | some (.int k) => some k | _ => none))) = true := by kernel_rfl
theorem Xl : ((Rows.explainNoneRow.pinned == Rows.explainNoneRow.pinnedBy)) = true := by kernel_rfl
theorem Xm : ((Rows.explainNoneRow.veiled == (Tryz.f4.params.toList ++ Rows.explainNoneSpec.plain.varTypes Tryz.prog ++ Tryz.f4.resultTypes.toList).any (Tryz.prog.veiledRec ·))) = true := by
  simp only [Rc.vU]
  kernel_rfl
theorem Xn : (Rows.explainNoneRow.veiledFits Tryz.prog Tryz.f4.params.toList (Tryz.f4.params.toList ++ Rows.explainNoneSpec.plain.varTypes Tryz.prog ++ Tryz.f4.resultTypes.toList)) = true := by
  unfold OpenClaim.veiledFits
  simp only [Rc.vU, Rc.uH]
  kernel_rfl
end Go.Proofs.YtjpagoacbadijaaGreatDoor
