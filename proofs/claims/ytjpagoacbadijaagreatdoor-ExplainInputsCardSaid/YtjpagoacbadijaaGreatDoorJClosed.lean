/- Closed facts of the program, each by itself. Conditions: none. -/
import Derived.Test.YtjpagoacbadijaaGreatDoorRows
import Derived.Test.YtjpagoacbadijaaGreatDoorJBi
namespace Go.Proofs.YtjpagoacbadijaaGreatDoor
open Go
set_option linter.all false
set_option maxRecDepth 1000000
theorem own : ownKnob Tryz.prog.godebug = none := by kernel_rfl
theorem u7 : Tryz.prog.types.size = 1056 := Nat.eq_of_beq_eq_true (by kernel_rfl)
theorem Kq : mapsRowed Tryz.prog = true := Rc.zC (n := 34) u7 (by kernel_rfl) (by kernel_rfl)
theorem Kr : (List.range Tryz.prog.types.size).all (rowFine Tryz.prog) = true := Rc.Cr (n := 34) u7 (by kernel_rfl) (by kernel_rfl)
theorem Ct : Tryz.prog.globals.all (fun g => decide (g.type < Tryz.prog.types.size)) = true := Rc.zD u7 (by kernel_rfl)
theorem Et : Tryz.prog.funcs.all (fun f => f.params.all fun t => decide (t < Tryz.prog.types.size)) = true := Rc.Cs u7 (by kernel_rfl)
theorem laidOut : laidOutB Tryz.prog = true := Rc.Er Kr Ct Et
theorem OU : (Rows.explainInputsRow.wf (OpenSpec.ofChange Rows.explainInputsSpec)) = true := by kernel_rfl
theorem OV : (Tryz.f5.params.all (Tryz.prog.readableRec ·)) = true := by
  simp only [Rc.pU]
  kernel_rfl
theorem OW : (namedTie Tryz.prog Rows.explainInputsRow.named Rows.explainInputsSpec.vars) = true := by kernel_rfl
theorem OY : ((Rows.explainInputsRow.stops == [])) = true := by kernel_rfl
theorem OZ : ((Tryz.prog.stops == [])) = true := by kernel_rfl
theorem O0 : ((Rows.explainInputsRow.knobs == [])) = true := by kernel_rfl
theorem O1 : ((Tryz.prog.stopKnobs == [])) = true := by kernel_rfl
theorem Ks : ((Rows.explainInputsRow.maps == (Tryz.f5.params.toList ++ Rows.explainInputsSpec.plain.varTypes Tryz.prog).any (Tryz.prog.mapsRec ·))) = true := by
  simp only [Rc.G9]
  kernel_rfl
theorem Kt : ((Rows.explainInputsRow.ifaces == (Tryz.f5.params.toList ++ Rows.explainInputsSpec.plain.varTypes Tryz.prog).any (Tryz.prog.ifacesRec ·))) = true := by
  simp only [Rc.tY]
  kernel_rfl
theorem Ku : ((Rows.explainInputsRow.mapsOut == Tryz.prog.mapsAmong Tryz.f5.resultTypes.toList)) = true := by kernel_rfl
theorem Kv : ((Rows.explainInputsRow.loops == (Tryz.f5.params.toList ++ Rows.explainInputsSpec.plain.varTypes Tryz.prog).any (Tryz.prog.loopsFrom ·))) = true := by
  simp only [Rc.xw]
  kernel_rfl
theorem Kw : ((Rows.explainInputsRow.wideKeys == (Tryz.f5.params.toList ++ Rows.explainInputsSpec.plain.varTypes Tryz.prog ++ Tryz.f5.resultTypes.toList).any (Tryz.prog.wideKeysFrom ·))) = true := by
  simp only [Rc.Ha]
  kernel_rfl
theorem Kx : (Rows.explainInputsSpec.vars.all (Tryz.prog.varReadable ·)) = true := by
  simp only [Rc.zB]
  kernel_rfl
theorem Ky : (Tryz.f5.resultTypes.all (fun t => Tryz.prog.readableRec t && decide (t < Tryz.prog.types.size))) = true := by
  simp only [Rc.pU]
  kernel_rfl
theorem Kz : ((Rows.explainInputsRow.ifacesOut == Tryz.f5.resultTypes.toList.any (Tryz.prog.ifacesRec ·))) = true := by
  simp only [Rc.tY]
  kernel_rfl
theorem KA : ((Rows.explainInputsRow.loopsOut == Tryz.f5.resultTypes.toList.any (Tryz.prog.loopsFrom ·))) = true := by
  simp only [Rc.xw]
  kernel_rfl
theorem KB : ((Rows.explainInputsRow.plainKeys == Tryz.prog.plainKeys)) = true := by kernel_rfl
theorem KC : (Rows.explainInputsRow.shortTexts.isNone) = true := by kernel_rfl
theorem KD : (Tryz.prog.stopsHeard) = true := (Rc.pE _).trans (by kernel_rfl)
theorem KF : (Tryz.prog.mayEnter) = true := by
  unfold Program.mayEnter
  simp only [Rc.qX]
  kernel_rfl
theorem KG : ((Rows.explainInputsRow.lifted == Tryz.prog.liftsFinal)) = true := by kernel_rfl
theorem KH : ((Tryz.prog.make == some Rows.explainInputsRow.make)) = true := by kernel_rfl
theorem KI : ((Rows.explainInputsRow.kinds == (if Rows.explainInputsRow.domain.isEmpty then [] else Tryz.f5.params.toList.map fun t => match Tryz.prog.underlying t with | some (.int k) => some k | _ => none))) = true := by kernel_rfl
theorem KJ : ((Rows.explainInputsRow.pinned == Rows.explainInputsRow.pinnedBy)) = true := by kernel_rfl
theorem KL : ((Rows.explainInputsRow.veiled == (Tryz.f5.params.toList ++ Rows.explainInputsSpec.plain.varTypes Tryz.prog ++ Tryz.f5.resultTypes.toList).any (Tryz.prog.veiledRec ·))) = true := by
  simp only [Rc.oi]
  kernel_rfl
theorem KN : (Rows.explainInputsRow.veiledFits Tryz.prog Tryz.f5.params.toList (Tryz.f5.params.toList ++ Rows.explainInputsSpec.plain.varTypes Tryz.prog ++ Tryz.f5.resultTypes.toList)) = true := by
  unfold OpenClaim.veiledFits
  simp only [Rc.oi, Rc.nv]
  kernel_rfl
end Go.Proofs.YtjpagoacbadijaaGreatDoor
