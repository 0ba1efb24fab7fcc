/- Closed facts of the program, each by itself. Conditions: none. -/
import Derived.Test.YtcongbofepbmeaaGreatDoorRows
import Derived.Test.YtcongbofepbmeaaGreatDoorFBi
namespace Go.Proofs.YtcongbofepbmeaaGreatDoor
open Go
set_option linter.all false
set_option maxRecDepth 1000000
theorem own : ownKnob Tryz.prog.godebug = none := by kernel_rfl
theorem yj : Tryz.prog.types.size = 1036 := Nat.eq_of_beq_eq_true (by kernel_rfl)
theorem Og : mapsRowed Tryz.prog = true := Rc.C8 (n := 33) yj (by kernel_rfl) (by kernel_rfl)
theorem Oh : (List.range Tryz.prog.types.size).all (rowFine Tryz.prog) = true := Rc.F6 (n := 33) yj (by kernel_rfl) (by kernel_rfl)
theorem Ga : Tryz.prog.globals.all (fun g => decide (g.type < Tryz.prog.types.size)) = true := Rc.C9 yj (by kernel_rfl)
theorem HZ : Tryz.prog.funcs.all (fun f => f.params.all fun t => decide (t < Tryz.prog.types.size)) = true := Rc.F7 yj (by kernel_rfl)
theorem laidOut : laidOutB Tryz.prog = true := Rc.HW Oh Ga HZ
theorem SQ : (Rows.freshValuesRow.wf (OpenSpec.ofChange Rows.freshValuesSpec)) = true := by kernel_rfl
theorem SS : (Tryz.f3.params.all (Tryz.prog.readableRec ·)) = true := by
  simp only [Rc.jr]
  kernel_rfl
theorem SU : (namedTie Tryz.prog Rows.freshValuesRow.named Rows.freshValuesSpec.vars) = true := by kernel_rfl
theorem SX : ((Rows.freshValuesRow.stops == [])) = true := by kernel_rfl
theorem SY : ((Tryz.prog.stops == [])) = true := by kernel_rfl
theorem SZ : ((Rows.freshValuesRow.knobs == [])) = true := by kernel_rfl
theorem S0 : ((Tryz.prog.stopKnobs == [])) = true := by kernel_rfl
theorem Oi : ((Rows.freshValuesRow.maps == (Tryz.f3.params.toList ++ Rows.freshValuesSpec.plain.varTypes Tryz.prog).any (Tryz.prog.mapsRec ·))) = true := by
  simp only [Rc.Ks]
  kernel_rfl
theorem Oj : ((Rows.freshValuesRow.ifaces == (Tryz.f3.params.toList ++ Rows.freshValuesSpec.plain.varTypes Tryz.prog).any (Tryz.prog.ifacesRec ·))) = true := by
  simp only [Rc.xp]
  kernel_rfl
theorem Ol : ((Rows.freshValuesRow.mapsOut == Tryz.prog.mapsAmong Tryz.f3.resultTypes.toList)) = true := by kernel_rfl
theorem Om : ((Rows.freshValuesRow.loops == (Tryz.f3.params.toList ++ Rows.freshValuesSpec.plain.varTypes Tryz.prog).any (Tryz.prog.loopsFrom ·))) = true := by
  simp only [Rc.AD]
  kernel_rfl
theorem On : ((Rows.freshValuesRow.wideKeys == (Tryz.f3.params.toList ++ Rows.freshValuesSpec.plain.varTypes Tryz.prog ++ Tryz.f3.resultTypes.toList).any (Tryz.prog.wideKeysFrom ·))) = true := by
  simp only [Rc.Kt]
  kernel_rfl
theorem Oo : (Rows.freshValuesSpec.vars.all (Tryz.prog.varReadable ·)) = true := by
  simp only [Rc.C7]
  kernel_rfl
theorem Oq : (Tryz.f3.resultTypes.all (fun t => Tryz.prog.readableRec t && decide (t < Tryz.prog.types.size))) = true := by
  simp only [Rc.jr]
  kernel_rfl
theorem Ot : ((Rows.freshValuesRow.ifacesOut == Tryz.f3.resultTypes.toList.any (Tryz.prog.ifacesRec ·))) = true := by
  simp only [Rc.xp]
  kernel_rfl
theorem Ou : ((Rows.freshValuesRow.loopsOut == Tryz.f3.resultTypes.toList.any (Tryz.prog.loopsFrom ·))) = true := by
  simp only [Rc.AD]
  kernel_rfl
theorem Ov : ((Rows.freshValuesRow.plainKeys == Tryz.prog.plainKeys)) = true := by kernel_rfl
theorem Ox : (Rows.freshValuesRow.shortTexts.isNone) = true := by kernel_rfl
theorem Oy : (Tryz.prog.stopsHeard) = true := (Rc.r6 _).trans (by kernel_rfl)
theorem Oz : (Tryz.prog.mayEnter) = true := by
  unfold Program.mayEnter
  simp only [Rc.ua]
  kernel_rfl
theorem OA : ((Rows.freshValuesRow.lifted == Tryz.prog.liftsFinal)) = true := by kernel_rfl
theorem OB : ((Tryz.prog.make == some Rows.freshValuesRow.make)) = true := by kernel_rfl
theorem OC : ((Rows.freshValuesRow.kinds == (if Rows.freshValuesRow.domain.isEmpty then [] else Tryz.f3.params.toList.map fun t => match Tryz.prog.underlying t with | some (.int k) => some k | _ => none))) = true := by kernel_rfl
theorem OD : ((Rows.freshValuesRow.pinned == Rows.freshValuesRow.pinnedBy)) = true := by kernel_rfl
theorem OE : ((Rows.freshValuesRow.veiled == (Tryz.f3.params.toList ++ Rows.freshValuesSpec.plain.varTypes Tryz.prog ++ Tryz.f3.resultTypes.toList).any (Tryz.prog.veiledRec ·))) = true := by
  simp only [Rc.qi]
  kernel_rfl
theorem OG : (Rows.freshValuesRow.veiledFits Tryz.prog Tryz.f3.params.toList (Tryz.f3.params.toList ++ Rows.freshValuesSpec.plain.varTypes Tryz.prog ++ Tryz.f3.resultTypes.toList)) = true := by
  unfold OpenClaim.veiledFits
  simp only [Rc.qi, Rc.pg]
  kernel_rfl
end Go.Proofs.YtcongbofepbmeaaGreatDoor
