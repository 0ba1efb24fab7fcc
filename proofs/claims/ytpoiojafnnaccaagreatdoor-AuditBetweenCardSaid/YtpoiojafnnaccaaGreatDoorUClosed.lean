/- Closed facts of the program, each by itself. Conditions: none. -/
import Derived.Test.YtpoiojafnnaccaaGreatDoorRows
import Derived.Test.YtpoiojafnnaccaaGreatDoorUBi
namespace Go.Proofs.YtpoiojafnnaccaaGreatDoor
open Go
set_option linter.all false
set_option maxRecDepth 1000000
theorem own : ownKnob Tryz.prog.godebug = none := by kernel_rfl
theorem Fk : Tryz.prog.types.size = 1062 := Nat.eq_of_beq_eq_true (by kernel_rfl)
theorem XO : mapsRowed Tryz.prog = true := Rc.Kp (n := 34) Fk (by kernel_rfl) (by kernel_rfl)
theorem XP : (List.range Tryz.prog.types.size).all (rowFine Tryz.prog) = true := Rc.Nz (n := 34) Fk (by kernel_rfl) (by kernel_rfl)
theorem NC : Tryz.prog.globals.all (fun g => decide (g.type < Tryz.prog.types.size)) = true := Rc.Kq Fk (by kernel_rfl)
theorem P6 : Tryz.prog.funcs.all (fun f => f.params.all fun t => decide (t < Tryz.prog.types.size)) = true := Rc.NB Fk (by kernel_rfl)
theorem laidOut : laidOutB Tryz.prog = true := Rc.P4 XP NC P6
theorem ac2 : (Rows.auditBetweenRow.wf (OpenSpec.ofChange Rows.auditBetweenSpec)) = true := by kernel_rfl
theorem ac3 : (Tryz.f4.params.all (Tryz.prog.readableRec ·)) = true := by
  simp only [Rc.vC]
  kernel_rfl
theorem ac4 : (namedTie Tryz.prog Rows.auditBetweenRow.named Rows.auditBetweenSpec.vars) = true := by kernel_rfl
theorem ac5 : ((Rows.auditBetweenRow.stops == [])) = true := by kernel_rfl
theorem ac6 : ((Tryz.prog.stops == [])) = true := by kernel_rfl
theorem ac7 : ((Rows.auditBetweenRow.knobs == [])) = true := by kernel_rfl
theorem ac8 : ((Tryz.prog.stopKnobs == [])) = true := by kernel_rfl
theorem XQ : ((Rows.auditBetweenRow.maps == (Tryz.f4.params.toList ++ Rows.auditBetweenSpec.plain.varTypes Tryz.prog).any (Tryz.prog.mapsRec ·))) = true := by
  simp only [Rc.Td]
  kernel_rfl
theorem XR : ((Rows.auditBetweenRow.ifaces == (Tryz.f4.params.toList ++ Rows.auditBetweenSpec.plain.varTypes Tryz.prog).any (Tryz.prog.ifacesRec ·))) = true := by
  simp only [Rc.D7]
  kernel_rfl
theorem XS : ((Rows.auditBetweenRow.mapsOut == Tryz.prog.mapsAmong Tryz.f4.resultTypes.toList)) = true := by kernel_rfl
theorem XT : ((Rows.auditBetweenRow.loops == (Tryz.f4.params.toList ++ Rows.auditBetweenSpec.plain.varTypes Tryz.prog).any (Tryz.prog.loopsFrom ·))) = true := by
  simp only [Rc.HS]
  kernel_rfl
theorem XU : ((Rows.auditBetweenRow.wideKeys == (Tryz.f4.params.toList ++ Rows.auditBetweenSpec.plain.varTypes Tryz.prog ++ Tryz.f4.resultTypes.toList).any (Tryz.prog.wideKeysFrom ·))) = true := by
  simp only [Rc.Te]
  kernel_rfl
theorem XV : (Rows.auditBetweenSpec.vars.all (Tryz.prog.varReadable ·)) = true := by
  simp only [Rc.Ko]
  kernel_rfl
theorem XW : (Tryz.f4.resultTypes.all (fun t => Tryz.prog.readableRec t && decide (t < Tryz.prog.types.size))) = true := by
  simp only [Rc.vC]
  kernel_rfl
theorem XX : ((Rows.auditBetweenRow.ifacesOut == Tryz.f4.resultTypes.toList.any (Tryz.prog.ifacesRec ·))) = true := by
  simp only [Rc.D7]
  kernel_rfl
theorem XY : ((Rows.auditBetweenRow.loopsOut == Tryz.f4.resultTypes.toList.any (Tryz.prog.loopsFrom ·))) = true := by
  simp only [Rc.HS]
  kernel_rfl
theorem XZ : ((Rows.auditBetweenRow.plainKeys == Tryz.prog.plainKeys)) = true := by kernel_rfl
theorem X0 : (Rows.auditBetweenRow.shortTexts.isNone) = true := by kernel_rfl
theorem X2 : (Tryz.prog.stopsHeard) = true := (Rc.yQ _).trans (by kernel_rfl)
theorem X3 : (Tryz.prog.mayEnter) = true := by
  unfold Program.mayEnter
  simp only [Rc.AU]
  kernel_rfl
theorem X4 : ((Rows.auditBetweenRow.lifted == Tryz.prog.liftsFinal)) = true := by kernel_rfl
theorem X5 : ((Tryz.prog.make == some Rows.auditBetweenRow.make)) = true := by kernel_rfl
theorem X6 : ((Rows.auditBetweenRow.kinds == (if Rows.auditBetweenRow.domain.isEmpty then [] else Tryz.f4.params.toList.map fun t => match Tryz.prog.underlying t with | some (.int k) => some k | _ => none))) = true := by kernel_rfl
theorem X7 : ((Rows.auditBetweenRow.pinned == Rows.auditBetweenRow.pinnedBy)) = true := by kernel_rfl
theorem X8 : ((Rows.auditBetweenRow.veiled == (Tryz.f4.params.toList ++ Rows.auditBetweenSpec.plain.varTypes Tryz.prog ++ Tryz.f4.resultTypes.toList).any (Tryz.prog.veiledRec ·))) = true := by
  simp only [Rc.xl]
  kernel_rfl
theorem X9 : (Rows.auditBetweenRow.veiledFits Tryz.prog Tryz.f4.params.toList (Tryz.f4.params.toList ++ Rows.auditBetweenSpec.plain.varTypes Tryz.prog ++ Tryz.f4.resultTypes.toList)) = true := by
  unfold OpenClaim.veiledFits
  simp only [Rc.xl, Rc.vD]
  kernel_rfl
end Go.Proofs.YtpoiojafnnaccaaGreatDoor
