/- The call of AuditTheorem returns true and leaves its arguments as they read: the walk lifted to the form. Conditions: those of the given row. -/
import Derived.Test.YtpoiojafnnaccaaGreatDoorRows
import Derived.Test.YtpoiojafnnaccaaGreatDoorTWZt
import Derived.Test.YtpoiojafnnaccaaGreatDoorTClosed
import Derived.WalkKit
import Derived.ProofKit
import Derived.Handy
import Derived.Lay
import Derived.SevenTiedAt
import Derived.MakeChecks
import Derived.LaidLaws
import Derived.Handed
import Derived.JoinedOf
import Derived.LaidMore
import Derived.OpenShut
import Derived.Lib.LaidTab
namespace Go.Proofs.YtpoiojafnnaccaaGreatDoor
open Go Go.ChangeShapes Go.WideShapes Go.ChangeAt Go.RowKit
set_option linter.all false
set_option maxRecDepth 1000000
theorem akI : Tryz.prog.globalNamed "internal/strconv.uint64pow10" = some 1 := by kernel_rfl
theorem akJ : (Tryz.prog.globals[1]?).map (·.type) = some 221 := by kernel_rfl
theorem akK : Rows.laid_internal_strconv_uint64pow10 (H := Unit) = Lib.tabData .u64 Lib.pow10Tab := by kernel_rfl
theorem plain : (Rows.auditTheoremRow.laid.all fun x => x.2.handleName?.isNone) = true := by kernel_rfl
/-- The call returns true and leaves what was there as it was. -/
theorem ak(W : World) (l : List Int) (al : Option Addr) (nl cl : Nat) (ht : Rc.oj Tryz.prog (fun b => b < W.heap.size) W) (hl : Rc.Rd Rc.RR.int 1 (fun b => b < W.heap.size) W al nl cl l) :
    Calls Tryz.prog 3 #[.slice al nl cl] W fun e W' => e = .returned (.bool true) ∧ Below W.heap.size W W' :=
  (Rc.uL (M := fun _ => True) (Rc.St.start fun _ h => h) ht hl).mono fun e W' ⟨he, hb⟩ => ⟨he, hb.XW _ (Nat.le_refl _)⟩
theorem lifted(os : Os) (started : os.Started) (H : Type) (enc : TypeId × Value → H) :
    ReturnsInHanded {} Tryz.checked os 3 .any (fun w args => (Rows.auditTheoremSpec.pre enc Tryz.prog Tryz.f3 [] false w args ∧ laidMetH Tryz.prog Rows.auditTheoremRow.laid w) ∧ sizedMet enc Tryz.prog Tryz.f3 (OpenSpec.ofChange Rows.auditTheoremSpec) false w args)
      (Rows.auditTheoremSpec.post enc Tryz.prog Tryz.f3 false true false false) := by
  refine returnsInHanded_of_change_and (C := Tryz.checked) (X := fun w _ => laidMetH Tryz.prog Rows.auditTheoremRow.laid w) (fun _ _ _ hh h => h.of_heap hh) own started (by kernel_rfl) Tryz.func3
    (ChangeSpec.witness_shaped (enc := enc) (C := Tryz.checked) (os := os) (X := fun w _ => laidMetH Tryz.prog Rows.auditTheoremRow.laid w) false (World.laidAll Tryz.prog os Rows.auditTheoremRow.laid) #[.slice none 0 0] 8 (World.laidAll_os _ _ _)
      (World.shaped_of_ZipB (by kernel_rfl) (by kernel_rfl)) (by kernel_rfl) (by kernel_rfl) (by kernel_rfl)
      (by rw [MakeChecks.laidMetH_plain _ _ _ plain]; exact laidMet_laidAll _ (by kernel_rfl) (by kernel_rfl))) ?_
  intro W base args ds gs before V5 hW _ hz0 hL _
  have iH : ∀ (j : Nat) t v, Tryz.f3.params[j]? = some t → args[j]? = some v → Value.okWide Tryz.prog W .any base t v := V5
  have hz : (DataW.weightsEach Tryz.prog (Tryz.f3.params.toList ++ Rows.auditTheoremSpec.plain.varTypes Tryz.prog) (ds ++ gs)).all (· ≤ reachBytes) = true := hz0
  clear hz0
  have hW' := hW
  obtain⟨p, q, hA0, hV, rfl, _, _⟩ := hW
  have hA : DataW.TrodAll enc Tryz.prog W 0 (fun _ => true) true Tryz.f3.params.toList args.toList ds p := hA0
  rw [Tryz.params3] at hA iH hz
  obtain⟨v0, d0, rfl, rfl, h0⟩ := trodAll_one hA
  obtain⟨rfl, rfl⟩ := trodVars_none hV
  obtain⟨al, nl, cl, rfl⟩ := okWide_slice Tryz.underlying22 (iH 0 22 v0 rfl rfl)
  have V6 := iH 0 22 _ rfl rfl
  clear hA0 V5 hA
  simp only [List.append_nil] at hW'
  have ee : ∀ x ∈ p, x.block < W.heap.size := fun x hx => by simpa using hW'.lt x (by simpa using hx)
  have h0k := h0
  obtain⟨u0, g0⟩ := h0
  simp only [Value.cells] at g0
  obtain⟨l, hl⟩ := Rc.TB Tryz.underlying22 (by kernel_rfl) (by decide +kernel) Tryz.underlying3 V6 g0 (Rc.Qg.each hz (j := 0) rfl rfl)
  rw [MakeChecks.laidMetH_plain _ _ _ plain] at hL
  have hT : Rc.oj Tryz.prog (fun b => b < W.heap.size) W := Rc.XV (akK ▸ Lib.laidMet.reads hL (List.mem_of_getElem? (i := 2) rfl)) akI akJ Tryz.underlying221 Tryz.underlying208 (by kernel_rfl) (by kernel_rfl)
    ⟨_, _, 2, 203, _, Lib.laidMet.reads hL (List.mem_of_getElem? (i := 5) rfl), by kernel_rfl, by kernel_rfl, Tryz.underlying203⟩
    ⟨_, _, 3, 203, _, Lib.laidMet.reads hL (List.mem_of_getElem? (i := 4) rfl), by kernel_rfl, by kernel_rfl, Tryz.underlying203⟩
  have XJ := hW'
  refine(ak W l al nl cl  hT hl).mono fun e W' ⟨he, hB⟩ => ?_
  subst he
  exact⟨_, rfl, _, _, _, [], p, [], XJ, trodAll_mk1 (shut_bool Tryz.underlying4 _),
    trodAll_mk1 (Below.trod laidOut ((Rc.zJ _ _).trans (by kernel_rfl)) (of_decide_eq_true (by kernel_rfl)) h0k hB fun x hx => ee x (by simp [hx])),
    rfl, hB.frame _, fun h => by cases h⟩

end Go.Proofs.YtpoiojafnnaccaaGreatDoor
