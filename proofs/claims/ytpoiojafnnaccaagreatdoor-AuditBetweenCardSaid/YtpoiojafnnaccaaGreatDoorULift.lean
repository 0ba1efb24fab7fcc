/- The call of AuditBetween returns true and leaves its arguments as they read: the walk lifted to the form. Conditions: those of the given row. -/
import Derived.Test.YtpoiojafnnaccaaGreatDoorRows
import Derived.Test.YtpoiojafnnaccaaGreatDoorUWZu
import Derived.Test.YtpoiojafnnaccaaGreatDoorUClosed
import Derived.WalkKit
import Derived.ProofKit
import Derived.Handy
import Derived.Lay
import Derived.SevenTiedAt
import Derived.MakeChecks
import Derived.LaidLaws
import Derived.Handed
import Derived.JoinedOf
import Derived.LaidMore
import Derived.OpenShut
import Derived.Lib.LaidTab
namespace Go.Proofs.YtpoiojafnnaccaaGreatDoor
open Go Go.ChangeShapes Go.WideShapes Go.ChangeAt Go.RowKit
set_option linter.all false
set_option maxRecDepth 1000000
theorem akg : Tryz.prog.globalNamed "internal/strconv.uint64pow10" = some 1 := by kernel_rfl
theorem akh : (Tryz.prog.globals[1]?).map (·.type) = some 221 := by kernel_rfl
theorem aki : Rows.laid_internal_strconv_uint64pow10 (H := Unit) = Lib.tabData .u64 Lib.pow10Tab := by kernel_rfl
theorem plain : (Rows.auditBetweenRow.laid.all fun x => x.2.handleName?.isNone) = true := by kernel_rfl
/-- The call returns true and leaves what was there as it was. -/
theorem ao(W : World) (l : List Int) (al : Option Addr) (nl cl : Nat) (i0 : Int) (ht : Rc.oy Tryz.prog (fun b => b < W.heap.size) W) (hl : Rc.Rd Rc.RR.int 1 (fun b => b < W.heap.size) W al nl cl l) :
    Calls Tryz.prog 4 #[.slice al nl cl, .int .i64 i0] W fun e W' => e = .returned (.bool true) ∧ Below W.heap.size W W' :=
  (Rc.uB (M := fun _ => True) (Rc.St.start fun _ h => h) ht hl).mono fun e W' ⟨he, hb⟩ => ⟨he, hb.XL _ (Nat.le_refl _)⟩
theorem lifted(os : Os) (started : os.Started) (H : Type) (enc : TypeId × Value → H) :
    ReturnsInHanded {} Tryz.checked os 4 .any (fun w args => (Rows.auditBetweenSpec.pre enc Tryz.prog Tryz.f4 [] false w args ∧ laidMetH Tryz.prog Rows.auditBetweenRow.laid w) ∧ sizedMet enc Tryz.prog Tryz.f4 (OpenSpec.ofChange Rows.auditBetweenSpec) false w args)
      (Rows.auditBetweenSpec.post enc Tryz.prog Tryz.f4 false true false false) := by
  refine returnsInHanded_of_change_and (C := Tryz.checked) (X := fun w _ => laidMetH Tryz.prog Rows.auditBetweenRow.laid w) (fun _ _ _ hh h => h.of_heap hh) own started (by kernel_rfl) Tryz.func4
    (ChangeSpec.witness_shaped (enc := enc) (C := Tryz.checked) (os := os) (X := fun w _ => laidMetH Tryz.prog Rows.auditBetweenRow.laid w) false (World.laidAll Tryz.prog os Rows.auditBetweenRow.laid) #[.slice none 0 0, .int .i64 0] 8 (World.laidAll_os _ _ _)
      (World.shaped_of_ZipB (by kernel_rfl) (by kernel_rfl)) (by kernel_rfl) (by kernel_rfl) (by kernel_rfl)
      (by rw [MakeChecks.laidMetH_plain _ _ _ plain]; exact laidMet_laidAll _ (by kernel_rfl) (by kernel_rfl))) ?_
  intro W base args ds gs before VP hW _ hz0 hL _
  have iD : ∀ (j : Nat) t v, Tryz.f4.params[j]? = some t → args[j]? = some v → Value.okWide Tryz.prog W .any base t v := VP
  have hz : (DataW.weightsEach Tryz.prog (Tryz.f4.params.toList ++ Rows.auditBetweenSpec.plain.varTypes Tryz.prog) (ds ++ gs)).all (· ≤ reachBytes) = true := hz0
  clear hz0
  have hW' := hW
  obtain⟨p, q, hA0, hV, rfl, _, _⟩ := hW
  have hA : DataW.TrodAll enc Tryz.prog W 0 (fun _ => true) true Tryz.f4.params.toList args.toList ds p := hA0
  rw [Tryz.params4] at hA iD hz
  obtain⟨v0, v1, d0, d1, p0, p1, rfl, rfl, rfl, h0, h1⟩ := trodAll_two hA
  obtain⟨rfl, rfl⟩ := trodVars_none hV
  obtain⟨al, nl, cl, rfl⟩ := okWide_slice Tryz.underlying22 (iD 0 22 v0 rfl rfl)
  obtain⟨i0, rfl⟩ := okWide_int Tryz.underlying3 (iD 1 3 v1 rfl rfl)
  have hv0 := iD 0 22 _ rfl rfl
  clear hA0 VP hA
  simp only [List.append_nil] at hW'
  have ed : ∀ x ∈ p0 ++ p1, x.block < W.heap.size := fun x hx => by simpa using hW'.lt x (by simpa using hx)
  have h0k := h0
  obtain⟨u0, g0⟩ := h0
  simp only [Value.cells] at g0
  obtain⟨l, hl⟩ := Rc.Th Tryz.underlying22 (by kernel_rfl) (by decide +kernel) Tryz.underlying3 hv0 g0 (Rc.P0.each hz (j := 0) rfl rfl)
  rw [MakeChecks.laidMetH_plain _ _ _ plain] at hL
  have hT : Rc.oy Tryz.prog (fun b => b < W.heap.size) W := Rc.XK (aki ▸ Lib.laidMet.reads hL (List.mem_of_getElem? (i := 2) rfl)) akg akh Tryz.underlying221 Tryz.underlying208 (by kernel_rfl) (by kernel_rfl)
    ⟨_, _, 2, 203, _, Lib.laidMet.reads hL (List.mem_of_getElem? (i := 5) rfl), by kernel_rfl, by kernel_rfl, Tryz.underlying203⟩
    ⟨_, _, 3, 203, _, Lib.laidMet.reads hL (List.mem_of_getElem? (i := 4) rfl), by kernel_rfl, by kernel_rfl, Tryz.underlying203⟩
  have Xy := hW'
  refine(ao W l al nl cl i0 hT hl).mono fun e W' ⟨he, hB⟩ => ?_
  subst he
  exact⟨_, rfl, _, _, _, [], p0 ++ p1, [], Xy, trodAll_mk1 (shut_bool Tryz.underlying4 _),
    trodAll_mk2 (Below.trod laidOut ((Rc.vC _ _).trans (by kernel_rfl)) (of_decide_eq_true (by kernel_rfl)) h0k hB fun x hx => ed x (by simp [hx])) (Below.trod laidOut ((Rc.vC _ _).trans (by kernel_rfl)) (of_decide_eq_true (by kernel_rfl)) h1 hB fun x hx => ed x (by simp [hx])),
    rfl, hB.frame _, fun h => by cases h⟩

end Go.Proofs.YtpoiojafnnaccaaGreatDoor
