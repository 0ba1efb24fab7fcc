/- The call of ExplainNone returns true and leaves its arguments as they read: the walk lifted to the form. Conditions: those of the given row. -/
import Derived.Test.YtjpagoacbadijaaGreatDoorRows
import Derived.Test.YtjpagoacbadijaaGreatDoorNWYa
import Derived.Test.YtjpagoacbadijaaGreatDoorNClosed
import Derived.WalkKit
import Derived.ProofKit
import Derived.Handy
import Derived.Lay
import Derived.SevenTiedAt
import Derived.MakeChecks
import Derived.LaidLaws
import Derived.Handed
import Derived.JoinedOf
import Derived.LaidMore
import Derived.OpenShut
import Derived.Lib.LaidTab
namespace Go.Proofs.YtjpagoacbadijaaGreatDoor
open Go Go.ChangeShapes Go.WideShapes Go.ChangeAt Go.RowKit
set_option linter.all false
set_option maxRecDepth 1000000
theorem ajm : Tryz.prog.globalNamed "internal/strconv.uint64pow10" = some 1 := by kernel_rfl
theorem ajn : (Tryz.prog.globals[1]?).map (·.type) = some 212 := by kernel_rfl
theorem ajo : Rows.laid_internal_strconv_uint64pow10 (H := Unit) = Lib.tabData .u64 Lib.pow10Tab := by kernel_rfl
theorem plain : (Rows.explainNoneRow.laid.all fun x => x.2.handleName?.isNone) = true := by kernel_rfl
/-- The call returns true and leaves what was there as it was. -/
theorem ah(W : World) (l : List Int) (al : Option Addr) (nl cl : Nat) (ht : Rc.nQ Tryz.prog (fun b => b < W.heap.size) W) (hl : Rc.Rd Rc.RR.int 1 (fun b => b < W.heap.size) W al nl cl l) :
    Calls Tryz.prog 4 #[.slice al nl cl] W fun e W' => e = .returned (.bool true) ∧ Below W.heap.size W W' :=
  (Rc.uP (M := fun _ => True) (Rc.St.start fun _ h => h) ht hl).mono fun e W' ⟨he, hb⟩ => ⟨he, hb.W0 _ (Nat.le_refl _)⟩
theorem lifted(os : Os) (started : os.Started) (H : Type) (enc : TypeId × Value → H) :
    ReturnsInHanded {} Tryz.checked os 4 .any (fun w args => (Rows.explainNoneSpec.pre enc Tryz.prog Tryz.f4 [] false w args ∧ laidMetH Tryz.prog Rows.explainNoneRow.laid w) ∧ sizedMet enc Tryz.prog Tryz.f4 (OpenSpec.ofChange Rows.explainNoneSpec) false w args)
      (Rows.explainNoneSpec.post enc Tryz.prog Tryz.f4 false true false false) := by
  refine returnsInHanded_of_change_and (C := Tryz.checked) (X := fun w _ => laidMetH Tryz.prog Rows.explainNoneRow.laid w) (fun _ _ _ hh h => h.of_heap hh) own started (by kernel_rfl) Tryz.func4
    (ChangeSpec.witness_shaped (enc := enc) (C := Tryz.checked) (os := os) (X := fun w _ => laidMetH Tryz.prog Rows.explainNoneRow.laid w) false (World.laidAll Tryz.prog os Rows.explainNoneRow.laid) #[.slice none 0 0] 8 (World.laidAll_os _ _ _)
      (World.shaped_of_ZipB (by kernel_rfl) (by kernel_rfl)) (by kernel_rfl) (by kernel_rfl) (by kernel_rfl)
      (by rw [MakeChecks.laidMetH_plain _ _ _ plain]; exact laidMet_laidAll _ (by kernel_rfl) (by kernel_rfl))) ?_
  intro W base args ds gs before UX hW _ hz0 hL _
  have ig : ∀ (j : Nat) t v, Tryz.f4.params[j]? = some t → args[j]? = some v → Value.okWide Tryz.prog W .any base t v := UX
  have hz : (DataW.weightsEach Tryz.prog (Tryz.f4.params.toList ++ Rows.explainNoneSpec.plain.varTypes Tryz.prog) (ds ++ gs)).all (· ≤ reachBytes) = true := hz0
  clear hz0
  have hW' := hW
  obtain⟨p, q, hA0, hV, rfl, _, _⟩ := hW
  have hA : DataW.TrodAll enc Tryz.prog W 0 (fun _ => true) true Tryz.f4.params.toList args.toList ds p := hA0
  rw [Tryz.params4] at hA ig hz
  obtain⟨v0, d0, rfl, rfl, h0⟩ := trodAll_one hA
  obtain⟨rfl, rfl⟩ := trodVars_none hV
  obtain⟨al, nl, cl, rfl⟩ := okWide_slice Tryz.underlying22 (ig 0 22 v0 rfl rfl)
  have hv0 := ig 0 22 _ rfl rfl
  clear hA0 UX hA
  simp only [List.append_nil] at hW'
  have ee : ∀ x ∈ p, x.block < W.heap.size := fun x hx => by simpa using hW'.lt x (by simpa using hx)
  have h0k := h0
  obtain⟨u0, g0⟩ := h0
  simp only [Value.cells] at g0
  obtain⟨l, hl⟩ := Rc.Su Tryz.underlying22 (by kernel_rfl) (by decide +kernel) Tryz.underlying3 hv0 g0 (Rc.O1.each hz (j := 0) rfl rfl)
  rw [MakeChecks.laidMetH_plain _ _ _ plain] at hL
  have hT : Rc.nQ Tryz.prog (fun b => b < W.heap.size) W := Rc.WZ (ajo ▸ Lib.laidMet.reads hL (List.mem_of_getElem? (i := 2) rfl)) ajm ajn Tryz.underlying212 Tryz.underlying188 (by kernel_rfl) (by kernel_rfl)
    ⟨_, _, 4, 205, _, Lib.laidMet.reads hL (List.mem_of_getElem? (i := 5) rfl), by kernel_rfl, by kernel_rfl, Tryz.underlying205⟩
    ⟨_, _, 5, 205, _, Lib.laidMet.reads hL (List.mem_of_getElem? (i := 4) rfl), by kernel_rfl, by kernel_rfl, Tryz.underlying205⟩
  have Wu := hW'
  refine(ah W l al nl cl  hT hl).mono fun e W' ⟨he, hB⟩ => ?_
  subst he
  exact⟨_, rfl, _, _, _, [], p, [], Wu, trodAll_mk1 (shut_bool Tryz.underlying4 _),
    trodAll_mk1 (Below.trod laidOut ((Rc.yz _ _).trans (by kernel_rfl)) (of_decide_eq_true (by kernel_rfl)) h0k hB fun x hx => ee x (by simp [hx])),
    rfl, hB.frame _, fun h => by cases h⟩

end Go.Proofs.YtjpagoacbadijaaGreatDoor
