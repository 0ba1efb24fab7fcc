/- The call of EngineOrder returns true and leaves its arguments as they read: the walk lifted to the form. Conditions: those of the given row. -/
import Derived.Test.YtmpkegmkoclbhaaGreatDoorRows
import Derived.Test.YtmpkegmkoclbhaaGreatDoorDWYr
import Derived.Test.YtmpkegmkoclbhaaGreatDoorDClosed
import Derived.WalkKit
import Derived.ProofKit
import Derived.Handy
import Derived.Lay
import Derived.SevenTiedAt
import Derived.MakeChecks
import Derived.LaidLaws
import Derived.Handed
import Derived.JoinedOf
import Derived.LaidMore
import Derived.OpenShut
import Derived.Lib.LaidTab
namespace Go.Proofs.YtmpkegmkoclbhaaGreatDoor
open Go Go.ChangeShapes Go.WideShapes Go.ChangeAt Go.RowKit
set_option linter.all false
set_option maxRecDepth 1000000
theorem ad5 : Tryz.prog.globalNamed "internal/strconv.uint64pow10" = some 1 := by kernel_rfl
theorem ad6 : (Tryz.prog.globals[1]?).map (·.type) = some 246 := by kernel_rfl
theorem ad7 : Rows.laid_internal_strconv_uint64pow10 (H := Unit) = Lib.tabData .u64 Lib.pow10Tab := by kernel_rfl
theorem plain : (Rows.engineOrderRow.laid.all fun x => x.2.handleName?.isNone) = true := by kernel_rfl
/-- The call returns true and leaves what was there as it was. -/
theorem ae(W : World) (l : List Int) (al : Option Addr) (nl cl : Nat) (ht : Rc.lD Tryz.prog (fun b => b < W.heap.size) W) (hl : Rc.Rd Rc.RR.int 1 (fun b => b < W.heap.size) W al nl cl l) :
    Calls Tryz.prog 4 #[.slice al nl cl] W fun e a => e = .returned (.bool true) ∧ Below W.heap.size W a :=
  (Rc.qw (M := fun _ => True) (Rc.St.start fun _ h => h) ht hl).mono fun e a ⟨he, hb⟩ => ⟨he, hb.Ri _ (Nat.le_refl _)⟩
theorem lifted(os : Os) (started : os.Started) (H : Type) (enc : TypeId × Value → H) :
    ReturnsInHanded {} Tryz.checked os 4 .any (fun w args => (Rows.engineOrderSpec.pre enc Tryz.prog Tryz.f4 [] false w args ∧ laidMetH Tryz.prog Rows.engineOrderRow.laid w) ∧ sizedMet enc Tryz.prog Tryz.f4 (OpenSpec.ofChange Rows.engineOrderSpec) false w args)
      (Rows.engineOrderSpec.post enc Tryz.prog Tryz.f4 false true false false) := by
  refine returnsInHanded_of_change_and (C := Tryz.checked) (X := fun w _ => laidMetH Tryz.prog Rows.engineOrderRow.laid w) (fun _ _ _ u h => h.of_heap u) own started (by kernel_rfl) Tryz.func4
    (ChangeSpec.witness_shaped (enc := enc) (C := Tryz.checked) (os := os) (X := fun w _ => laidMetH Tryz.prog Rows.engineOrderRow.laid w) false (World.laidAll Tryz.prog os Rows.engineOrderRow.laid) #[.slice none 0 0] 8 (World.laidAll_os _ _ _)
      (World.shaped_of_ZipB (by kernel_rfl) (by kernel_rfl)) (by kernel_rfl) (by kernel_rfl) (by kernel_rfl)
      (by rw [MakeChecks.laidMetH_plain _ _ _ plain]; exact laidMet_laidAll _ (by kernel_rfl) (by kernel_rfl))) ?_
  intro W base args ds gs before k m _ n a _
  have c : ∀ (j : Nat) t v, Tryz.f4.params[j]? = some t → args[j]? = some v → Value.okWide Tryz.prog W .any base t v := k
  have o : (DataW.weightsEach Tryz.prog (Tryz.f4.params.toList ++ Rows.engineOrderSpec.plain.varTypes Tryz.prog) (ds ++ gs)).all (· ≤ reachBytes) = true := n
  clear n
  have d := m
  obtain⟨p, q, r, y, rfl, _, _⟩ := m
  have f : DataW.TrodAll enc Tryz.prog W 0 (fun _ => true) true Tryz.f4.params.toList args.toList ds p := r
  rw [Tryz.params4] at f c o
  obtain⟨v0, d0, rfl, rfl, h0⟩ := trodAll_one f
  obtain⟨rfl, rfl⟩ := trodVars_none y
  obtain⟨al, nl, cl, rfl⟩ := okWide_slice Tryz.underlying22 (c 0 22 v0 rfl rfl)
  have z := c 0 22 _ rfl rfl
  clear r k f
  simp only [List.append_nil] at d
  have A : ∀ x ∈ p, x.block < W.heap.size := fun x g => by simpa using d.lt x (by simpa using g)
  have B := h0
  obtain⟨E, g0⟩ := h0
  simp only [Value.cells] at g0
  obtain⟨l, hl⟩ := Rc.Ng Tryz.underlying22 (by kernel_rfl) (by decide +kernel) Tryz.underlying3 z g0 (Rc.Kf.each o (j := 0) rfl rfl)
  rw [MakeChecks.laidMetH_plain _ _ _ plain] at a
  have hT : Rc.lD Tryz.prog (fun b => b < W.heap.size) W := Rc.Rh (ad7 ▸ Lib.laidMet.reads a (List.mem_of_getElem? (i := 2) rfl)) ad5 ad6 Tryz.underlying246 Tryz.underlying203 (by kernel_rfl) (by kernel_rfl)
    ⟨_, _, 2, 184, _, Lib.laidMet.reads a (List.mem_of_getElem? (i := 5) rfl), by kernel_rfl, by kernel_rfl, Tryz.underlying184⟩
    ⟨_, _, 3, 184, _, Lib.laidMet.reads a (List.mem_of_getElem? (i := 4) rfl), by kernel_rfl, by kernel_rfl, Tryz.underlying184⟩
  have D := d
  refine(ae W l al nl cl  hT hl).mono fun e F ⟨he, s⟩ => ?_
  subst he
  exact⟨_, rfl, _, _, _, [], p, [], D, trodAll_mk1 (shut_bool Tryz.underlying4 _),
    trodAll_mk1 (Below.trod laidOut ((Rc.tO _ _).trans (by kernel_rfl)) (of_decide_eq_true (by kernel_rfl)) B s fun x g => A x (by simp [g])),
    rfl, s.frame _, fun h => by cases h⟩

end Go.Proofs.YtmpkegmkoclbhaaGreatDoor
