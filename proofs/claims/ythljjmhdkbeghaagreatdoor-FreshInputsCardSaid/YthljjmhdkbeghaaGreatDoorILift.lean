/- The call of FreshInputs returns true and leaves its arguments as they read: the walk lifted to the form. Conditions: those of the given row. -/
import Derived.Test.YthljjmhdkbeghaaGreatDoorRows
import Derived.Test.YthljjmhdkbeghaaGreatDoorIWZq
import Derived.Test.YthljjmhdkbeghaaGreatDoorIClosed
import Derived.WalkKit
import Derived.ProofKit
import Derived.Handy
import Derived.Lay
import Derived.SevenTiedAt
import Derived.MakeChecks
import Derived.LaidLaws
import Derived.Handed
import Derived.JoinedOf
import Derived.LaidMore
import Derived.OpenShut
import Derived.Lib.LaidTab
namespace Go.Proofs.YthljjmhdkbeghaaGreatDoor
open Go Go.ChangeShapes Go.WideShapes Go.ChangeAt Go.RowKit
set_option linter.unusedVariables false
set_option maxRecDepth 1000000
theorem gPow : Tryz.prog.globalNamed "internal/strconv.uint64pow10" = some 1 := by kernel_rfl
theorem tPow : (Tryz.prog.globals[1]?).map (·.type) = some 185 := by kernel_rfl
theorem dPow : Rows.laid_internal_strconv_uint64pow10 (H := Unit) = Lib.tabData .u64 Lib.pow10Tab := by kernel_rfl
theorem plain : (Rows.freshInputsRow.laid.all fun x => x.2.handleName?.isNone) = true := by kernel_rfl
/-- The call returns true and leaves what was there as it was. -/
theorem answers (W : World) (l : List Int) (al : Option Addr) (nl cl : Nat) (i0 i1 i2 : Int) (ht : Rc.Tab Tryz.prog (fun b => b < W.heap.size) W) (hl : Rc.Rd Rc.RR.int 1 (fun b => b < W.heap.size) W al nl cl l) :
    Calls Tryz.prog 3 #[.slice al nl cl, .int .i64 i0, .int .i64 i1, .int .i64 i2] W fun e W' => e = .returned (.bool true) ∧ Below W.heap.size W W' :=
  (Rc.freshInputs_calls (M := fun _ => True) (Rc.St.start fun _ h => h) ht hl).mono fun e W' ⟨he, hb⟩ => ⟨he, hb.belowB _ (Nat.le_refl _)⟩
theorem lifted (os : Os) (started : os.Started) (H : Type) (enc : TypeId × Value → H) :
    ReturnsInHanded {} Tryz.checked os 3 .any (fun w args => (Rows.freshInputsSpec.pre enc Tryz.prog Tryz.f3 [] false w args ∧ laidMetH Tryz.prog Rows.freshInputsRow.laid w) ∧ sizedMet enc Tryz.prog Tryz.f3 (OpenSpec.ofChange Rows.freshInputsSpec) false w args)
      (Rows.freshInputsSpec.post enc Tryz.prog Tryz.f3 false true false false) := by
  refine returnsInHanded_of_change_and (C := Tryz.checked) (X := fun w _ => laidMetH Tryz.prog Rows.freshInputsRow.laid w) (fun _ _ _ hh h => h.of_heap hh) own started (by kernel_rfl) Tryz.func3
    (ChangeSpec.witness_shaped (enc := enc) (C := Tryz.checked) (os := os) (X := fun w _ => laidMetH Tryz.prog Rows.freshInputsRow.laid w) false (World.laidAll Tryz.prog os Rows.freshInputsRow.laid) #[.slice none 0 0, .int .i64 0, .int .i64 0, .int .i64 0] 8 (World.laidAll_os _ _ _)
      (World.shaped_of_ZipB (by kernel_rfl) (by kernel_rfl)) (by kernel_rfl) (by kernel_rfl) (by kernel_rfl)
      (by rw [MakeChecks.laidMetH_plain _ _ _ plain]; exact laidMet_laidAll _ (by kernel_rfl) (by kernel_rfl))) ?_
  intro W base args ds gs before hval0 hW _ hz0 hL _
  have hval : ∀ (j : Nat) t v, Tryz.f3.params[j]? = some t → args[j]? = some v → Value.okWide Tryz.prog W .any base t v := hval0
  have hz : (DataW.weightsEach Tryz.prog (Tryz.f3.params.toList ++ Rows.freshInputsSpec.plain.varTypes Tryz.prog) (ds ++ gs)).all (· ≤ reachBytes) = true := hz0
  clear hz0
  have hW' := hW
  obtain ⟨p, q, hA0, hV, rfl, _, _⟩ := hW
  have hA : DataW.TrodAll enc Tryz.prog W 0 (fun _ => true) true Tryz.f3.params.toList args.toList ds p := hA0
  rw [Tryz.params3] at hA hval hz
  obtain ⟨v0, v1, v2, v3, d0, d1, d2, d3, p0, p1, p2, p3, rfl, rfl, rfl, h0, h1, h2, h3⟩ := trodAll_four hA
  obtain ⟨rfl, rfl⟩ := trodVars_none hV
  obtain ⟨al, nl, cl, rfl⟩ := okWide_slice Tryz.underlying22 (hval 0 22 v0 rfl rfl)
  obtain ⟨i0, rfl⟩ := okWide_int Tryz.underlying3 (hval 1 3 v1 rfl rfl)
  obtain ⟨i1, rfl⟩ := okWide_int Tryz.underlying3 (hval 2 3 v2 rfl rfl)
  obtain ⟨i2, rfl⟩ := okWide_int Tryz.underlying3 (hval 3 3 v3 rfl rfl)
  have hv0 := hval 0 22 _ rfl rfl
  clear hA0 hval0 hA
  simp only [List.append_nil] at hW'
  have hlt : ∀ x ∈ p0 ++ p1 ++ p2 ++ p3, x.block < W.heap.size := fun x hx => by simpa using hW'.lt x (by simpa using hx)
  have h0k := h0
  obtain ⟨u0, g0⟩ := h0
  simp only [Value.cells] at g0
  obtain ⟨l, hl⟩ := Rc.open_il Tryz.underlying22 (by kernel_rfl) (by decide +kernel) Tryz.underlying3 hv0 g0 (Rc.Lim.each hz (j := 0) rfl rfl)
  rw [MakeChecks.laidMetH_plain _ _ _ plain] at hL
  have hT : Rc.Tab Tryz.prog (fun b => b < W.heap.size) W := Rc.tab_of (dPow ▸ Lib.laidMet.reads hL (List.mem_of_getElem? (i := 2) rfl)) gPow tPow Tryz.underlying185 Tryz.underlying146 (by kernel_rfl) (by kernel_rfl)
    ⟨_, _, 4, 168, _, Lib.laidMet.reads hL (List.mem_of_getElem? (i := 5) rfl), by kernel_rfl, by kernel_rfl, Tryz.underlying168⟩
    ⟨_, _, 5, 168, _, Lib.laidMet.reads hL (List.mem_of_getElem? (i := 4) rfl), by kernel_rfl, by kernel_rfl, Tryz.underlying168⟩
  have hW2 := hW'
  simp only [List.append_assoc] at hW2
  refine (answers W l al nl cl i0 i1 i2 hT hl).mono fun e W' ⟨he, hB⟩ => ?_
  subst he
  exact ⟨_, rfl, _, _, _, [], p0 ++ (p1 ++ (p2 ++ p3)), [], hW2, trodAll_mk1 (shut_bool Tryz.underlying4 _),
    trodAll_mk4 (Below.trod laidOut ((Rc.read_eq _ _).trans (by kernel_rfl)) (of_decide_eq_true (by kernel_rfl)) h0k hB fun x hx => hlt x (by simp [hx])) (Below.trod laidOut ((Rc.read_eq _ _).trans (by kernel_rfl)) (of_decide_eq_true (by kernel_rfl)) h1 hB fun x hx => hlt x (by simp [hx])) (Below.trod laidOut ((Rc.read_eq _ _).trans (by kernel_rfl)) (of_decide_eq_true (by kernel_rfl)) h2 hB fun x hx => hlt x (by simp [hx])) (Below.trod laidOut ((Rc.read_eq _ _).trans (by kernel_rfl)) (of_decide_eq_true (by kernel_rfl)) h3 hB fun x hx => hlt x (by simp [hx])),
    rfl, hB.frame _, fun h => by cases h⟩

end Go.Proofs.YthljjmhdkbeghaaGreatDoor
