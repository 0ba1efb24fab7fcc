/- The call of AuditLists returns true and leaves its arguments as they read: the walk lifted to the form. Conditions: those of the given row. -/
import Derived.Test.YtlineioeefgnhaaGreatDoorRows
import Derived.Test.YtlineioeefgnhaaGreatDoorWR
import Derived.Test.YtlineioeefgnhaaGreatDoorClosed
import Derived.WalkKit
import Derived.ProofKit
import Derived.Handy
import Derived.Lay
import Derived.SevenTiedAt
import Derived.MakeChecks
import Derived.LaidLaws
import Derived.Handed
import Derived.JoinedOf
import Derived.LaidMore
import Derived.OpenShut
import Derived.Lib.LaidTab
namespace Go.Proofs.YtlineioeefgnhaaGreatDoor
open Go Go.ChangeShapes Go.WideShapes Go.ChangeAt Go.RowKit
set_option linter.unusedVariables false
set_option maxRecDepth 1000000
theorem gPow : Tryz.prog.globalNamed "internal/strconv.uint64pow10" = some 0 := by kernel_rfl
theorem tPow : (Tryz.prog.globals[0]?).map (·.type) = some 170 := by kernel_rfl
theorem dPow : Rows.laid_internal_strconv_uint64pow10 (H := Unit) = Lib.tabData .u64 Lib.pow10Tab := by kernel_rfl
theorem plain : (Rows.auditListsRow.laid.all fun x => x.2.handleName?.isNone) = true := by kernel_rfl
/-- The call returns true and leaves what was there as it was. -/
theorem answers (W : World) (lists : List (List Rc.Key)) (bytes : List Nat) (al ac : Option Addr) (nl cl nc cc : Nat) (ht : Rc.Tab Tryz.prog (fun b => b < W.heap.size) W) (hl : (Rc.FZ.ksl al nl lists).p (fun b => b < W.heap.size) W) (hc : (Rc.FZ.byt ac nc bytes).p (fun b => b < W.heap.size) W) :
    Calls Tryz.prog 3 #[.slice al nl cl, .slice ac nc cc] W fun e W' => e = .returned (.bool true) ∧ Below W.heap.size W W' :=
  (Rc.auditLists_calls (M := fun _ => True) (Rc.St.start fun _ h => h) ht hl hc).mono fun e W' ⟨he, hb⟩ => ⟨he, hb.belowB _ (Nat.le_refl _)⟩
theorem lifted (os : Os) (started : os.Started) (H : Type) (enc : TypeId × Value → H) :
    ReturnsInHanded {} Tryz.checked os 3 .any (fun w args => (Rows.auditListsSpec.pre enc Tryz.prog Tryz.f3 [] false w args ∧ laidMetH Tryz.prog Rows.auditListsRow.laid w) ∧ sizedMet enc Tryz.prog Tryz.f3 (OpenSpec.ofChange Rows.auditListsSpec) false w args)
      (Rows.auditListsSpec.post enc Tryz.prog Tryz.f3 false true false false) := by
  refine returnsInHanded_of_change_and (C := Tryz.checked) (X := fun w _ => laidMetH Tryz.prog Rows.auditListsRow.laid w) (fun _ _ _ hh h => h.of_heap hh) own started (by kernel_rfl) Tryz.func3
    (ChangeSpec.witness_shaped (enc := enc) (C := Tryz.checked) (os := os) (X := fun w _ => laidMetH Tryz.prog Rows.auditListsRow.laid w) false (World.laidAll Tryz.prog os Rows.auditListsRow.laid) #[.slice none 0 0, .slice none 0 0] 8 (World.laidAll_os _ _ _)
      (World.shaped_of_ZipB (by kernel_rfl) (by kernel_rfl)) (by kernel_rfl) (by kernel_rfl) (by kernel_rfl)
      (by rw [MakeChecks.laidMetH_plain _ _ _ plain]; exact laidMet_laidAll _ (by kernel_rfl) (by kernel_rfl))) ?_
  intro W base args ds gs before hval0 hW _ hz0 hL _
  have hval : ∀ (j : Nat) t v, Tryz.f3.params[j]? = some t → args[j]? = some v → Value.okWide Tryz.prog W .any base t v := hval0
  have hz : (DataW.weightsEach Tryz.prog (Tryz.f3.params.toList ++ Rows.auditListsSpec.plain.varTypes Tryz.prog) (ds ++ gs)).all (· ≤ reachBytes) = true := hz0
  clear hz0
  have hW' := hW
  obtain ⟨p, q, hA0, hV, rfl, _, _⟩ := hW
  have hA : DataW.TrodAll enc Tryz.prog W 0 (fun _ => true) true Tryz.f3.params.toList args.toList ds p := hA0
  rw [Tryz.params3] at hA hval hz
  obtain ⟨v0, v1, d0, d1, p0, p1, rfl, rfl, rfl, h0, h1⟩ := trodAll_two hA
  obtain ⟨rfl, rfl⟩ := trodVars_none hV
  obtain ⟨al, nl, cl, rfl⟩ := okWide_slice Tryz.underlying22 (hval 0 22 v0 rfl rfl)
  obtain ⟨ac, nc, cc, rfl⟩ := okWide_slice Tryz.underlying23 (hval 1 23 v1 rfl rfl)
  clear hA0 hval0 hA
  simp only [List.append_nil] at hW'
  have hlt : ∀ x ∈ p0 ++ p1, x.block < W.heap.size := fun x hx => by simpa using hW'.lt x hx
  have h0k := h0
  have h1k := h1
  obtain ⟨u0, g0⟩ := h0
  obtain ⟨u1, g1⟩ := h1
  simp only [Value.cells] at g0 g1
  obtain ⟨lists, hl⟩ := Rc.open_ksl Tryz.underlying22 (by kernel_rfl) (by decide +kernel) Tryz.underlying25 (by kernel_rfl) (by decide +kernel) Tryz.underlying27 rfl rfl (by kernel_rfl) (by kernel_rfl) Tryz.underlying3 Tryz.underlying9 g0 (Rc.Lim.each hz (j := 0) rfl rfl)
  obtain ⟨bytes, hc⟩ := Rc.open_byt Tryz.underlying23 (by kernel_rfl) (by decide +kernel) Tryz.underlying5 g1 (Rc.Lim.each hz (j := 1) rfl rfl)
  rw [MakeChecks.laidMetH_plain _ _ _ plain] at hL
  have hT : Rc.Tab Tryz.prog (fun b => b < W.heap.size) W := Rc.tab_of (dPow ▸ Lib.laidMet.reads hL (List.mem_of_getElem? (i := 2) rfl)) gPow tPow Tryz.underlying170 Tryz.underlying146 (by kernel_rfl) (by kernel_rfl)
  refine (answers W lists bytes al ac nl cl nc cc hT hl hc).mono fun e W' ⟨he, hB⟩ => ?_
  subst he
  exact ⟨_, rfl, _, _, _, [], p0 ++ p1, [], hW', trodAll_mk1 (shut_bool Tryz.underlying4 _),
    trodAll_mk2 (Below.trod laidOut ((Rc.read_eq _ _).trans (by kernel_rfl)) (of_decide_eq_true (by kernel_rfl)) h0k hB fun x hx => hlt x (List.mem_append_left _ hx)) (Below.trod laidOut ((Rc.read_eq _ _).trans (by kernel_rfl)) (of_decide_eq_true (by kernel_rfl)) h1k hB fun x hx => hlt x (List.mem_append_right _ hx)),
    rfl, hB.frame _, fun h => by cases h⟩

end Go.Proofs.YtlineioeefgnhaaGreatDoor
