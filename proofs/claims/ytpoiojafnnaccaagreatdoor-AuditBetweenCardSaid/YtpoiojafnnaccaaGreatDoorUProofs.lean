/- AuditBetween answers true whatever its input: what a request is said to have run is what it has run. Conditions: those of the given row alone (nothing of them is added to). -/
import Derived.Test.YtpoiojafnnaccaaGreatDoorCards
import Derived.Test.YtpoiojafnnaccaaGreatDoorULift
import Derived.Test.YtpoiojafnnaccaaGreatDoorUClosed
import Derived.Test.YtpoiojafnnaccaaGreatDoorUGoes
import Derived.Test.YtpoiojafnnaccaaGreatDoorUTied
import Derived.WalkKit
import Derived.ProofKit
import Derived.Handy
import Derived.Lay
import Derived.SevenTiedAt
import Derived.MakeChecks
import Derived.LaidLaws
import Derived.Handed
import Derived.JoinedOf
import Derived.LaidMore
import Derived.OpenShut
import Derived.Lib.LaidTab
namespace Go.Proofs.YtpoiojafnnaccaaGreatDoor
open Go Go.ChangeShapes Go.WideShapes Go.ChangeAt Go.RowKit
set_option linter.all false
set_option maxRecDepth 1000000
theorem closed : joinedFacts Tryz.prog 4 Tryz.f4 Rows.auditBetweenSpec Rows.auditBetweenRow = true := by
  unfold joinedFacts
  exact(Rc.both (Rc.both (Rc.both (Rc.both (Rc.both (Rc.both (Rc.both (Rc.both (Rc.both (Rc.both (Rc.both (Rc.both (Rc.both (Rc.both (Rc.both (Rc.both (Rc.both (Rc.both (Rc.both (Rc.both (Rc.both (Rc.both (Rc.both (Rc.both (Rc.both (Rc.both (Rc.both (Rc.both (Rc.both (Rc.both (Rc.both ac2 laidOut) XO) ac3) ac4) ac5) ac6) ac7) ac8) YH) YI) YJ) YK) XQ) XR) XS) XT) XU) XV) XW) XX) XY) XZ) X0) X2) X3) X4) X5) X6) X7) X8) X9)
theorem over : Rows.AuditBetweenSaid :=
  OpenClaim.holds_of_wide 4 Tryz.f4 rfl rfl rfl rfl rfl rfl rfl ⟨rfl, rfl, rfl, rfl, rfl⟩ rfl rfl rfl rfl rfl Bd Tryz.func4 closed
    (of_decide_eq_true (by kernel_rfl)) (by unfold Func.isWrapper; first | (rw [if_pos (by decide +kernel)]; kernel_rfl) | (rw [if_neg (by decide +kernel)]; exact⟨rfl, rfl⟩))
    (fun os started H enc _ => lifted os started H enc)
/-- The given statement. -/
theorem proved : Rows.AuditBetweenCardSaid :=
  Claim7.holds_tied_plain_at .later [] [.data, .data, .data, .data, .sentinel, .sentinel, .pinned] true (true, "06280254396febd23b788e9c023ea4df7cb43763645703941323cbc94178394d") true over (fun _ h => by cases h) (by kernel_rfl) (fun _ h => by cases h) NJ rfl ⟨rfl, rfl⟩ (by kernel_rfl) rfl
    (fun f fn hf hfn => by
      obtain rfl : f = 4 := Option.some.inj ((Bd).symm.trans hf) |>.symm
      obtain rfl : fn = Tryz.f4 := (Option.some.inj (Tryz.func4.symm.trans hfn)).symm
      exact⟨Ql.symm, fun j t ht => by
        rw [Tryz.params4] at ht
        have hm : t ∈ [22, 3] := by simpa using Array.mem_of_getElem? ht
        have cy : ([22, 3].all fun u => !Tryz.prog.wantsStandIn u) = true := by kernel_rfl
        exact(show Tryz.prog.wantsStandIn t = false by simpa using List.all_eq_true.1 cy t hm)⟩)
    NI.symm
#print axioms proved
end Go.Proofs.YtpoiojafnnaccaaGreatDoor
