/- ExplainRuns answers true whatever its input: a request for a key runs it exactly if there is a reason. Conditions: those of the given row alone (nothing of them is added to). -/
import Derived.Test.YtjpagoacbadijaaGreatDoorCards
import Derived.Test.YtjpagoacbadijaaGreatDoorVLift
import Derived.Test.YtjpagoacbadijaaGreatDoorVClosed
import Derived.Test.YtjpagoacbadijaaGreatDoorVGoes
import Derived.Test.YtjpagoacbadijaaGreatDoorVTied
import Derived.WalkKit
import Derived.ProofKit
import Derived.Handy
import Derived.Lay
import Derived.SevenTiedAt
import Derived.MakeChecks
import Derived.LaidLaws
import Derived.Handed
import Derived.JoinedOf
import Derived.LaidMore
import Derived.OpenShut
import Derived.Lib.LaidTab
namespace Go.Proofs.YtjpagoacbadijaaGreatDoor
open Go Go.ChangeShapes Go.WideShapes Go.ChangeAt Go.RowKit
set_option linter.all false
set_option maxRecDepth 1000000
theorem closed : joinedFacts Tryz.prog 3 Tryz.f3 Rows.explainRunsSpec Rows.explainRunsRow = true := by
  unfold joinedFacts
  exact(Rc.both (Rc.both (Rc.both (Rc.both (Rc.both (Rc.both (Rc.both (Rc.both (Rc.both (Rc.both (Rc.both (Rc.both (Rc.both (Rc.both (Rc.both (Rc.both (Rc.both (Rc.both (Rc.both (Rc.both (Rc.both (Rc.both (Rc.both (Rc.both (Rc.both (Rc.both (Rc.both (Rc.both (Rc.both (Rc.both (Rc.both ab3 laidOut) WN) ab4) ab5) ab6) ab7) ab8) ab9) XB) XC) XD) XE) WQ) WR) WS) WT) WV) WW) WY) WZ) W0) W1) W2) W3) W4) W5) W6) W7) W8) W9) Xa)
theorem over : Rows.ExplainRunsSaid :=
  OpenClaim.holds_of_wide 3 Tryz.f3 rfl rfl rfl rfl rfl rfl rfl ⟨rfl, rfl, rfl, rfl, rfl⟩ rfl rfl rfl rfl rfl zW Tryz.func3 closed
    (of_decide_eq_true (by kernel_rfl)) (by unfold Func.isWrapper; first | (rw [if_pos (by decide +kernel)]; kernel_rfl) | (rw [if_neg (by decide +kernel)]; exact⟨rfl, rfl⟩))
    (fun os started H enc _ => lifted os started H enc)
/-- The given statement. -/
theorem proved : Rows.ExplainRunsCardSaid :=
  Claim7.holds_tied_plain_at .later [] [.data, .data, .data, .data, .sentinel, .sentinel, .pinned] true (true, "8c1cd16eb08857fcb245d2e8549ba0b13d3c75f402574bc64b80b57993279c32") true over (fun _ h => by cases h) (by kernel_rfl) (fun _ h => by cases h) MB rfl ⟨rfl, rfl⟩ (by kernel_rfl) rfl
    (fun f fn hf hfn => by
      obtain rfl : f = 3 := Option.some.inj ((zW).symm.trans hf) |>.symm
      obtain rfl : fn = Tryz.f3 := (Option.some.inj (Tryz.func3.symm.trans hfn)).symm
      exact⟨Pn.symm, fun j t ht => by
        rw [Tryz.params3] at ht
        have hm : t ∈ [22] := by simpa using Array.mem_of_getElem? ht
        have cY : ([22].all fun u => !Tryz.prog.wantsStandIn u) = true := by kernel_rfl
        exact(show Tryz.prog.wantsStandIn t = false by simpa using List.all_eq_true.1 cY t hm)⟩)
    MA.symm
#print axioms proved
end Go.Proofs.YtjpagoacbadijaaGreatDoor
