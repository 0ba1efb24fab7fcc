/- ExplainInputs answers true whatever its input: a key is run for a read exactly if the value of a read is another one. Conditions: those of the given row alone (nothing of them is added to). -/
import Derived.Test.YtjpagoacbadijaaGreatDoorCards
import Derived.Test.YtjpagoacbadijaaGreatDoorJLift
import Derived.Test.YtjpagoacbadijaaGreatDoorJClosed
import Derived.Test.YtjpagoacbadijaaGreatDoorJGoes
import Derived.Test.YtjpagoacbadijaaGreatDoorJTied
import Derived.WalkKit
import Derived.ProofKit
import Derived.Handy
import Derived.Lay
import Derived.SevenTiedAt
import Derived.MakeChecks
import Derived.LaidLaws
import Derived.Handed
import Derived.JoinedOf
import Derived.LaidMore
import Derived.OpenShut
import Derived.Lib.LaidTab
namespace Go.Proofs.YtjpagoacbadijaaGreatDoor
open Go Go.ChangeShapes Go.WideShapes Go.ChangeAt Go.RowKit
set_option linter.all false
set_option maxRecDepth 1000000
theorem closed : joinedFacts Tryz.prog 5 Tryz.f5 Rows.explainInputsSpec Rows.explainInputsRow = true := by
  unfold joinedFacts
  exact(Rc.both (Rc.both (Rc.both (Rc.both (Rc.both (Rc.both (Rc.both (Rc.both (Rc.both (Rc.both (Rc.both (Rc.both (Rc.both (Rc.both (Rc.both (Rc.both (Rc.both (Rc.both (Rc.both (Rc.both (Rc.both (Rc.both (Rc.both (Rc.both (Rc.both (Rc.both (Rc.both (Rc.both (Rc.both (Rc.both (Rc.both OU laidOut) Kq) OV) OW) OY) OZ) O0) O1) Lf) Lg) Lh) Li) Ks) Kt) Ku) Kv) Kw) Kx) Ky) Kz) KA) KB) KC) KD) KF) KG) KH) KI) KJ) KL) KN)
theorem over : Rows.ExplainInputsSaid :=
  OpenClaim.holds_of_wide 5 Tryz.f5 rfl rfl rfl rfl rfl rfl rfl ⟨rfl, rfl, rfl, rfl, rfl⟩ rfl rfl rfl rfl rfl rq Tryz.func5 closed
    (of_decide_eq_true (by kernel_rfl)) (by unfold Func.isWrapper; first | (rw [if_pos (by decide +kernel)]; kernel_rfl) | (rw [if_neg (by decide +kernel)]; exact⟨rfl, rfl⟩))
    (fun os started H enc _ => lifted os started H enc)
/-- The given statement. -/
theorem proved : Rows.ExplainInputsCardSaid :=
  Claim7.holds_tied_plain_at .later [] [.data, .data, .data, .data, .sentinel, .sentinel, .pinned] true (true, "8c1cd16eb08857fcb245d2e8549ba0b13d3c75f402574bc64b80b57993279c32") true over (fun _ h => by cases h) (by kernel_rfl) (fun _ h => by cases h) Cx rfl ⟨rfl, rfl⟩ (by kernel_rfl) rfl
    (fun f fn a b => by
      obtain rfl : f = 5 := Option.some.inj ((rq).symm.trans a) |>.symm
      obtain rfl : fn = Tryz.f5 := (Option.some.inj (Tryz.func5.symm.trans b)).symm
      exact⟨EU.symm, fun j t ht => by
        rw [Tryz.params5] at ht
        have hm : t ∈ [22] := by simpa using Array.mem_of_getElem? ht
        have c : ([22].all fun u => !Tryz.prog.wantsStandIn u) = true := by kernel_rfl
        exact(show Tryz.prog.wantsStandIn t = false by simpa using List.all_eq_true.1 c t hm)⟩)
    Cw.symm
#print axioms proved
end Go.Proofs.YtjpagoacbadijaaGreatDoor
