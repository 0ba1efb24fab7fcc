/- EngineNew answers true whatever its input: in a new base a request runs what is below the goals, and records their values and reads. Conditions: those of the given row alone (nothing of them is added to). -/
import Derived.Test.YtilldnlhckpbjaaGreatDoorCards
import Derived.Test.YtilldnlhckpbjaaGreatDoorQLift
import Derived.Test.YtilldnlhckpbjaaGreatDoorQClosed
import Derived.Test.YtilldnlhckpbjaaGreatDoorQGoes
import Derived.Test.YtilldnlhckpbjaaGreatDoorQTied
import Derived.WalkKit
import Derived.ProofKit
import Derived.Handy
import Derived.Lay
import Derived.SevenTiedAt
import Derived.MakeChecks
import Derived.LaidLaws
import Derived.Handed
import Derived.JoinedOf
import Derived.LaidMore
import Derived.OpenShut
import Derived.Lib.LaidTab
namespace Go.Proofs.YtilldnlhckpbjaaGreatDoor
open Go Go.ChangeShapes Go.WideShapes Go.ChangeAt Go.RowKit
set_option linter.all false
set_option maxRecDepth 1000000
theorem closed : joinedFacts Tryz.prog 3 Tryz.f3 Rows.engineNewSpec Rows.engineNewRow = true := by
  unfold joinedFacts
  exact(Rc.both (Rc.both (Rc.both (Rc.both (Rc.both (Rc.both (Rc.both (Rc.both (Rc.both (Rc.both (Rc.both (Rc.both (Rc.both (Rc.both (Rc.both (Rc.both (Rc.both (Rc.both (Rc.both (Rc.both (Rc.both (Rc.both (Rc.both (Rc.both (Rc.both (Rc.both (Rc.both (Rc.both (Rc.both (Rc.both (Rc.both OZ laidOut) Kz) O0) O1) O2) O3) O4) O5) Lr) Ls) Lt) Lu) KB) KC) KD) KF) KG) KH) KI) KJ) KL) KN) KO) KP) KQ) KS) KT) KU) KW) KX) KY)
theorem over : Rows.EngineNewSaid :=
  OpenClaim.holds_of_wide 3 Tryz.f3 rfl rfl rfl rfl rfl rfl rfl ⟨rfl, rfl, rfl, rfl, rfl⟩ rfl rfl rfl rfl rfl rz Tryz.func3 closed
    (of_decide_eq_true (by kernel_rfl)) (by unfold Func.isWrapper; first | (rw [if_pos (by decide +kernel)]; kernel_rfl) | (rw [if_neg (by decide +kernel)]; exact⟨rfl, rfl⟩))
    (fun os started H enc _ => lifted os started H enc)
/-- The given statement. -/
theorem proved : Rows.EngineNewCardSaid :=
  Claim7.holds_tied_plain_at .later [] [.data, .data, .data, .data, .sentinel, .sentinel, .pinned] true (true, "e9ec18fc98cd35cf63f0d11710a28f51e2aeb99849eb99ea6ab7da6434b73765") true over (fun _ h => by cases h) (by kernel_rfl) (fun _ h => by cases h) Cx rfl ⟨rfl, rfl⟩ (by kernel_rfl) rfl
    (fun f fn a b => by
      obtain rfl : f = 3 := Option.some.inj ((rz).symm.trans a) |>.symm
      obtain rfl : fn = Tryz.f3 := (Option.some.inj (Tryz.func3.symm.trans b)).symm
      exact⟨ET.symm, fun j t ht => by
        rw [Tryz.params3] at ht
        have hm : t ∈ [22] := by simpa using Array.mem_of_getElem? ht
        have c : ([22].all fun u => !Tryz.prog.wantsStandIn u) = true := by kernel_rfl
        exact(show Tryz.prog.wantsStandIn t = false by simpa using List.all_eq_true.1 c t hm)⟩)
    Cw.symm
#print axioms proved
end Go.Proofs.YtilldnlhckpbjaaGreatDoor
