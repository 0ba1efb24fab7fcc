/- ExplainEnds answers true whatever its input: the chain of a key that is to be run ends with an input that has changed. Conditions: those of the given row alone (nothing of them is added to). -/
import Derived.Test.YtilldnlhckpbjaaGreatDoorCards
import Derived.Test.YtilldnlhckpbjaaGreatDoorELift
import Derived.Test.YtilldnlhckpbjaaGreatDoorEClosed
import Derived.Test.YtilldnlhckpbjaaGreatDoorEGoes
import Derived.Test.YtilldnlhckpbjaaGreatDoorETied
import Derived.WalkKit
import Derived.ProofKit
import Derived.Handy
import Derived.Lay
import Derived.SevenTiedAt
import Derived.MakeChecks
import Derived.LaidLaws
import Derived.Handed
import Derived.JoinedOf
import Derived.LaidMore
import Derived.OpenShut
import Derived.Lib.LaidTab
namespace Go.Proofs.YtilldnlhckpbjaaGreatDoor
open Go Go.ChangeShapes Go.WideShapes Go.ChangeAt Go.RowKit
set_option linter.all false
set_option maxRecDepth 1000000
theorem closed : joinedFacts Tryz.prog 4 Tryz.f4 Rows.explainEndsSpec Rows.explainEndsRow = true := by
  unfold joinedFacts
  exact(Rc.both (Rc.both (Rc.both (Rc.both (Rc.both (Rc.both (Rc.both (Rc.both (Rc.both (Rc.both (Rc.both (Rc.both (Rc.both (Rc.both (Rc.both (Rc.both (Rc.both (Rc.both (Rc.both (Rc.both (Rc.both (Rc.both (Rc.both (Rc.both (Rc.both (Rc.both (Rc.both (Rc.both (Rc.both (Rc.both (Rc.both PT laidOut) Lf) PU) PW) PX) PY) PZ) P0) L6) L7) L8) Ma) Lh) Li) Lj) Lk) Ll) Lm) Ln) Lo) Lp) Lq) Lr) Ls) Lt) Lu) Lv) Lx) Ly) Lz) LA)
theorem over : Rows.ExplainEndsSaid :=
  OpenClaim.holds_of_wide 4 Tryz.f4 rfl rfl rfl rfl rfl rfl rfl ⟨rfl, rfl, rfl, rfl, rfl⟩ rfl rfl rfl rfl rfl rW Tryz.func4 closed
    (of_decide_eq_true (by kernel_rfl)) (by unfold Func.isWrapper; first | (rw [if_pos (by decide +kernel)]; kernel_rfl) | (rw [if_neg (by decide +kernel)]; exact⟨rfl, rfl⟩))
    (fun os started H enc _ => lifted os started H enc)
/-- The given statement. -/
theorem proved : Rows.ExplainEndsCardSaid :=
  Claim7.holds_tied_plain_at .later [] [.data, .data, .data, .data, .sentinel, .sentinel, .pinned] true (true, "e9ec18fc98cd35cf63f0d11710a28f51e2aeb99849eb99ea6ab7da6434b73765") true over (fun _ h => by cases h) (by kernel_rfl) (fun _ h => by cases h) C3 rfl ⟨rfl, rfl⟩ (by kernel_rfl) rfl
    (fun f fn a b => by
      obtain rfl : f = 4 := Option.some.inj ((rW).symm.trans a) |>.symm
      obtain rfl : fn = Tryz.f4 := (Option.some.inj (Tryz.func4.symm.trans b)).symm
      exact⟨Ft.symm, fun j t ht => by
        rw [Tryz.params4] at ht
        have hm : t ∈ [22] := by simpa using Array.mem_of_getElem? ht
        have c : ([22].all fun u => !Tryz.prog.wantsStandIn u) = true := by kernel_rfl
        exact(show Tryz.prog.wantsStandIn t = false by simpa using List.all_eq_true.1 c t hm)⟩)
    C2.symm
#print axioms proved
end Go.Proofs.YtilldnlhckpbjaaGreatDoor
