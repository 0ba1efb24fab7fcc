/- EngineRight answers true whatever its input: a request gives the values that there are from scratch, and nothing is left to do. Conditions: those of the given row alone (nothing of them is added to). -/
import Derived.Test.YtfamnpoplgkkcaaGreatDoorCards
import Derived.Test.YtfamnpoplgkkcaaGreatDoorOLift
import Derived.Test.YtfamnpoplgkkcaaGreatDoorOClosed
import Derived.Test.YtfamnpoplgkkcaaGreatDoorOGoes
import Derived.Test.YtfamnpoplgkkcaaGreatDoorOTied
import Derived.WalkKit
import Derived.ProofKit
import Derived.Handy
import Derived.Lay
import Derived.SevenTiedAt
import Derived.MakeChecks
import Derived.LaidLaws
import Derived.Handed
import Derived.JoinedOf
import Derived.LaidMore
import Derived.OpenShut
import Derived.Lib.LaidTab
namespace Go.Proofs.YtfamnpoplgkkcaaGreatDoor
open Go Go.ChangeShapes Go.WideShapes Go.ChangeAt Go.RowKit
set_option linter.all false
set_option maxRecDepth 1000000
theorem closed : joinedFacts Tryz.prog 3 Tryz.f3 Rows.engineRightSpec Rows.engineRightRow = true := by
  unfold joinedFacts
  exact(Rc.both (Rc.both (Rc.both (Rc.both (Rc.both (Rc.both (Rc.both (Rc.both (Rc.both (Rc.both (Rc.both (Rc.both (Rc.both (Rc.both (Rc.both (Rc.both (Rc.both (Rc.both (Rc.both (Rc.both (Rc.both (Rc.both (Rc.both (Rc.both (Rc.both (Rc.both (Rc.both (Rc.both (Rc.both (Rc.both (Rc.both V5 laidOut) Rh) V6) V7) V8) V9) Wa) Wb) R9) Sa) Sb) Sc) Rj) Rk) Rl) Rm) Rn) Ro) Rp) Rq) Rr) Rt) Ru) Rv) Rw) Ry) Rz) RA) RB) RC) RD)
theorem over : Rows.EngineRightSaid :=
  OpenClaim.holds_of_wide 3 Tryz.f3 rfl rfl rfl rfl rfl rfl rfl ⟨rfl, rfl, rfl, rfl, rfl⟩ rfl rfl rfl rfl rfl u9 Tryz.func3 closed
    (of_decide_eq_true (by kernel_rfl)) (by unfold Func.isWrapper; first | (rw [if_pos (by decide +kernel)]; kernel_rfl) | (rw [if_neg (by decide +kernel)]; exact⟨rfl, rfl⟩))
    (fun os started H enc _ => lifted os started H enc)
/-- The given statement. -/
theorem proved : Rows.EngineRightCardSaid :=
  Claim7.holds_tied_plain_at .later [] [.data, .data, .data, .data, .sentinel, .sentinel, .pinned] true (true, "0cd1527cbfc57c596f6a40b3c7ec4f1b3a61472b3f449b50d132227065dd36a8") true over (fun _ h => by cases h) (by kernel_rfl) (fun _ h => by cases h) HI rfl ⟨rfl, rfl⟩ (by kernel_rfl) rfl
    (fun f fn a b => by
      obtain rfl : f = 3 := Option.some.inj ((u9).symm.trans a) |>.symm
      obtain rfl : fn = Tryz.f3 := (Option.some.inj (Tryz.func3.symm.trans b)).symm
      exact⟨Kn.symm, fun j t ht => by
        rw [Tryz.params3] at ht
        have hm : t ∈ [22] := by simpa using Array.mem_of_getElem? ht
        have c : ([22].all fun u => !Tryz.prog.wantsStandIn u) = true := by kernel_rfl
        exact(show Tryz.prog.wantsStandIn t = false by simpa using List.all_eq_true.1 c t hm)⟩)
    HH.symm
#print axioms proved
end Go.Proofs.YtfamnpoplgkkcaaGreatDoor
