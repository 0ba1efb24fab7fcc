/- EngineBack answers true whatever its input: what is changed and changed back runs what reads it, and leaves the rest. Conditions: those of the given row alone (nothing of them is added to). -/
import Derived.Test.YtfamnpoplgkkcaaGreatDoorCards
import Derived.Test.YtfamnpoplgkkcaaGreatDoorKLift
import Derived.Test.YtfamnpoplgkkcaaGreatDoorKClosed
import Derived.Test.YtfamnpoplgkkcaaGreatDoorKGoes
import Derived.Test.YtfamnpoplgkkcaaGreatDoorKTied
import Derived.WalkKit
import Derived.ProofKit
import Derived.Handy
import Derived.Lay
import Derived.SevenTiedAt
import Derived.MakeChecks
import Derived.LaidLaws
import Derived.Handed
import Derived.JoinedOf
import Derived.LaidMore
import Derived.OpenShut
import Derived.Lib.LaidTab
namespace Go.Proofs.YtfamnpoplgkkcaaGreatDoor
open Go Go.ChangeShapes Go.WideShapes Go.ChangeAt Go.RowKit
set_option linter.all false
set_option maxRecDepth 1000000
theorem closed : joinedFacts Tryz.prog 5 Tryz.f5 Rows.engineBackSpec Rows.engineBackRow = true := by
  unfold joinedFacts
  exact(Rc.both (Rc.both (Rc.both (Rc.both (Rc.both (Rc.both (Rc.both (Rc.both (Rc.both (Rc.both (Rc.both (Rc.both (Rc.both (Rc.both (Rc.both (Rc.both (Rc.both (Rc.both (Rc.both (Rc.both (Rc.both (Rc.both (Rc.both (Rc.both (Rc.both (Rc.both (Rc.both (Rc.both (Rc.both (Rc.both (Rc.both Mp laidOut) Io) Mq) Mr) Ms) Mt) Mu) Mv) Je) Jf) Jg) Jh) Iq) Ir) Is) It) Iu) Iv) Iw) Ix) Iy) Iz) IA) IB) IC) ID) IE) IF) IH) II) IJ)
theorem over : Rows.EngineBackSaid :=
  OpenClaim.holds_of_wide 5 Tryz.f5 rfl rfl rfl rfl rfl rfl rfl ⟨rfl, rfl, rfl, rfl, rfl⟩ rfl rfl rfl rfl rfl pP Tryz.func5 closed
    (of_decide_eq_true (by kernel_rfl)) (by unfold Func.isWrapper; first | (rw [if_pos (by decide +kernel)]; kernel_rfl) | (rw [if_neg (by decide +kernel)]; exact⟨rfl, rfl⟩))
    (fun os started H enc _ => lifted os started H enc)
/-- The given statement. -/
theorem proved : Rows.EngineBackCardSaid :=
  Claim7.holds_tied_plain_at .later [] [.data, .data, .data, .data, .sentinel, .sentinel, .pinned] true (true, "0cd1527cbfc57c596f6a40b3c7ec4f1b3a61472b3f449b50d132227065dd36a8") true over (fun _ h => by cases h) (by kernel_rfl) (fun _ h => by cases h) Ak rfl ⟨rfl, rfl⟩ (by kernel_rfl) rfl
    (fun f fn a b => by
      obtain rfl : f = 5 := Option.some.inj ((pP).symm.trans a) |>.symm
      obtain rfl : fn = Tryz.f5 := (Option.some.inj (Tryz.func5.symm.trans b)).symm
      exact⟨CQ.symm, fun j t ht => by
        rw [Tryz.params5] at ht
        have hm : t ∈ [22] := by simpa using Array.mem_of_getElem? ht
        have c : ([22].all fun u => !Tryz.prog.wantsStandIn u) = true := by kernel_rfl
        exact(show Tryz.prog.wantsStandIn t = false by simpa using List.all_eq_true.1 c t hm)⟩)
    Aj.symm
#print axioms proved
end Go.Proofs.YtfamnpoplgkkcaaGreatDoor
