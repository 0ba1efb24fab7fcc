/- EngineOrder answers true whatever its input: the order of the goals does not matter, nor whether they are requested together. Conditions: those of the given row alone (nothing of them is added to). -/
import Derived.Test.YtmpkegmkoclbhaaGreatDoorCards
import Derived.Test.YtmpkegmkoclbhaaGreatDoorDLift
import Derived.Test.YtmpkegmkoclbhaaGreatDoorDClosed
import Derived.Test.YtmpkegmkoclbhaaGreatDoorDGoes
import Derived.Test.YtmpkegmkoclbhaaGreatDoorDTied
import Derived.WalkKit
import Derived.ProofKit
import Derived.Handy
import Derived.Lay
import Derived.SevenTiedAt
import Derived.MakeChecks
import Derived.LaidLaws
import Derived.Handed
import Derived.JoinedOf
import Derived.LaidMore
import Derived.OpenShut
import Derived.Lib.LaidTab
namespace Go.Proofs.YtmpkegmkoclbhaaGreatDoor
open Go Go.ChangeShapes Go.WideShapes Go.ChangeAt Go.RowKit
set_option linter.all false
set_option maxRecDepth 1000000
theorem closed : joinedFacts Tryz.prog 4 Tryz.f4 Rows.engineOrderSpec Rows.engineOrderRow = true := by
  unfold joinedFacts
  exact(Rc.both (Rc.both (Rc.both (Rc.both (Rc.both (Rc.both (Rc.both (Rc.both (Rc.both (Rc.both (Rc.both (Rc.both (Rc.both (Rc.both (Rc.both (Rc.both (Rc.both (Rc.both (Rc.both (Rc.both (Rc.both (Rc.both (Rc.both (Rc.both (Rc.both (Rc.both (Rc.both (Rc.both (Rc.both (Rc.both (Rc.both Wl laidOut) Rl) Wm) Wn) Wo) Wp) Wq) Wr) Sm) Sn) Sp) Sq) Rn) Ro) Rp) Rq) Rr) Rt) Ru) Rv) Rw) Ry) Rz) RA) RB) RC) RD) RF) RG) RH) RJ)
theorem over : Rows.EngineOrderSaid :=
  OpenClaim.holds_of_wide 4 Tryz.f4 rfl rfl rfl rfl rfl rfl rfl ⟨rfl, rfl, rfl, rfl, rfl⟩ rfl rfl rfl rfl rfl u7 Tryz.func4 closed
    (of_decide_eq_true (by kernel_rfl)) (by unfold Func.isWrapper; first | (rw [if_pos (by decide +kernel)]; kernel_rfl) | (rw [if_neg (by decide +kernel)]; exact⟨rfl, rfl⟩))
    (fun os started H enc _ => lifted os started H enc)
/-- The given statement. -/
theorem proved : Rows.EngineOrderCardSaid :=
  Claim7.holds_tied_plain_at .later [] [.data, .data, .data, .data, .sentinel, .sentinel, .pinned] true (true, "fdd5766370f92f4577922f243d2a6db127859b39384bcde46631fdf8310d4985") true over (fun _ h => by cases h) (by kernel_rfl) (fun _ h => by cases h) HY rfl ⟨rfl, rfl⟩ (by kernel_rfl) rfl
    (fun f fn a b => by
      obtain rfl : f = 4 := Option.some.inj ((u7).symm.trans a) |>.symm
      obtain rfl : fn = Tryz.f4 := (Option.some.inj (Tryz.func4.symm.trans b)).symm
      exact⟨KA.symm, fun j t ht => by
        rw [Tryz.params4] at ht
        have hm : t ∈ [22] := by simpa using Array.mem_of_getElem? ht
        have c : ([22].all fun u => !Tryz.prog.wantsStandIn u) = true := by kernel_rfl
        exact(show Tryz.prog.wantsStandIn t = false by simpa using List.all_eq_true.1 c t hm)⟩)
    HX.symm
#print axioms proved
end Go.Proofs.YtmpkegmkoclbhaaGreatDoor
