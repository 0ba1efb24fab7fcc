/- EngineStops answers true whatever its input: a key is run exactly if the value of a read is another one. Conditions: those of the given row alone (nothing of them is added to). -/
import Derived.Test.YtfamnpoplgkkcaaGreatDoorCards
import Derived.Test.YtfamnpoplgkkcaaGreatDoorSLift
import Derived.Test.YtfamnpoplgkkcaaGreatDoorSClosed
import Derived.Test.YtfamnpoplgkkcaaGreatDoorSGoes
import Derived.Test.YtfamnpoplgkkcaaGreatDoorSTied
import Derived.WalkKit
import Derived.ProofKit
import Derived.Handy
import Derived.Lay
import Derived.SevenTiedAt
import Derived.MakeChecks
import Derived.LaidLaws
import Derived.Handed
import Derived.JoinedOf
import Derived.LaidMore
import Derived.OpenShut
import Derived.Lib.LaidTab
namespace Go.Proofs.YtfamnpoplgkkcaaGreatDoor
open Go Go.ChangeShapes Go.WideShapes Go.ChangeAt Go.RowKit
set_option linter.all false
set_option maxRecDepth 1000000
theorem closed : joinedFacts Tryz.prog 4 Tryz.f4 Rows.engineStopsSpec Rows.engineStopsRow = true := by
  unfold joinedFacts
  exact(Rc.both (Rc.both (Rc.both (Rc.both (Rc.both (Rc.both (Rc.both (Rc.both (Rc.both (Rc.both (Rc.both (Rc.both (Rc.both (Rc.both (Rc.both (Rc.both (Rc.both (Rc.both (Rc.both (Rc.both (Rc.both (Rc.both (Rc.both (Rc.both (Rc.both (Rc.both (Rc.both (Rc.both (Rc.both (Rc.both (Rc.both Wx laidOut) RD) Wz) WA) WE) WG) WJ) WM) Sw) Sx) Sy) SA) RG) RH) RJ) RM) RN) RO) RP) RQ) RU) RV) RW) RX) RY) RZ) R0) R1) R2) R3) R4)
theorem over : Rows.EngineStopsSaid :=
  OpenClaim.holds_of_wide 4 Tryz.f4 rfl rfl rfl rfl rfl rfl rfl ⟨rfl, rfl, rfl, rfl, rfl⟩ rfl rfl rfl rfl rfl vj Tryz.func4 closed
    (of_decide_eq_true (by kernel_rfl)) (by unfold Func.isWrapper; first | (rw [if_pos (by decide +kernel)]; kernel_rfl) | (rw [if_neg (by decide +kernel)]; exact⟨rfl, rfl⟩))
    (fun os started H enc _ => lifted os started H enc)
/-- The given statement. -/
theorem proved : Rows.EngineStopsCardSaid :=
  Claim7.holds_tied_plain_at .later [] [.data, .data, .data, .data, .sentinel, .sentinel, .pinned] true (true, "0cd1527cbfc57c596f6a40b3c7ec4f1b3a61472b3f449b50d132227065dd36a8") true over (fun _ h => by cases h) (by kernel_rfl) (fun _ h => by cases h) H5 rfl ⟨rfl, rfl⟩ (by kernel_rfl) rfl
    (fun f fn a b => by
      obtain rfl : f = 4 := Option.some.inj ((vj).symm.trans a) |>.symm
      obtain rfl : fn = Tryz.f4 := (Option.some.inj (Tryz.func4.symm.trans b)).symm
      exact⟨KL.symm, fun j t ht => by
        rw [Tryz.params4] at ht
        have hm : t ∈ [22] := by simpa using Array.mem_of_getElem? ht
        have c : ([22].all fun u => !Tryz.prog.wantsStandIn u) = true := by kernel_rfl
        exact(show Tryz.prog.wantsStandIn t = false by simpa using List.all_eq_true.1 c t hm)⟩)
    H4.symm
#print axioms proved
end Go.Proofs.YtfamnpoplgkkcaaGreatDoor
