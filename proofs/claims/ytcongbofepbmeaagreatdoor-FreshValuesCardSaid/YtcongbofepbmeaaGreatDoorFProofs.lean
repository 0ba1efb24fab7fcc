/- FreshValues answers true whatever its input: the values of keys, what they read, and what is below them, or the error, are the document's. Conditions: those of the given row alone (nothing of them is added to). -/
import Derived.Test.YtcongbofepbmeaaGreatDoorCards
import Derived.Test.YtcongbofepbmeaaGreatDoorFLift
import Derived.Test.YtcongbofepbmeaaGreatDoorFClosed
import Derived.Test.YtcongbofepbmeaaGreatDoorFGoes
import Derived.Test.YtcongbofepbmeaaGreatDoorFTied
import Derived.WalkKit
import Derived.ProofKit
import Derived.Handy
import Derived.Lay
import Derived.SevenTiedAt
import Derived.MakeChecks
import Derived.LaidLaws
import Derived.Handed
import Derived.JoinedOf
import Derived.LaidMore
import Derived.OpenShut
import Derived.Lib.LaidTab
namespace Go.Proofs.YtcongbofepbmeaaGreatDoor
open Go Go.ChangeShapes Go.WideShapes Go.ChangeAt Go.RowKit
set_option linter.all false
set_option maxRecDepth 1000000
theorem closed : joinedFacts Tryz.prog 3 Tryz.f3 Rows.freshValuesSpec Rows.freshValuesRow = true := by
  unfold joinedFacts
  exact(Rc.both (Rc.both (Rc.both (Rc.both (Rc.both (Rc.both (Rc.both (Rc.both (Rc.both (Rc.both (Rc.both (Rc.both (Rc.both (Rc.both (Rc.both (Rc.both (Rc.both (Rc.both (Rc.both (Rc.both (Rc.both (Rc.both (Rc.both (Rc.both (Rc.both (Rc.both (Rc.both (Rc.both (Rc.both (Rc.both (Rc.both SQ laidOut) Og) SS) SU) SX) SY) SZ) S0) Pb) Pc) Pd) Pe) Oi) Oj) Ol) Om) On) Oo) Oq) Ot) Ou) Ov) Ox) Oy) Oz) OA) OB) OC) OD) OE) OG)
theorem over : Rows.FreshValuesSaid :=
  OpenClaim.holds_of_wide 3 Tryz.f3 rfl rfl rfl rfl rfl rfl rfl ⟨rfl, rfl, rfl, rfl, rfl⟩ rfl rfl rfl rfl rfl uo Tryz.func3 closed
    (of_decide_eq_true (by kernel_rfl)) (by unfold Func.isWrapper; first | (rw [if_pos (by decide +kernel)]; kernel_rfl) | (rw [if_neg (by decide +kernel)]; exact⟨rfl, rfl⟩))
    (fun os started H enc _ => lifted os started H enc)
/-- The given statement. -/
theorem proved : Rows.FreshValuesCardSaid :=
  Claim7.holds_tied_plain_at .later [] [.data, .data, .data, .data, .sentinel, .sentinel, .pinned] true (true, "609fd638b8cdc29d1c584964e787f1ceeb4ff2881438eade09f577a755209860") true over (fun _ h => by cases h) (by kernel_rfl) (fun _ h => by cases h) Gg rfl ⟨rfl, rfl⟩ (by kernel_rfl) rfl
    (fun f fn a b => by
      obtain rfl : f = 3 := Option.some.inj ((uo).symm.trans a) |>.symm
      obtain rfl : fn = Tryz.f3 := (Option.some.inj (Tryz.func3.symm.trans b)).symm
      exact⟨Il.symm, fun j t ht => by
        rw [Tryz.params3] at ht
        have hm : t ∈ [25, 26, 27, 29, 3] := by simpa using Array.mem_of_getElem? ht
        have c : ([25, 26, 27, 29, 3].all fun u => !Tryz.prog.wantsStandIn u) = true := by kernel_rfl
        exact(show Tryz.prog.wantsStandIn t = false by simpa using List.all_eq_true.1 c t hm)⟩)
    Gf.symm
#print axioms proved
end Go.Proofs.YtcongbofepbmeaaGreatDoor
