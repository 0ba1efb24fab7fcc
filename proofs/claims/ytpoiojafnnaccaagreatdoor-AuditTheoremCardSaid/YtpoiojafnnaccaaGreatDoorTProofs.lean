/- AuditTheorem answers true whatever its input: a request is right, what it runs is sound, and nothing is run twice. Conditions: those of the given row alone (nothing of them is added to). -/
import Derived.Test.YtpoiojafnnaccaaGreatDoorCards
import Derived.Test.YtpoiojafnnaccaaGreatDoorTLift
import Derived.Test.YtpoiojafnnaccaaGreatDoorTClosed
import Derived.Test.YtpoiojafnnaccaaGreatDoorTGoes
import Derived.Test.YtpoiojafnnaccaaGreatDoorTTied
import Derived.WalkKit
import Derived.ProofKit
import Derived.Handy
import Derived.Lay
import Derived.SevenTiedAt
import Derived.MakeChecks
import Derived.LaidLaws
import Derived.Handed
import Derived.JoinedOf
import Derived.LaidMore
import Derived.OpenShut
import Derived.Lib.LaidTab
namespace Go.Proofs.YtpoiojafnnaccaaGreatDoor
open Go Go.ChangeShapes Go.WideShapes Go.ChangeAt Go.RowKit
set_option linter.all false
set_option maxRecDepth 1000000
theorem closed : joinedFacts Tryz.prog 3 Tryz.f3 Rows.auditTheoremSpec Rows.auditTheoremRow = true := by
  unfold joinedFacts
  exact(Rc.both (Rc.both (Rc.both (Rc.both (Rc.both (Rc.both (Rc.both (Rc.both (Rc.both (Rc.both (Rc.both (Rc.both (Rc.both (Rc.both (Rc.both (Rc.both (Rc.both (Rc.both (Rc.both (Rc.both (Rc.both (Rc.both (Rc.both (Rc.both (Rc.both (Rc.both (Rc.both (Rc.both (Rc.both (Rc.both (Rc.both adg laidOut) XZ) adh) adi) adj) adk) adl) adm) YU) YV) YW) YX) X2) X3) X4) X5) X6) X7) X8) X9) Ya) Yb) Yc) Yd) Ye) Yf) Yg) Yh) Yi) Yj) Yk)
theorem over : Rows.AuditTheoremSaid :=
  OpenClaim.holds_of_wide 3 Tryz.f3 rfl rfl rfl rfl rfl rfl rfl ⟨rfl, rfl, rfl, rfl, rfl⟩ rfl rfl rfl rfl rfl Bw Tryz.func3 closed
    (of_decide_eq_true (by kernel_rfl)) (by unfold Func.isWrapper; first | (rw [if_pos (by decide +kernel)]; kernel_rfl) | (rw [if_neg (by decide +kernel)]; exact⟨rfl, rfl⟩))
    (fun os started H enc _ => lifted os started H enc)
/-- The given statement. -/
theorem proved : Rows.AuditTheoremCardSaid :=
  Claim7.holds_tied_plain_at .later [] [.data, .data, .data, .data, .sentinel, .sentinel, .pinned] true (true, "06280254396febd23b788e9c023ea4df7cb43763645703941323cbc94178394d") true over (fun _ h => by cases h) (by kernel_rfl) (fun _ h => by cases h) N6 rfl ⟨rfl, rfl⟩ (by kernel_rfl) rfl
    (fun f fn hf hfn => by
      obtain rfl : f = 3 := Option.some.inj ((Bw).symm.trans hf) |>.symm
      obtain rfl : fn = Tryz.f3 := (Option.some.inj (Tryz.func3.symm.trans hfn)).symm
      exact⟨QC.symm, fun j t ht => by
        rw [Tryz.params3] at ht
        have hm : t ∈ [22] := by simpa using Array.mem_of_getElem? ht
        have cx : ([22].all fun u => !Tryz.prog.wantsStandIn u) = true := by kernel_rfl
        exact(show Tryz.prog.wantsStandIn t = false by simpa using List.all_eq_true.1 cx t hm)⟩)
    N5.symm
#print axioms proved
end Go.Proofs.YtpoiojafnnaccaaGreatDoor
