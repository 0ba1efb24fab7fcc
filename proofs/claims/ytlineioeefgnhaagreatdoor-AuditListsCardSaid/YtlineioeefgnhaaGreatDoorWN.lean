/- Walks over the program, part WN. Conditions: as each theorem says. -/
import Derived.Test.YtlineioeefgnhaaGreatDoorFacts
import Derived.Test.YtlineioeefgnhaaGreatDoorWLib
import Derived.Test.YtlineioeefgnhaaGreatDoorWC
import Derived.Test.YtlineioeefgnhaaGreatDoorBb
import Derived.Test.YtlineioeefgnhaaGreatDoorBc
import Derived.Test.YtlineioeefgnhaaGreatDoorBa
set_option linter.unusedVariables false
set_option linter.unusedSimpArgs false
set_option linter.unusedSectionVars false
namespace Go.Rc
open Go Go.Proofs
set_option maxHeartbeats 400000
theorem ptoy_calls {n : Int} {w : World} : Calls Tryz.prog 131 #[.int .i64 n] w fun e w' => e = .returned (.bool (decide (30 ≤ n) && decide (n ≤ 32))) ∧ Chg [] w w'  := by
 refine enter (args := [.int .i64 n]) Tryz.func131 rfl Tryz.ntmps131 rfl ?_
 have st0 : St w (fun _ => False) (fun _ => False) w [] := St.start (by simp)
 refine WC.seq ?_
 refine WC.region ?_
 refine WL.p rfl rfl (PV.as rfl) <| WL.nil ?_
 refine EX.seqN ?_
 refine WC.seq ?_
 refine WC.cut1Se (t := 2) (v := .bool (decide (30 ≤ n) && decide (n ≤ 32))) st0 ?_ ?_
 ·
  skip
  refine WC.region ?_
  refine WL.p rfl rfl (PV.mv rfl) <| WL.p rfl rfl (PV.geq rfl rfl) <| WL.p rfl rfl (PV.mv rfl) <| ?_
  refine WL.gsplit (t := 5) rfl (fun g5 => ?_) (fun g5 => ?_)
  ·
   skip
   refine WL.p rfl rfl (PV.mv rfl) <| WL.p rfl rfl (PV.leq rfl rfl) <| WL.p rfl rfl (PV.pickT rfl rfl rfl) <| WL.p rfl rfl (PV.as rfl) <| WL.nil ?_
   exact EX.meet1e 8 rfl rfl rfl (by simp only [g5]; first | rfl | simp) (st0)
  ·
   skip
   refine WL.no rfl rfl <| WL.no rfl rfl <| WL.p rfl rfl (PV.pickF rfl rfl rfl) <| WL.p rfl rfl (PV.as rfl) <| WL.nil ?_
   exact EX.meet1e 8 rfl rfl rfl (by simp only [g5]; first | rfl | simp) (st0)
 intro w1 st1
 refine EX.seqN ?_
 refine WC.ret ?_
 refine EX.ret1 rfl rfl ?_
 exact ⟨rfl, (St.cg st1)⟩
theorem plang_calls {n : Int} {w : World} : Calls Tryz.prog 102 #[.int .i64 n] w fun e w' => e = .returned (.bool (decide (1 ≤ n) && decide (n ≤ 22))) ∧ Chg [] w w'  := by
 refine enter (args := [.int .i64 n]) Tryz.func102 rfl Tryz.ntmps102 rfl ?_
 have st0 : St w (fun _ => False) (fun _ => False) w [] := St.start (by simp)
 refine WC.seq ?_
 refine WC.region ?_
 refine WL.p rfl rfl (PV.as rfl) <| WL.nil ?_
 refine EX.seqN ?_
 refine WC.seq ?_
 refine WC.cut1Se (t := 2) (v := .bool (decide (1 ≤ n) && decide (n ≤ 22))) st0 ?_ ?_
 ·
  skip
  refine WC.region ?_
  refine WL.p rfl rfl (PV.mv rfl) <| WL.p rfl rfl (PV.geq rfl rfl) <| WL.p rfl rfl (PV.mv rfl) <| ?_
  refine WL.gsplit (t := 5) rfl (fun g5 => ?_) (fun g5 => ?_)
  ·
   skip
   refine WL.p rfl rfl (PV.mv rfl) <| WL.p rfl rfl (PV.leq rfl rfl) <| WL.p rfl rfl (PV.pickT rfl rfl rfl) <| WL.p rfl rfl (PV.as rfl) <| WL.nil ?_
   exact EX.meet1e 8 rfl rfl rfl (by simp only [g5]; first | rfl | simp) (st0)
  ·
   skip
   refine WL.no rfl rfl <| WL.no rfl rfl <| WL.p rfl rfl (PV.pickF rfl rfl rfl) <| WL.p rfl rfl (PV.as rfl) <| WL.nil ?_
   exact EX.meet1e 8 rfl rfl rfl (by simp only [g5]; first | rfl | simp) (st0)
 intro w1 st1
 refine EX.seqN ?_
 refine WC.ret ?_
 refine EX.ret1 rfl rfl ?_
 exact ⟨rfl, (St.cg st1)⟩
theorem pinput_calls {k : Key} {w : World} : Calls Tryz.prog 56 #[k.val] w fun e w' => e = .returned (.bool (isInput k)) ∧ Chg [] w w'  := by
 refine enter (args := [k.val]) Tryz.func56 rfl Tryz.ntmps56 rfl ?_
 have st0 : St w (fun _ => False) (fun _ => False) w [] := St.start (by simp)
 refine WC.seq ?_
 refine WC.region ?_
 refine WL.go rfl (OX.box rfl rfl rfl fun b1 w1 nw1 hb1 => ?_)
 have st1 := st0.newB nw1 hb1
 refine WL.p rfl rfl (PV.as rfl) <| WL.nil ?_
 refine EX.seqN ?_
 refine WC.seq ?_
 refine WC.cut1Se (t := 2) (v := .bool (isInput k)) st1 ?_ ?_
 ·
  skip
  refine WC.region ?_
  refine WL.p rfl rfl (PV.fa fa27_0 rfl) <| WL.p rfl rfl (PV.ld1 one3 (Blk.range (As.gb st1.g0)) rfl rfl) <| WL.p rfl rfl (PV.eqi rfl rfl) <| WL.p rfl rfl (PV.mv rfl) <| ?_
  refine WL.gsplit (t := 6) rfl (fun g6 => ?_) (fun g6 => ?_)
  ·
   skip
   refine WL.no rfl rfl <| WL.no rfl rfl <| WL.no rfl rfl <| WL.p rfl rfl (PV.pickT rfl rfl rfl) <| WL.p rfl rfl (PV.mv rfl) <| WL.no rfl rfl <| WL.no rfl rfl <| WL.no rfl rfl <| WL.p rfl rfl (PV.pickT rfl rfl rfl) <| WL.p rfl rfl (PV.as rfl) <| WL.nil ?_
   exact EX.meet1e 15 rfl rfl rfl (by unfold isInput; simp only [g6]; first | rfl | simp) (st1)
  ·
   skip
   refine WL.p rfl rfl (PV.fa fa27_0 rfl) <| WL.p rfl rfl (PV.ld1 one3 (Blk.range (As.gb st1.g0)) rfl rfl) <| WL.p rfl rfl (PV.eqi rfl rfl) <| WL.p rfl rfl (PV.pickF rfl rfl rfl) <| WL.p rfl rfl (PV.mv rfl) <| ?_
   refine WL.gsplit (t := 11) rfl (fun g11 => ?_) (fun g11 => ?_)
   ·
    skip
    refine WL.no rfl rfl <| WL.no rfl rfl <| WL.no rfl rfl <| WL.p rfl rfl (PV.pickT rfl rfl rfl) <| WL.p rfl rfl (PV.as rfl) <| WL.nil ?_
    exact EX.meet1e 16 rfl rfl rfl (by unfold isInput; simp only [g6, g11]; first | rfl | simp) (st1)
   ·
    skip
    refine WL.p rfl rfl (PV.fa fa27_0 rfl) <| WL.p rfl rfl (PV.ld1 one3 (Blk.range (As.gb st1.g0)) rfl rfl) <| WL.p rfl rfl (PV.eqi rfl rfl) <| WL.p rfl rfl (PV.pickF rfl rfl rfl) <| WL.p rfl rfl (PV.as rfl) <| WL.nil ?_
    exact EX.meet1e 16 rfl rfl rfl (by unfold isInput; simp only [g6, g11]; first | rfl | simp) (st1)
 intro w2 st2
 refine EX.seqN ?_
 refine WC.ret ?_
 refine EX.ret1 rfl rfl ?_
 exact ⟨rfl, (St.cg st2)⟩
theorem prule_calls {k : Key} {w : World} : Calls Tryz.prog 93 #[k.val] w fun e w' => e = .returned (.bool (decide (k.kind = 31) || decide (k.kind = 32))) ∧ Chg [] w w'  := by
 refine enter (args := [k.val]) Tryz.func93 rfl Tryz.ntmps93 rfl ?_
 have st0 : St w (fun _ => False) (fun _ => False) w [] := St.start (by simp)
 refine WC.seq ?_
 refine WC.region ?_
 refine WL.go rfl (OX.box rfl rfl rfl fun b1 w1 nw1 hb1 => ?_)
 have st1 := st0.newB nw1 hb1
 refine WL.p rfl rfl (PV.as rfl) <| WL.nil ?_
 refine EX.seqN ?_
 refine WC.seq ?_
 refine WC.cut1Se (t := 2) (v := .bool (decide (k.kind = 31) || decide (k.kind = 32))) st1 ?_ ?_
 ·
  skip
  refine WC.region ?_
  refine WL.p rfl rfl (PV.fa fa27_0 rfl) <| WL.p rfl rfl (PV.ld1 one3 (Blk.range (As.gb st1.g0)) rfl rfl) <| WL.p rfl rfl (PV.eqi rfl rfl) <| WL.p rfl rfl (PV.mv rfl) <| ?_
  refine WL.gsplit (t := 6) rfl (fun g6 => ?_) (fun g6 => ?_)
  ·
   skip
   refine WL.no rfl rfl <| WL.no rfl rfl <| WL.no rfl rfl <| WL.p rfl rfl (PV.pickT rfl rfl rfl) <| WL.p rfl rfl (PV.as rfl) <| WL.nil ?_
   exact EX.meet1e 10 rfl rfl rfl (by simp only [g6]; first | rfl | simp) (st1)
  ·
   skip
   refine WL.p rfl rfl (PV.fa fa27_0 rfl) <| WL.p rfl rfl (PV.ld1 one3 (Blk.range (As.gb st1.g0)) rfl rfl) <| WL.p rfl rfl (PV.eqi rfl rfl) <| WL.p rfl rfl (PV.pickF rfl rfl rfl) <| WL.p rfl rfl (PV.as rfl) <| WL.nil ?_
   exact EX.meet1e 10 rfl rfl rfl (by simp only [g6]; first | rfl | simp) (st1)
 intro w2 st2
 refine EX.seqN ?_
 refine WC.ret ?_
 refine EX.ret1 rfl rfl ?_
 exact ⟨rfl, (St.cg st2)⟩
theorem pcyclic_calls {k : Key} {w : World} (hk : notLang k) : Calls Tryz.prog 57 #[k.val] w fun e w' => e = .returned (.bool (decide (k.kind = 32))) ∧ Chg [] w w'  := by
 refine enter (args := [k.val]) Tryz.func57 rfl Tryz.ntmps57 rfl ?_
 have st0 : St w (fun _ => False) (fun _ => False) w [] := St.start (by simp)
 refine WC.seq ?_
 refine WC.region ?_
 refine WL.go rfl (OX.box rfl rfl rfl fun b1 w1 nw1 hb1 => ?_)
 have st1 := st0.newB nw1 hb1
 refine WL.p rfl rfl (PV.as rfl) <| WL.nil ?_
 refine EX.seqN ?_
 refine WC.seq ?_
 refine WC.cut1Se (t := 2) (v := .bool (decide (k.kind = 32))) st1 ?_ ?_
 ·
  skip
  refine WC.region ?_
  refine WL.p rfl rfl (PV.fa fa27_0 rfl) <| WL.p rfl rfl (PV.ld1 one3 (Blk.range (As.gb st1.g0)) rfl rfl) <| WL.p rfl rfl (PV.eqi rfl rfl) <| WL.p rfl rfl (PV.mv rfl) <| ?_
  refine WL.gsplit (t := 6) rfl (fun g6 => ?_) (fun g6 => ?_)
  ·
   skip
   refine WL.no rfl rfl <| WL.no rfl rfl <| WL.no rfl rfl <| WL.no rfl rfl <| WL.no rfl rfl <| WL.no rfl rfl <| WL.no rfl rfl <| WL.no rfl rfl <| WL.p rfl rfl (PV.pickT rfl rfl rfl) <| WL.p rfl rfl (PV.as rfl) <| WL.nil ?_
   exact EX.meet1e 15 rfl rfl rfl (by simp only [g6]; first | done | rfl | simp) (st1)
  ·
   skip
   refine WL.p rfl rfl (PV.fa fa27_0 rfl) <| WL.p rfl rfl (PV.ld1 one3 (Blk.range (As.gb st1.g0)) rfl rfl) <| ?_
   refine WL.go rfl (OX.call cf102 rfl rfl ((plang_calls (n := k.kind)).mono ?_))
   rintro _ w2 ⟨rfl, s2⟩
   refine ⟨_, rfl, ?_⟩
   rw [show (decide (1 ≤ k.kind) && decide (k.kind ≤ 22)) = false by (rcases hk with h | h <;> simp <;> omega)]
   have st2 := st1.step s2
   refine WL.p rfl rfl (PV.mv rfl) <| WL.no rfl rfl <| WL.no rfl rfl <| WL.no rfl rfl <| WL.p rfl rfl (PV.pickF rfl rfl rfl) <| WL.p rfl rfl (PV.pickF rfl rfl rfl) <| WL.p rfl rfl (PV.as rfl) <| WL.nil ?_
   exact EX.meet1e 15 rfl rfl rfl (by simp only [g6]; first | done | rfl | simp) (st2)
 intro w2 st2
 refine EX.seqN ?_
 refine WC.ret ?_
 refine EX.ret1 rfl rfl ?_
 exact ⟨rfl, (St.cg st2)⟩
theorem pnumber_calls {k : Key} {n : Nat} {w : World} (hk : 30 ≤ k.kind ∧ k.kind ≤ 32) (ht : k.text = itoa n) (hn : n ≤ 99) : Calls Tryz.prog 95 #[k.val] w fun e w' => e = .returned (.int .i64 (n : Int)) ∧ Chg [] w w'  := by
 obtain ⟨kd, tx⟩ := k
 simp only at hk ht
 subst ht
 refine enter (args := [(⟨kd, itoa n⟩ : Key).val]) Tryz.func95 rfl Tryz.ntmps95 rfl ?_
 have st0 : St w (fun _ => False) (fun _ => False) w [] := St.start (by simp)
 refine WC.seq ?_
 refine WC.region ?_
 refine WL.go rfl (OX.box rfl rfl rfl fun b1 w1 nw1 hb1 => ?_)
 have st1 := st0.newB nw1 hb1
 refine WL.p rfl rfl (PV.as rfl) <| WL.nil ?_
 refine EX.seqN ?_
 refine WC.seq ?_
 refine WC.seq ?_
 refine WC.region ?_
 refine WL.p rfl rfl (PV.fa fa27_0 rfl) <| WL.p rfl rfl (PV.ld1 one3 (Blk.range (As.gb st1.g0)) rfl rfl) <| ?_
 refine WL.go rfl (OX.call cf131 rfl rfl ((ptoy_calls (n := kd)).mono ?_))
 rintro _ w2 ⟨rfl, s2⟩
 refine ⟨_, rfl, ?_⟩
 rw [show (decide (30 ≤ kd) && decide (kd ≤ 32)) = true by (simp; omega)]
 have st2 := st1.step s2
 refine WL.p rfl rfl (PV.not rfl) <| WL.nil ?_
 refine EX.seqN ?_
 refine WC.condF rfl ?_
 refine WC.skip ?_
 refine EX.seqN ?_
 refine WC.seq ?_
 refine WC.region ?_
 refine WL.p rfl rfl (PV.fa fa27_1 rfl) <| WL.p rfl rfl (PV.ld1 one9 (Blk.range (As.gb st2.g0)) rfl rfl) <| ?_
 refine WL.go rfl (OX.call cf132 rfl rfl ((atoi_small hn w2).mono ?_))
 rintro _ w3 ⟨rfl, s3⟩
 refine ⟨_, rfl, ?_⟩
 have st3 := st2.step s3
 refine WL.p rfl rfl (PV.mv rfl) <| WL.p rfl rfl (PV.ext rfl rfl) <| WL.p rfl rfl (PV.ext rfl rfl) <| WL.p rfl rfl (PV.as rfl) <| WL.p rfl rfl (PV.as rfl) <| WL.nil ?_
 refine EX.seqN ?_
 refine WC.seq ?_
 refine WC.seq ?_
 refine WC.cut1S (t := 31) (v := .bool false) st3 ?_ ?_
 ·
  skip
  have hN4 := st3.fplt
  refine WC.drawnS (m := 15) (E := lookE [(12, fun v _ => v = .string (itoa n))]) st3 (lookE_st (⟨fun _ _ _ _ _ _ _ h => h, trivial⟩)) mixed (by kernel_rfl) ?_
  refine DW.p rfl rfl rfl rfl rfl (fun _ hC => PV.mv rfl) <| DW.p rfl rfl rfl rfl rfl (fun _ hC => PV.neIN nif162 rfl) <| DW.p rfl rfl rfl rfl rfl (fun _ hC => PV.mv rfl) <| ?_
  refine DW.gsplit (t := 17) rfl (fun g17 => ?_) (fun g17 => ?_)
  ·
   skip
   refine DW.no rfl rfl rfl <| DW.no rfl rfl rfl <| DW.p rfl rfl rfl rfl rfl (fun _ hC => PV.pickT rfl rfl rfl) <| DW.p rfl rfl rfl rfl rfl (fun _ hC => PV.mv rfl) <| DW.no rfl rfl rfl <| DW.no rfl rfl rfl <| DW.p rfl rfl rfl rfl rfl (fun _ hC => PV.pickT rfl rfl rfl) <| DW.p rfl rfl rfl rfl rfl (fun _ hC => PV.mv rfl) <| DW.no rfl rfl rfl <| DW.no rfl rfl rfl <| DW.no rfl rfl rfl <| DW.no rfl rfl rfl <| DW.nil ?_
   rintro w4 ⟨hsz4, st4⟩ _
   refine WL.no rfl rfl <| WL.p rfl rfl (PV.pickT rfl rfl rfl) <| WL.nil ?_
   exact EX.meet1 18 rfl rfl rfl (by first | rfl | (simp only [g17]; done) | (simp only [g17]; rfl) | (simp [g17]; done) | (simp; done) | (simp at g17 ⊢ <;> omega) | (simp <;> omega) | (simp [g17] <;> omega) | (simp at g17 <;> omega)) (st4)
  ·
   skip
   refine DW.p rfl rfl rfl rfl rfl (fun _ hC => PV.mv rfl) <| DW.p rfl rfl rfl rfl rfl (fun _ hC => PV.lss rfl rfl) <| DW.p rfl rfl rfl rfl rfl (fun _ hC => PV.pickF rfl rfl rfl) <| DW.p rfl rfl rfl rfl rfl (fun _ hC => PV.mv rfl) <| ?_
   refine DW.gsplit (t := 21) rfl (fun g21 => ?_) (fun g21 => ?_)
   ·
    skip
    refine DW.no rfl rfl rfl <| DW.no rfl rfl rfl <| DW.p rfl rfl rfl rfl rfl (fun _ hC => PV.pickT rfl rfl rfl) <| DW.p rfl rfl rfl rfl rfl (fun _ hC => PV.mv rfl) <| DW.no rfl rfl rfl <| DW.no rfl rfl rfl <| DW.no rfl rfl rfl <| DW.no rfl rfl rfl <| DW.nil ?_
    rintro w4 ⟨hsz4, st4⟩ _
    refine WL.no rfl rfl <| WL.p rfl rfl (PV.pickT rfl rfl rfl) <| WL.nil ?_
    exact EX.meet1 19 rfl rfl rfl (by first | rfl | (simp only [g17, g21]; done) | (simp only [g17, g21]; rfl) | (simp [g17, g21]; done) | (simp; done) | (simp at g17 g21 ⊢ <;> omega) | (simp <;> omega) | (simp [g17, g21] <;> omega) | (simp at g17 g21 <;> omega)) (st4)
   ·
    skip
    refine DW.p rfl rfl rfl rfl rfl (fun _ hC => PV.mv rfl) <| DW.p rfl rfl rfl rfl rfl (fun _ hC => PV.gtr rfl rfl) <| DW.p rfl rfl rfl rfl rfl (fun _ hC => PV.pickF rfl rfl rfl) <| DW.p rfl rfl rfl rfl rfl (fun _ hC => PV.mv rfl) <| ?_
    refine DW.gsplit (t := 25) rfl (fun g25 => ?_) (fun g25 => ?_)
    ·
     skip
     refine DW.no rfl rfl rfl <| DW.no rfl rfl rfl <| DW.no rfl rfl rfl <| DW.no rfl rfl rfl <| DW.nil ?_
     rintro w4 ⟨hsz4, st4⟩ _
     refine WL.no rfl rfl <| WL.p rfl rfl (PV.pickT rfl rfl rfl) <| WL.nil ?_
     exact EX.meet1 20 rfl rfl rfl (by first | rfl | (simp only [g17, g21, g25]; done) | (simp only [g17, g21, g25]; rfl) | (simp [g17, g21, g25]; done) | (simp; done) | (simp at g17 g21 g25 ⊢ <;> omega) | (simp <;> omega) | (simp [g17, g21, g25] <;> omega) | (simp at g17 g21 g25 <;> omega)) (st4)
    ·
     skip
     refine DW.p rfl rfl rfl rfl rfl (fun _ hC => PV.mv rfl) <| ?_
     refine DW.e rfl rfl rfl rfl rfl (fun wx hC hF => OX.call cf13 rfl rfl ((itoa_small (n := (n : Int)) (by omega) (by omega) wx).mono ?_)) ?_
     ·
      skip
      rintro _ wy ⟨rfl, hy⟩
      exact ⟨_, rfl, ⟨Nat.le_trans hC.1 hy.size, hC.2.step hy⟩, hy.p0, _, rfl, rfl⟩
     rintro _ wz _ rfl
     refine DW.p rfl rfl rfl rfl rfl (fun _ hC => PV.fa fa27_1 rfl) <| DW.p rfl rfl rfl rfl rfl (fun _ hC => PV.ld1 one9 (Blk.range (As.gb hC.2.g0)) rfl rfl) <| DW.nil ?_
     rintro w4 ⟨hsz4, st4⟩ ⟨_, _⟩
     refine WL.p rfl rfl (PV.nes rfl rfl) <| WL.p rfl rfl (PV.pickF rfl rfl rfl) <| WL.nil ?_
     exact EX.meet1 20 rfl rfl rfl (by first | rfl | (simp only [g17, g21, g25]; done) | (simp only [g17, g21, g25]; rfl) | (simp [g17, g21, g25]; done) | (simp; done) | (simp at g17 g21 g25 ⊢ <;> omega) | (simp <;> omega) | (simp [g17, g21, g25] <;> omega) | (simp at g17 g21 g25 <;> omega)) (st4)
 intro w4 st4
 refine EX.seqN ?_
 refine WC.cond rfl (fun g31 => ?_) (fun g31 => ?_)
 ·
  skip
  exact absurd g31 (by simp)
 ·
  skip
  refine WC.skip ?_
  refine EX.seqN ?_
  refine WC.seq ?_
  refine WC.region ?_
  refine WL.p rfl rfl (PV.mv rfl) <| WL.p rfl rfl (PV.as rfl) <| WL.nil ?_
  refine EX.seqN ?_
  refine WC.ret ?_
  refine EX.ret1 rfl rfl ?_
  exact ⟨rfl, (St.cg st4)⟩
 -- UNUSED ANNOTATIONS C8.T
theorem pvalidK_calls {k : Key} {n : Nat} {w : World} (hk : 30 ≤ k.kind ∧ k.kind ≤ 32) (ht : k.text = itoa n) (hn : n ≤ 99) : Calls Tryz.prog 92 #[k.val] w fun e w' => e = .returned (.bool true) ∧ Chg [] w w'  := by
 refine enter (args := [k.val]) Tryz.func92 rfl Tryz.ntmps92 rfl ?_
 have st0 : St w (fun _ => False) (fun _ => False) w [] := St.start (by simp)
 refine WC.seq ?_
 refine WC.region ?_
 refine WL.go rfl (OX.box rfl rfl rfl fun b1 w1 nw1 hb1 => ?_)
 have st1 := st0.newB nw1 hb1
 refine WL.p rfl rfl (PV.as rfl) <| WL.nil ?_
 refine EX.seqN ?_
 refine WC.seq ?_
 refine WC.seq ?_
 refine WC.region ?_
 refine WL.p rfl rfl (PV.fa fa27_0 rfl) <| WL.p rfl rfl (PV.ld1 one3 (Blk.range (As.gb st1.g0)) rfl rfl) <| ?_
 refine WL.go rfl (OX.call cf131 rfl rfl ((ptoy_calls (n := k.kind)).mono ?_))
 rintro _ w2 ⟨rfl, s2⟩
 refine ⟨_, rfl, ?_⟩
 rw [show (decide (30 ≤ k.kind) && decide (k.kind ≤ 32)) = true by (simp; omega)]
 have st2 := st1.step s2
 refine WL.nil ?_
 refine EX.seqN ?_
 refine WC.condT rfl ?_
 refine WC.seq ?_
 refine WC.region ?_
 refine WL.p rfl rfl (PV.ldA agg27 (Blk.range (As.gb st2.g0)) rfl rfl) <| ?_
 refine WL.go rfl (OX.call cf95 rfl rfl ((pnumber_calls (k := k) hk ht hn).mono ?_))
 rintro _ w3 ⟨rfl, s3⟩
 refine ⟨_, rfl, ?_⟩
 have st3 := st2.step s3
 refine WL.p rfl rfl (PV.geq rfl rfl) <| WL.p rfl rfl (PV.as rfl) <| WL.nil ?_
 refine EX.seqN ?_
 refine WC.ret ?_
 refine EX.thenR ?_
 refine EX.ret1 rfl rfl ?_
 exact ⟨by simp, (St.cg st3)⟩
theorem pof_calls {rules : List Rule} {A : Nat → Prop} {a : Option Addr} {r c : Nat} {n : Int} {w : World} (hr : Rules A w a r c rules) : Calls Tryz.prog 94 #[.slice a r c, .int .i64 n] w fun e w' => e = .returned (ofK rules n).val ∧ Chg [] w w'  := by
 have hle := hr.le
 have hlen := hr.len
 refine enter (args := [.slice a r c, .int .i64 n]) Tryz.func94 rfl Tryz.ntmps94 rfl ?_
 have st0 : St w (fun _ => False) (fun _ => False) w [] := St.start (by simp)
 refine WC.seq ?_
 refine WC.region ?_
 refine WL.go rfl (OX.alloc zv27 rfl fun b4 w1 nw4 hb4 => ?_)
 have st1 := st0.newB nw4 hb4
 refine WL.nil ?_
 refine EX.seqN ?_
 refine WC.seq ?_
 refine WC.seq ?_
 refine WC.cut1S (t := 17) (v := .bool (decide (n < 0) || (decide ((r : Int) ≤ n) || decide (99 < n)))) st1 ?_ ?_
 ·
  skip
  refine WC.region ?_
  refine WL.p rfl rfl (PV.mv rfl) <| WL.p rfl rfl (PV.lss rfl rfl) <| WL.p rfl rfl (PV.mv rfl) <| ?_
  refine WL.gsplit (t := 8) rfl (fun g8 => ?_) (fun g8 => ?_)
  ·
   skip
   refine WL.no rfl rfl <| WL.no rfl rfl <| WL.no rfl rfl <| WL.no rfl rfl <| WL.p rfl rfl (PV.pickT rfl rfl rfl) <| WL.p rfl rfl (PV.mv rfl) <| WL.no rfl rfl <| WL.no rfl rfl <| WL.p rfl rfl (PV.pickT rfl rfl rfl) <| WL.nil ?_
   exact EX.meet1 13 rfl rfl rfl (by simp only [g8]; first | rfl | simp) (st1)
  ·
   skip
   refine WL.p rfl rfl (PV.mv rfl) <| WL.p rfl rfl (PV.mv rfl) <| WL.p rfl rfl (PV.len' sl36 rfl) <| WL.p rfl rfl (PV.geq rfl rfl) <| WL.p rfl rfl (PV.pickF rfl rfl rfl) <| WL.p rfl rfl (PV.mv rfl) <| ?_
   refine WL.gsplit (t := 14) rfl (fun g14 => ?_) (fun g14 => ?_)
   ·
    skip
    refine WL.no rfl rfl <| WL.no rfl rfl <| WL.p rfl rfl (PV.pickT rfl rfl rfl) <| WL.nil ?_
    exact EX.meet1 14 rfl rfl rfl (by simp only [g8, g14]; first | rfl | simp) (st1)
   ·
    skip
    refine WL.p rfl rfl (PV.mv rfl) <| WL.p rfl rfl (PV.gtr rfl rfl) <| WL.p rfl rfl (PV.pickF rfl rfl rfl) <| WL.nil ?_
    exact EX.meet1 14 rfl rfl rfl (by simp only [g8, g14]; first | rfl | simp) (st1)
 intro w2 st2
 refine EX.seqN ?_
 refine WC.cond rfl (fun g17 => ?_) (fun g17 => ?_)
 ·
  skip
  have hk : ofK rules n = noKey := by unfold ofK; rw [if_pos (by simp at g17; omega)]
  refine WC.seq ?_
  refine WC.region ?_
  refine WL.p rfl rfl (PV.build' (us := [.int .i64 0, .string ⟨#[]⟩]) bt27 rfl rfl rfl) <| ?_
  refine WL.go rfl (OX.stW sz27 (As.gb st2.g0) rfl rfl rfl rfl rfl fun w3 ss0 _ hs0 => ?_)
  have st3 := st2.updB ss0 hs0
  refine WL.nil ?_
  refine EX.seqN ?_
  refine WC.ret ?_
  refine EX.thenR ?_
  refine EX.retC agg27 rfl rfl (Blk.range (As.gb st3.g0)) rfl ?_
  rw [hk]; exact ⟨rfl, (St.cg st3)⟩
 ·
  skip
  simp at g17
  obtain ⟨i, rfl⟩ : ∃ i : Nat, n = i := ⟨n.toNat, by omega⟩
  have hi : i < rules.length := by omega
  have hk : ofK rules i = ⟨if ringAt rules i then 32 else 31, itoa i⟩ := by unfold ofK; rw [if_neg (by omega)]; rfl
  have hri := ringAt_get hi
  refine WC.skip ?_
  refine EX.seqN ?_
  refine WC.seq ?_
  refine WC.region ?_
  refine WL.p rfl rfl (PV.as rfl) <| WL.nil ?_
  refine EX.seqN ?_
  refine WC.seq ?_
  refine WC.seq ?_
  obtain ⟨b_x, o_x, r_x, ha_x, _, ⟨q1, q2, q3, rfl, _⟩, hr_x, _⟩ := (hr.ext (St.cg st2)).at (getElem_some hi)
  refine WC.region ?_
  refine WL.p rfl rfl (PV.mv rfl) <| WL.p rfl rfl (PV.mv rfl) <| WL.p rfl rfl (PV.ixS sl36 ha_x rfl rfl (by omega)) <| WL.p rfl rfl (PV.fa fa35_0 rfl) <| WL.p rfl rfl (PV.ld1 (j := 0) one4 hr_x rfl rfl) <| WL.nil ?_
  refine EX.seqN ?_
  refine WC.cond rfl (fun g23 => ?_) (fun g23 => ?_)
  ·
   skip
   have hk2 : ofK rules i = ⟨32, itoa i⟩ := by rw [hk, hri, g23]; rfl
   refine WC.region ?_
   refine WL.p rfl rfl (PV.as rfl) <| WL.nil ?_
   refine EX.seqN ?_
   refine WC.seq ?_
   refine WC.region ?_
   refine WL.p rfl rfl (PV.mv rfl) <| WL.p rfl rfl (PV.mv rfl) <| ?_
   refine WL.go rfl (OX.call cf13 rfl rfl ((itoa_small (n := (i : Int)) (by omega) (by omega) w2).mono ?_))
   rintro _ w3 ⟨rfl, s3⟩
   refine ⟨_, rfl, ?_⟩
   have st3 := st2.step s3
   refine WL.p rfl rfl (PV.build' (us := _) bt27 rfl rfl rfl) <| ?_
   refine WL.go rfl (OX.stW sz27 (As.gb st3.g0) rfl rfl rfl rfl rfl fun w4 ss1 _ hs1 => ?_)
   have st4 := st3.updB ss1 hs1
   refine WL.nil ?_
   refine EX.seqN ?_
   refine WC.ret ?_
   refine EX.retC agg27 rfl rfl (Blk.range (As.gb st4.g0)) rfl ?_
   rw [hk2]; exact ⟨rfl, (St.cg st4)⟩
  ·
   skip
   have hk2 : ofK rules i = ⟨31, itoa i⟩ := by rw [hk, hri, g23]; rfl
   refine WC.skip ?_
   refine EX.seqN ?_
   refine WC.seq ?_
   refine WC.region ?_
   refine WL.p rfl rfl (PV.mv rfl) <| WL.p rfl rfl (PV.mv rfl) <| ?_
   refine WL.go rfl (OX.call cf13 rfl rfl ((itoa_small (n := (i : Int)) (by omega) (by omega) w2).mono ?_))
   rintro _ w3 ⟨rfl, s3⟩
   refine ⟨_, rfl, ?_⟩
   have st3 := st2.step s3
   refine WL.p rfl rfl (PV.build' (us := _) bt27 rfl rfl rfl) <| ?_
   refine WL.go rfl (OX.stW sz27 (As.gb st3.g0) rfl rfl rfl rfl rfl fun w4 ss2 _ hs2 => ?_)
   have st4 := st3.updB ss2 hs2
   refine WL.nil ?_
   refine EX.seqN ?_
   refine WC.ret ?_
   refine EX.retC agg27 rfl rfl (Blk.range (As.gb st4.g0)) rfl ?_
   rw [hk2]; exact ⟨rfl, (St.cg st4)⟩
theorem pfinal_calls {k : Int} {l : List Int} {A : Nat → Prop} {a : Option Addr} {r c : Nat} {w : World} (hl : Ints A w a r c l) (h0 : ∀ x ∈ l, 0 ≤ x ∧ x ≤ 65535) (hr : r ≤ 1000) (hk : k = 1) : Calls Tryz.prog 202 #[.int .i64 k, .slice a r c] w fun e w' => e = .returned (.int .i64 (l.sum % 1000)) ∧ Chg [] w w'  := by
 have hle := SR.le hl
 have hlen := SR.len hl
 have hsum : ∀ i, 0 ≤ (l.take i).sum ∧ (l.take i).sum ≤ 65535 * (l.take i).length := by
  intro i
  have : ∀ l : List Int, (∀ x ∈ l, 0 ≤ x ∧ x ≤ 65535) → 0 ≤ l.sum ∧ l.sum ≤ 65535 * l.length := by
   intro l
   induction l with
   | nil => simp
   | cons y t ih => intro h; have h1 := ih (fun x hx => h x (by simp [hx])); have h2 := h y (by simp); simp only [List.sum_cons, List.length_cons]; omega
  exact this _ (fun x hx => h0 x (List.mem_of_mem_take hx))
 refine enter (args := [.int .i64 k, .slice a r c]) Tryz.func202 rfl Tryz.ntmps202 rfl ?_
 have st0 : St w (fun _ => False) (fun _ => False) w [] := St.start (by simp)
 refine WC.seq ?_
 refine WC.region ?_
 refine WL.p rfl rfl (PV.as rfl) <| WL.nil ?_
 refine EX.seqN ?_
 refine WC.seq ?_
 refine WC.region ?_
 refine WL.p rfl rfl (PV.as rfl) <| WL.p rfl rfl (PV.as rfl) <| WL.p rfl rfl (PV.as rfl) <| WL.nil ?_
 refine EX.seqN ?_
 refine WC.seq ?_
 refine WC.seq ?_
 refine WC.region ?_
 refine WL.p rfl rfl (PV.mv rfl) <| WL.p rfl rfl (PV.len' sl48 rfl) <| WL.p rfl rfl (PV.mv rfl) <| WL.nil ?_
 refine EX.seqN ?_
 refine WC.block ?_
 refine WC.loopS1 (σ := Nat × Nat × Nat) (kvs := fun (i, m, bb) => [(0, .int .i64 k), (5, .int .i64 (l.take i).sum), (6, .int .i64 (m : Int)), (7, .int .i64 (bb : Int)), (10, .slice a r c), (11, .int .i64 (r : Int)), (12, .int .i64 (i : Int))]) (F := fun (i, m, bb) => []) (I := fun (i, m, bb) => (i ≤ r) ∧ (m ≤ 65535) ∧ (bb < 65536) ∧ True) (μ := fun (i, m, bb) => r - i) (0, 0, 0) (st0) (Sub.cons rfl <| Sub.consV rfl (by first | rfl | (simp; done) | (congr 1; omega) | (simp only []; congr 1; omega)) <| Sub.consV rfl (by first | rfl | (simp; done) | (congr 1; omega) | (simp only []; congr 1; omega)) <| Sub.consV rfl (by first | rfl | (simp; done) | (congr 1; omega) | (simp only []; congr 1; omega)) <| Sub.cons rfl <| Sub.cons rfl <| Sub.consV rfl (by first | rfl | (simp; done) | (congr 1; omega) | (simp only []; congr 1; omega)) <| Sub.nil) (⟨by omega, by omega, by omega, trivial⟩) ?_
 rintro ⟨i, m, bb⟩ w1 st1 ⟨hi, hm, hb, _⟩
 simp only [List.cons_append, List.nil_append] at st1 hi hm hb ⊢
 refine WC.seq ?_
 refine WC.region ?_
 refine WL.p rfl rfl (PV.lss rfl rfl) <| WL.nil ?_
 refine EX.seqN ?_
 refine WC.seq ?_
 refine WC.cond rfl (fun g13 => ?_) (fun g13 => ?_)
 ·
  skip
  simp at g13
  have hi2 : i < l.length := by omega
  obtain ⟨u, hu⟩ : ∃ u : Nat, l[i] = u := ⟨l[i].toNat, by have := h0 l[i] (List.getElem_mem hi2); omega⟩
  have hu5 : u ≤ 65535 := by have := h0 l[i] (List.getElem_mem hi2); omega
  have hs1 := hsum i
  have hlt : (l.take i).length ≤ 1000 := by rw [List.length_take]; omega
  have hst : (l.take (i + 1)).sum = (l.take i).sum + u := by rw [List.take_succ_eq_append_getElem hi2, List.sum_append, hu]; simp
  refine WC.skip ?_
  refine EX.seqN ?_
  refine WC.seq ?_
  refine WC.block ?_
  refine WC.seq ?_
  obtain ⟨b_x, o_x, r_x, ha_x, _, rfl, hr_x, _⟩ := (SR.ext hl (St.cg st1)).at (getElem_some hi2)
  rw [hu] at hr_x
  refine WC.region ?_
  refine WL.p rfl rfl (PV.ixS sl48 ha_x rfl rfl (by omega)) <| WL.p rfl rfl (PV.ld0 one3 hr_x rfl rfl) <| WL.p rfl rfl (PV.as rfl) <| WL.nil ?_
  refine EX.seqN ?_
  refine WC.region ?_
  refine WL.p rfl rfl (PV.mv rfl) <| WL.p rfl rfl (PV.mv rfl) <| WL.p rfl rfl (PV.add rfl rfl (by omega) (by omega)) <| WL.p rfl rfl (PV.mv rfl) <| WL.p rfl rfl (PV.mv rfl) <| WL.p rfl rfl (PV.maxI rfl rfl) <| WL.p rfl rfl (PV.mv rfl) <| WL.p rfl rfl (PV.mv rfl) <| WL.p rfl rfl (PV.orN rfl rfl (by omega) (by omega)) <| WL.p rfl rfl (PV.as rfl) <| WL.p rfl rfl (PV.as rfl) <| WL.p rfl rfl (PV.as rfl) <| WL.nil ?_
  refine EX.blkN ?_
  refine EX.seqN ?_
  refine WC.region ?_
  refine WL.p rfl rfl (PV.add rfl rfl (by omega) (by omega)) <| WL.p rfl rfl (PV.mv rfl) <| WL.nil ?_
  refine EX.again (i + 1, max m u, bb ||| u) (Sub.cons rfl <| Sub.consV rfl (by first | rfl | (simp; done) | (congr 1; omega) | (simp only []; congr 1; omega)) <| Sub.consV rfl (by first | rfl | (simp; done) | (congr 1; omega) | (simp only []; congr 1; omega)) <| Sub.consV rfl (by first | rfl | (simp; done) | (congr 1; omega) | (simp only []; congr 1; omega)) <| Sub.cons rfl <| Sub.cons rfl <| Sub.consV rfl (by first | rfl | (simp; done) | (congr 1; omega) | (simp only []; congr 1; omega)) <| Sub.nil) ⟨st1, ⟨by omega, by show max m u ≤ 65535; omega, by show bb ||| u < 2 ^ 16; exact Nat.or_lt_two_pow hb (by omega), trivial⟩⟩ (by first | (simp only []; omega) | omega)
 ·
  skip
  simp at g13
  have hall : l.take i = l := List.take_of_length_le (by omega)
  rw [hall]
  have hs1 := hsum i
  rw [hall] at hs1
  subst hk
  refine WC.exit ?_
  refine EX.thenX ?_
  refine EX.thenX ?_
  refine EX.blkX ?_
  refine EX.seqN ?_
  refine WC.seq ?_
  refine WC.seq ?_
  refine WC.region ?_
  refine WL.p rfl rfl (PV.mv rfl) <| WL.nil ?_
  refine EX.seqN ?_
  refine WC.block ?_
  refine WC.seq ?_
  refine WC.region ?_
  refine WL.p rfl rfl (PV.eqi rfl rfl) <| WL.p rfl rfl (PV.as rfl) <| WL.nil ?_
  refine EX.seqN ?_
  refine WC.cond rfl (fun g27 => ?_) (fun g27 => ?_)
  ·
   skip
   refine WC.seq ?_
   refine WC.region ?_
   refine WL.p rfl rfl (PV.mv rfl) <| WL.p rfl rfl (PV.rem rfl rfl (by omega)) <| WL.p rfl rfl (PV.as rfl) <| WL.nil ?_
   refine EX.seqN ?_
   refine WC.ret ?_
   refine EX.blkR ?_
   refine EX.thenR ?_
   refine EX.ret1 rfl rfl ?_
   exact ⟨by rw [Int.tmod_eq_emod_of_nonneg (by omega)], (St.cg st1)⟩
  ·
   skip
   exact absurd g27 (by first | (simp; done) | (simp; omega) | (simp_all; done) | (simp_all; omega))
theorem ptoyValid_calls {rules : List Rule} {A : Nat → Prop} {a : Option Addr} {r c : Nat} {w : World} (hr : Rules A w a r c rules) (hs : ∀ x ∈ rules, SimR x) (h24 : rules.length ≤ 24) : Calls Tryz.prog 44 #[.slice a r c] w fun e w' => e = .returned (.bool true) ∧ Chg [] w w'  := by
 have hle := hr.le
 have hlen := hr.len
 refine enter (args := [.slice a r c]) Tryz.func44 rfl Tryz.ntmps44 rfl ?_
 have st0 : St w (fun _ => False) (fun _ => False) w [] := St.start (by simp)
 refine WC.seq ?_
 refine WC.region ?_
 refine WL.p rfl rfl (PV.as rfl) <| WL.nil ?_
 refine EX.seqN ?_
 refine WC.seq ?_
 refine WC.seq ?_
 refine WC.region ?_
 refine WL.p rfl rfl (PV.mv rfl) <| WL.p rfl rfl (PV.len' sl36 rfl) <| WL.p rfl rfl (PV.gtr rfl rfl) <| WL.nil ?_
 refine EX.seqN ?_
 refine WC.cond rfl (fun g12 => ?_) (fun g12 => ?_)
 ·
  skip
  exact absurd g12 (by first | (simp; done) | (simp; omega) | (simp_all; done) | (simp_all; omega))
 ·
  skip
  refine WC.skip ?_
  refine EX.seqN ?_
  refine WC.seq ?_
  refine WC.seq ?_
  refine WC.region ?_
  refine WL.p rfl rfl (PV.mv rfl) <| WL.p rfl rfl (PV.len' sl36 rfl) <| WL.p rfl rfl (PV.mv rfl) <| WL.nil ?_
  refine EX.seqN ?_
  refine WC.block ?_
  refine WC.loopS1 (σ := Nat) (kvs := fun i => [(0, .slice a r c), (13, .slice a r c), (14, .int .i64 (r : Int)), (15, .int .i64 (i : Int))]) (F := fun i => []) (I := fun i => (i ≤ r) ∧ True) (μ := fun i => r - i) (0) (st0) (Sub.cons rfl <| Sub.cons rfl <| Sub.cons rfl <| Sub.consV rfl (by first | rfl | (simp; done) | (congr 1; omega) | (simp only []; congr 1; omega)) <| Sub.nil) (⟨by omega, trivial⟩) ?_
  rintro i w1 st1 ⟨hi, _⟩
  simp only [List.cons_append, List.nil_append] at st1 hi ⊢
  refine WC.seq ?_
  refine WC.region ?_
  refine WL.p rfl rfl (PV.lss rfl rfl) <| WL.nil ?_
  refine EX.seqN ?_
  refine WC.seq ?_
  refine WC.cond rfl (fun g16 => ?_) (fun g16 => ?_)
  ·
   skip
   simp at g16
   have hi2 : i < rules.length := by omega
   obtain ⟨s1, s2, s3, s4, s5⟩ := hs rules[i] (List.getElem_mem hi2)
   obtain ⟨b_x, o_x, r_x, ha_x, _, ⟨q1, q2, q3, rfl, hasks⟩, hr_x, _⟩ := (hr.ext (St.cg st1)).at (getElem_some hi2)
   have hal := hasks.len
   have hq : q2 = 0 := by rw [hal, s2]; rfl
   rw [s1, s3] at hr_x
   refine WC.skip ?_
   refine EX.seqN ?_
   refine WC.seq ?_
   refine WC.block ?_
   refine WC.seq ?_
   refine WC.region ?_
   refine WL.p rfl rfl (PV.mv rfl) <| WL.p rfl rfl (PV.ixS sl36 ha_x rfl rfl (by omega)) <| WL.p rfl rfl (PV.ldA agg35 hr_x rfl rfl) <| ?_
   refine WL.go rfl (OX.alloc zv35 rfl fun b4 w2 nw4 hb4 => ?_)
   have st2 := st1.newB nw4 hb4
   refine WL.p rfl rfl (PV.as rfl) <| ?_
   refine WL.go rfl (OX.stW sz35 (As.gb st2.g0) rfl rfl rfl rfl rfl fun w3 ss0 _ hs0 => ?_)
   have st3 := st2.updB ss0 hs0
   refine WL.nil ?_
   refine EX.seqN ?_
   refine WC.seq ?_
   refine WC.region ?_
   refine WL.p rfl rfl (PV.as rfl) <| WL.p rfl rfl (PV.as rfl) <| WL.p rfl rfl (PV.as rfl) <| WL.nil ?_
   refine EX.seqN ?_
   refine WC.seq ?_
   refine WC.seq ?_
   refine WC.region ?_
   refine WL.p rfl rfl (PV.fa fa35_0 rfl) <| WL.p rfl rfl (PV.ld1 one4 (Blk.range (As.gb st3.g0)) rfl rfl) <| WL.nil ?_
   refine EX.seqN ?_
   refine WC.cond rfl (fun g21 => ?_) (fun g21 => ?_)
   ·
    skip
    exact absurd g21 (by first | (simp; done) | (simp; omega) | (simp_all; done) | (simp_all; omega))
   ·
    skip
    refine WC.skip ?_
    refine EX.seqN ?_
    refine WC.seq ?_
    refine WC.seq ?_
    refine WC.cut1S (t := 48) (v := .bool false) st3 ?_ ?_
    ·
     skip
     refine WC.region ?_
     refine WL.p rfl rfl (PV.fa fa35_1 rfl) <| WL.p rfl rfl (PV.ld1 one33 (Blk.range (As.gb st3.g0)) rfl rfl) <| WL.p rfl rfl (PV.len' sl33 rfl) <| WL.p rfl rfl (PV.gtr rfl rfl) <| WL.p rfl rfl (PV.mv rfl) <| ?_
     refine WL.gsplit (t := 26) rfl (fun g26 => ?_) (fun g26 => ?_)
     ·
      skip
      refine WL.no rfl rfl <| WL.no rfl rfl <| WL.no rfl rfl <| WL.no rfl rfl <| WL.p rfl rfl (PV.pickT rfl rfl rfl) <| WL.p rfl rfl (PV.mv rfl) <| WL.no rfl rfl <| WL.no rfl rfl <| WL.no rfl rfl <| WL.no rfl rfl <| WL.p rfl rfl (PV.pickT rfl rfl rfl) <| WL.p rfl rfl (PV.mv rfl) <| WL.no rfl rfl <| WL.no rfl rfl <| WL.no rfl rfl <| WL.p rfl rfl (PV.pickT rfl rfl rfl) <| WL.p rfl rfl (PV.mv rfl) <| WL.no rfl rfl <| WL.no rfl rfl <| WL.no rfl rfl <| WL.no rfl rfl <| WL.p rfl rfl (PV.pickT rfl rfl rfl) <| WL.nil ?_
      exact EX.meet1 28 rfl rfl rfl (by first | rfl | (simp only [g26]; done) | (simp only [g26]; rfl) | (simp [g26]; done) | (simp; done) | (simp at g26 ⊢ <;> omega) | (simp <;> omega) | (simp [g26] <;> omega) | (simp at g26 <;> omega)) (st3)
     ·
      skip
      refine WL.p rfl rfl (PV.fa fa35_2 rfl) <| WL.p rfl rfl (PV.ld1 one3 (Blk.range (As.gb st3.g0)) rfl rfl) <| WL.p rfl rfl (PV.mv rfl) <| WL.p rfl rfl (PV.lss rfl rfl) <| WL.p rfl rfl (PV.pickF rfl rfl rfl) <| WL.p rfl rfl (PV.mv rfl) <| ?_
      refine WL.gsplit (t := 32) rfl (fun g32 => ?_) (fun g32 => ?_)
      ·
       skip
       refine WL.no rfl rfl <| WL.no rfl rfl <| WL.no rfl rfl <| WL.no rfl rfl <| WL.p rfl rfl (PV.pickT rfl rfl rfl) <| WL.p rfl rfl (PV.mv rfl) <| WL.no rfl rfl <| WL.no rfl rfl <| WL.no rfl rfl <| WL.p rfl rfl (PV.pickT rfl rfl rfl) <| WL.p rfl rfl (PV.mv rfl) <| WL.no rfl rfl <| WL.no rfl rfl <| WL.no rfl rfl <| WL.no rfl rfl <| WL.p rfl rfl (PV.pickT rfl rfl rfl) <| WL.nil ?_
       exact EX.meet1 29 rfl rfl rfl (by first | rfl | (simp only [g26, g32]; done) | (simp only [g26, g32]; rfl) | (simp [g26, g32]; done) | (simp; done) | (simp at g26 g32 ⊢ <;> omega) | (simp <;> omega) | (simp [g26, g32] <;> omega) | (simp at g26 g32 <;> omega)) (st3)
      ·
       skip
       refine WL.p rfl rfl (PV.fa fa35_2 rfl) <| WL.p rfl rfl (PV.ld1 one3 (Blk.range (As.gb st3.g0)) rfl rfl) <| WL.p rfl rfl (PV.mv rfl) <| WL.p rfl rfl (PV.gtr rfl rfl) <| WL.p rfl rfl (PV.pickF rfl rfl rfl) <| WL.p rfl rfl (PV.mv rfl) <| ?_
       refine WL.gsplit (t := 38) rfl (fun g38 => ?_) (fun g38 => ?_)
       ·
        skip
        refine WL.no rfl rfl <| WL.no rfl rfl <| WL.no rfl rfl <| WL.p rfl rfl (PV.pickT rfl rfl rfl) <| WL.p rfl rfl (PV.mv rfl) <| WL.no rfl rfl <| WL.no rfl rfl <| WL.no rfl rfl <| WL.no rfl rfl <| WL.p rfl rfl (PV.pickT rfl rfl rfl) <| WL.nil ?_
        exact EX.meet1 30 rfl rfl rfl (by first | rfl | (simp only [g26, g32, g38]; done) | (simp only [g26, g32, g38]; rfl) | (simp [g26, g32, g38]; done) | (simp; done) | (simp at g26 g32 g38 ⊢ <;> omega) | (simp <;> omega) | (simp [g26, g32, g38] <;> omega) | (simp at g26 g32 g38 <;> omega)) (st3)
       ·
        skip
        refine WL.p rfl rfl (PV.fa fa35_3 rfl) <| WL.p rfl rfl (PV.ld1 one3 (Blk.range (As.gb st3.g0)) rfl rfl) <| WL.p rfl rfl (PV.lss rfl rfl) <| WL.p rfl rfl (PV.pickF rfl rfl rfl) <| WL.p rfl rfl (PV.mv rfl) <| ?_
        refine WL.gsplit (t := 43) rfl (fun g43 => ?_) (fun g43 => ?_)
        ·
         skip
         refine WL.no rfl rfl <| WL.no rfl rfl <| WL.no rfl rfl <| WL.no rfl rfl <| WL.p rfl rfl (PV.pickT rfl rfl rfl) <| WL.nil ?_
         exact EX.meet1 31 rfl rfl rfl (by first | rfl | (simp only [g26, g32, g38, g43]; done) | (simp only [g26, g32, g38, g43]; rfl) | (simp [g26, g32, g38, g43]; done) | (simp; done) | (simp at g26 g32 g38 g43 ⊢ <;> omega) | (simp <;> omega) | (simp [g26, g32, g38, g43] <;> omega) | (simp at g26 g32 g38 g43 <;> omega)) (st3)
        ·
         skip
         refine WL.p rfl rfl (PV.fa fa35_3 rfl) <| WL.p rfl rfl (PV.ld1 one3 (Blk.range (As.gb st3.g0)) rfl rfl) <| WL.p rfl rfl (PV.mv rfl) <| WL.p rfl rfl (PV.gtr rfl rfl) <| WL.p rfl rfl (PV.pickF rfl rfl rfl) <| WL.nil ?_
         exact EX.meet1 31 rfl rfl rfl (by first | rfl | (simp only [g26, g32, g38, g43]; done) | (simp only [g26, g32, g38, g43]; rfl) | (simp [g26, g32, g38, g43]; done) | (simp; done) | (simp at g26 g32 g38 g43 ⊢ <;> omega) | (simp <;> omega) | (simp [g26, g32, g38, g43] <;> omega) | (simp at g26 g32 g38 g43 <;> omega)) (st3)
    intro w4 st4
    refine EX.seqN ?_
    refine WC.cond rfl (fun g48 => ?_) (fun g48 => ?_)
    ·
     skip
     exact absurd g48 (by first | (simp; done) | (simp; omega) | (simp_all; done) | (simp_all; omega))
    ·
     skip
     refine WC.skip ?_
     refine EX.seqN ?_
     refine WC.seq ?_
     refine WC.region ?_
     refine WL.p rfl rfl (PV.fa fa35_1 rfl) <| WL.p rfl rfl (PV.ld1 one33 (Blk.range (As.gb st4.g0)) rfl rfl) <| WL.p rfl rfl (PV.len' sl33 rfl) <| WL.p rfl rfl (PV.mv rfl) <| WL.nil ?_
     refine EX.seqN ?_
     refine WC.block ?_
     refine WC.loopS1 (σ := Nat) (kvs := fun k => [(0, .slice a r c), (3, .int .i64 (i : Int)), (13, .slice a r c), (14, .int .i64 (r : Int)), (15, .int .i64 (i : Int)), (50, .slice q1 q2 q3), (51, .int .i64 (q2 : Int)), (52, .int .i64 (k : Int))]) (F := fun k => []) (I := fun k => True) (μ := fun k => 0) (0) (st4) (Sub.cons rfl <| Sub.cons rfl <| Sub.cons rfl <| Sub.cons rfl <| Sub.cons rfl <| Sub.consV rfl (by first | rfl | (simp; done) | (congr 1; omega) | (simp only []; congr 1; omega)) <| Sub.consV rfl (by first | rfl | (simp; done) | (congr 1; omega) | (simp only []; congr 1; omega)) <| Sub.consV rfl (by first | rfl | (simp; done) | (congr 1; omega) | (simp only []; congr 1; omega)) <| Sub.nil) (trivial) ?_
     rintro k w5 st5 _
     simp only [List.cons_append, List.nil_append] at st5 ⊢
     refine WC.seq ?_
     refine WC.region ?_
     refine WL.p rfl rfl (PV.lss rfl rfl) <| WL.nil ?_
     refine EX.seqN ?_
     refine WC.seq ?_
     refine WC.cond rfl (fun g53 => ?_) (fun g53 => ?_)
     ·
      skip
      exact absurd g53 (by first | (simp; done) | (simp; omega) | (simp_all; done) | (simp_all; omega))
     ·
      skip
      refine WC.exit ?_
      refine EX.thenX ?_
      refine EX.thenX ?_
      refine EX.blkX ?_
      refine EX.blkN ?_
      refine EX.seqN ?_
      refine WC.region ?_
      refine WL.p rfl rfl (PV.add rfl rfl (by omega) (by omega)) <| WL.p rfl rfl (PV.mv rfl) <| WL.nil ?_
      refine EX.again (i + 1) (Sub.cons rfl <| Sub.cons rfl <| Sub.cons rfl <| Sub.consV rfl (by first | rfl | (simp; done) | (congr 1; omega) | (simp only []; congr 1; omega)) <| Sub.nil) ⟨st5.drop, ⟨by omega, trivial⟩⟩ (by first | (simp only []; omega) | omega)
  ·
   skip
   refine WC.exit ?_
   refine EX.thenX ?_
   refine EX.thenX ?_
   refine EX.blkX ?_
   refine EX.seqN ?_
   refine WC.seq ?_
   refine WC.region ?_
   refine WL.p rfl rfl (PV.as rfl) <| WL.nil ?_
   refine EX.seqN ?_
   refine WC.ret ?_
   refine EX.ret1 rfl rfl ?_
   exact ⟨rfl, (St.cg st1)⟩
theorem ptoyTurn_calls {rules : List Rule} {i : Nat} {A : Nat → Prop} {a : Option Addr} {r c : Nat} {w : World} (hi : i < rules.length) (h99 : i ≤ 99) (hs : SimR rules[i]) (hr : Rules A w a r c rules) : Calls Tryz.prog 158 #[.slice a r c, (⟨31, itoa i⟩ : Key).val, .slice none 0 0] w fun e w' => e = .returned (⟨true, itoa rules[i].c, noKey⟩ : Turn).val ∧ Chg [] w w'  := by
 have hle := hr.le
 have hlen := hr.len
 have hk := hs.key hi h99
 obtain ⟨s1, s2, s3, s4, s5⟩ := hs
 obtain ⟨b_x, o_x, r_x, ha_x, _, ⟨q1, q2, q3, rfl, hasks⟩, hr_x, _⟩ := hr.at (getElem_some hi)
 have hq : q2 = 0 := by rw [hasks.len, s2]; rfl
 subst hq
 rw [s1, s3] at hr_x
 refine enter (args := [.slice a r c, (⟨31, itoa i⟩ : Key).val, .slice none 0 0]) Tryz.func158 rfl Tryz.ntmps158 rfl ?_
 have st0 : St w (fun _ => False) (fun _ => False) w [] := St.start (by simp)
 refine WC.seq ?_
 refine WC.region ?_
 refine WL.go rfl (OX.box rfl rfl rfl fun b4 w1 nw4 hb4 => ?_)
 have st1 := st0.newB nw4 hb4
 refine WL.go rfl (OX.alloc zv127 rfl fun b6 w2 nw6 hb6 => ?_)
 have st2 := st1.newB nw6 hb6
 refine WL.nil ?_
 refine EX.seqN ?_
 refine WC.seq ?_
 refine WC.region ?_
 refine WL.p rfl rfl (PV.ldA agg27 (Blk.range (As.gb st2.g1)) rfl rfl) <| ?_
 refine WL.go rfl (OX.call cf95 rfl rfl ((pnumber_calls (k := ⟨31, itoa i⟩) ⟨(by decide : (30 : Int) ≤ 31), (by decide : (31 : Int) ≤ 32)⟩ rfl h99).mono ?_))
 rintro _ w3 ⟨rfl, s3⟩
 refine ⟨_, rfl, ?_⟩
 have st3 := st2.step s3
 refine WL.p rfl rfl (PV.as rfl) <| WL.nil ?_
 refine EX.seqN ?_
 refine WC.seq ?_
 refine WC.seq ?_
 refine WC.cut1S (t := 30) (v := .bool false) st3 ?_ ?_
 ·
  skip
  have hN2 := st3.fplt
  refine WC.drawnS (m := 12) (E := lookE [(10, fun v _ => v = (ofK rules (i : Int)).val)]) st3 (lookE_st (⟨fun _ _ _ _ _ _ _ h => h, trivial⟩)) mixed (by kernel_rfl) ?_
  refine DW.p rfl rfl rfl rfl rfl (fun _ hC => PV.mv rfl) <| DW.p rfl rfl rfl rfl rfl (fun _ hC => PV.lss rfl rfl) <| DW.p rfl rfl rfl rfl rfl (fun _ hC => PV.mv rfl) <| ?_
  refine DW.gsplit (t := 19) rfl (fun g19 => ?_) (fun g19 => ?_)
  ·
   skip
   refine DW.no rfl rfl rfl <| DW.no rfl rfl rfl <| DW.no rfl rfl rfl <| DW.p rfl rfl rfl rfl rfl (fun _ hC => PV.pickT rfl rfl rfl) <| DW.p rfl rfl rfl rfl rfl (fun _ hC => PV.mv rfl) <| DW.no rfl rfl rfl <| DW.no rfl rfl rfl <| DW.no rfl rfl rfl <| DW.no rfl rfl rfl <| DW.nil ?_
   rintro w4 ⟨hsz2, st4⟩ _
   refine WL.no rfl rfl <| WL.p rfl rfl (PV.pickT rfl rfl rfl) <| WL.nil ?_
   exact EX.meet1 15 rfl rfl rfl (by first | rfl | (simp [g19, hk]; done) | (simp only [g19]; done) | (simp only [g19]; rfl) | (simp [g19]; done) | (simp; done) | (simp at g19 ⊢ <;> omega) | (simp <;> omega) | (simp [g19] <;> omega) | (simp at g19 <;> omega)) (st4)
  ·
   skip
   refine DW.p rfl rfl rfl rfl rfl (fun _ hC => PV.fa fa27_0 rfl) <| DW.p rfl rfl rfl rfl rfl (fun _ hC => PV.ld1 one3 (Blk.range (As.gb hC.2.g1)) rfl rfl) <| DW.p rfl rfl rfl rfl rfl (fun _ hC => PV.eqi rfl rfl) <| DW.p rfl rfl rfl rfl rfl (fun _ hC => PV.pickF rfl rfl rfl) <| DW.p rfl rfl rfl rfl rfl (fun _ hC => PV.mv rfl) <| ?_
   refine DW.gsplit (t := 24) rfl (fun g24 => ?_) (fun g24 => ?_)
   ·
    skip
    refine DW.no rfl rfl rfl <| DW.no rfl rfl rfl <| DW.no rfl rfl rfl <| DW.no rfl rfl rfl <| DW.nil ?_
    rintro w4 ⟨hsz2, st4⟩ _
    refine WL.no rfl rfl <| WL.p rfl rfl (PV.pickT rfl rfl rfl) <| WL.nil ?_
    exact EX.meet1 16 rfl rfl rfl (by first | rfl | (simp [g19, g24, hk]; done) | (simp only [g19, g24]; done) | (simp only [g19, g24]; rfl) | (simp [g19, g24]; done) | (simp; done) | (simp at g19 g24 ⊢ <;> omega) | (simp <;> omega) | (simp [g19, g24] <;> omega) | (simp at g19 g24 <;> omega)) (st4)
   ·
    skip
    refine DW.p rfl rfl rfl rfl rfl (fun _ hC => PV.mv rfl) <| DW.p rfl rfl rfl rfl rfl (fun _ hC => PV.mv rfl) <| ?_
    refine DW.e rfl rfl rfl rfl rfl (fun wx hC hF => OX.call cf94 rfl rfl ((pof_calls (n := (i : Int)) (hr.ext (St.cg hC.2))).mono ?_)) ?_
    ·
     skip
     rintro _ wy ⟨rfl, hy⟩
     exact ⟨_, rfl, ⟨Nat.le_trans hC.1 hy.size, hC.2.step hy⟩, hy.p0, _, rfl, rfl⟩
    rintro _ wz _ rfl
    refine DW.p rfl rfl rfl rfl rfl (fun _ hC => PV.ldA agg27 (Blk.range (As.gb hC.2.g1)) rfl rfl) <| DW.nil ?_
    rintro w4 ⟨hsz2, st4⟩ ⟨_, _⟩
    refine WL.p rfl rfl (PV.neK keyt27 (p := ofK rules (i : Int)) (q := ⟨31, itoa i⟩) rfl rfl) <| WL.p rfl rfl (PV.pickF rfl rfl rfl) <| WL.nil ?_
    exact EX.meet1 16 rfl rfl rfl (by first | rfl | (simp [g19, g24, hk]; done) | (simp only [g19, g24]; done) | (simp only [g19, g24]; rfl) | (simp [g19, g24]; done) | (simp; done) | (simp at g19 g24 ⊢ <;> omega) | (simp <;> omega) | (simp [g19, g24] <;> omega) | (simp at g19 g24 <;> omega)) (st4)
 intro w4 st4
 refine EX.seqN ?_
 refine WC.cond rfl (fun g30 => ?_) (fun g30 => ?_)
 ·
  skip
  exact absurd g30 (by first | (simp; done) | (simp; omega) | (simp_all; done) | (simp_all; omega))
 ·
  skip
  refine WC.skip ?_
  refine EX.seqN ?_
  refine WC.seq ?_
  refine WC.region ?_
  refine WL.p rfl rfl (PV.mv rfl) <| WL.p rfl rfl (PV.mv rfl) <| WL.p rfl rfl (PV.ixZ sl36 (i := i) ha_x rfl rfl (by omega) (by omega)) <| WL.p rfl rfl (PV.ldA agg35 (range_chg hr_x (St.cg st4) (by simp)) rfl rfl) <| ?_
  refine WL.go rfl (OX.alloc zv35 rfl fun b8 w5 nw8 hb8 => ?_)
  have st5 := st4.newB nw8 hb8
  refine WL.go rfl (OX.stW sz35 (As.gb st5.g0) rfl rfl rfl rfl rfl fun w6 ss0 _ hs0 => ?_)
  have st6 := st5.updB ss0 hs0
  refine WL.nil ?_
  refine EX.seqN ?_
  refine WC.seq ?_
  refine WC.seq ?_
  refine WC.region ?_
  refine WL.p rfl rfl (PV.mv rfl) <| WL.p rfl rfl (PV.len' sl125 rfl) <| WL.p rfl rfl (PV.as rfl) <| WL.nil ?_
  refine EX.seqN ?_
  refine WC.seq ?_
  refine WC.region ?_
  refine WL.p rfl rfl (PV.mv rfl) <| WL.p rfl rfl (PV.fa fa35_1 rfl) <| WL.p rfl rfl (PV.ld1 one33 (Blk.range (As.gb st6.g0)) rfl rfl) <| WL.p rfl rfl (PV.len' sl33 rfl) <| WL.p rfl rfl (PV.lss rfl rfl) <| WL.nil ?_
  refine EX.seqN ?_
  refine WC.cond rfl (fun g42 => ?_) (fun g42 => ?_)
  ·
   skip
   exact absurd g42 (by first | (simp; done) | (simp; omega) | (simp_all; done) | (simp_all; omega))
  ·
   skip
   refine WC.skip ?_
   refine EX.seqN ?_
   refine WC.seq ?_
   refine WC.region ?_
   refine WL.p rfl rfl (PV.fa fa35_3 rfl) <| WL.p rfl rfl (PV.ld1 one3 (Blk.range (As.gb st6.g0)) rfl rfl) <| ?_
   refine WL.go rfl (OX.bslice' (us := [.int .i64 rules[i].c]) bs48_1 rfl rfl rfl rfl fun b79 w7 nw79 hb79 => ?_)
   have st7 := st6.newB nw79 hb79
   refine WL.p rfl rfl (PV.as rfl) <| WL.nil ?_
   refine EX.seqN ?_
   refine WC.seq ?_
   refine WC.seq ?_
   refine WC.region ?_
   refine WL.p rfl rfl (PV.mv rfl) <| WL.p rfl rfl (PV.fa fa35_1 rfl) <| WL.p rfl rfl (PV.ld1 one33 (Blk.range (As.gb st7.g1)) rfl rfl) <| WL.p rfl rfl (PV.len' sl33 rfl) <| WL.p rfl rfl (PV.sliceH sl125 (SR.nil (fun _ => True) w7 1 (fun (s : ByteArray) r => r = [.string s])) rfl rfl (by omega)) <| WL.p rfl rfl (PV.len' sl125 rfl) <| WL.p rfl rfl (PV.mv rfl) <| WL.nil ?_
   refine EX.seqN ?_
   refine WC.block ?_
   refine WC.loopS1 (σ := Nat) (kvs := fun k => [(6, .pointer (some ⟨b6, 0, none⟩)), (8, .pointer (some ⟨b8, 0, none⟩)), (12, .slice (some ⟨b79, 0, none⟩) 1 1), (84, .slice none 0 0), (85, .int .i64 ((0 : Nat) : Int)), (86, .int .i64 (k : Int))]) (F := fun k => []) (I := fun k => True) (μ := fun k => 0) (0) (st7) (Sub.cons rfl <| Sub.cons rfl <| Sub.consV rfl (by first | rfl | (simp; done) | (congr 1; omega) | (simp only []; congr 1; omega)) <| Sub.consV rfl (by first | rfl | (simp; done) | (congr 1; omega) | (simp only []; congr 1; omega)) <| Sub.consV rfl (by first | rfl | (simp; done) | (congr 1; omega) | (simp only []; congr 1; omega)) <| Sub.consV rfl (by first | rfl | (simp; done) | (congr 1; omega) | (simp only []; congr 1; omega)) <| Sub.nil) (trivial) ?_
   rintro k w8 st8 _
   simp only [List.cons_append, List.nil_append] at st8 ⊢
   refine WC.seq ?_
   refine WC.region ?_
   refine WL.p rfl rfl (PV.lss rfl rfl) <| WL.nil ?_
   refine EX.seqN ?_
   refine WC.seq ?_
   refine WC.cond rfl (fun g87 => ?_) (fun g87 => ?_)
   ·
    skip
    exact absurd g87 (by first | (simp; done) | (simp; omega) | (simp_all; done) | (simp_all; omega))
   ·
    skip
    refine WC.exit ?_
    refine EX.thenX ?_
    refine EX.thenX ?_
    refine EX.blkX ?_
    refine EX.seqN ?_
    refine WC.seq ?_
    refine WC.region ?_
    refine WL.p rfl rfl (PV.fa fa35_2 rfl) <| WL.p rfl rfl (PV.ld1 one3 (Blk.range (As.gb st8.g1)) rfl rfl) <| WL.p rfl rfl (PV.mv rfl) <| ?_
    refine WL.go rfl (OX.call cf202 rfl rfl ((pfinal_calls (SR.blk1 (A := fun _ => True) (x := rules[i].c) (As.gb st8.g0) trivial rfl (by simp [Value.oneCell']) rfl) (by simp; omega) (by omega) rfl).mono ?_))
    rintro _ w9 ⟨rfl, s9⟩
    refine ⟨_, rfl, ?_⟩
    rw [show [rules[i].c].sum % 1000 = rules[i].c by (simp; omega)]
    have st9 := st8.step s9
    refine WL.go rfl (OX.call cf13 rfl rfl ((itoa_small (n := rules[i].c) (by omega) (by omega) w9).mono ?_))
    rintro _ w10 ⟨rfl, s10⟩
    refine ⟨_, rfl, ?_⟩
    have st10 := st9.step s10
    refine WL.p rfl rfl (PV.build' (us := _) bt127 rfl rfl rfl) <| ?_
    refine WL.go rfl (OX.stW sz127 (As.gb st10.g2) rfl rfl rfl rfl rfl fun w11 ss1 _ hs1 => ?_)
    have st11 := st10.p2.updB ss1 hs1
    refine WL.nil ?_
    refine EX.seqN ?_
    refine WC.ret ?_
    refine EX.retC agg127 rfl rfl (Blk.range (As.gb st11.g0)) rfl ?_
    exact ⟨rfl, (St.cg st11)⟩
theorem pfturn_calls {rules : List Rule} {i : Nat} {A : Nat → Prop} {a : Option Addr} {r c : Nat} {w : World} (hi : i < rules.length) (h99 : i ≤ 99) (hs : SimR rules[i]) (hr : Rules A w a r c rules) : Calls Tryz.prog 133 #[.slice a r c, (⟨31, itoa i⟩ : Key).val, .slice none 0 0] w fun e w' => e = .returned (⟨true, itoa rules[i].c, noKey⟩ : Turn).val ∧ Chg [] w w'  := by
 refine enter (args := [.slice a r c, (⟨31, itoa i⟩ : Key).val, .slice none 0 0]) Tryz.func133 rfl Tryz.ntmps133 rfl ?_
 have st0 : St w (fun _ => False) (fun _ => False) w [] := St.start (by simp)
 refine WC.seq ?_
 refine WC.region ?_
 refine WL.go rfl (OX.box rfl rfl rfl fun b4 w1 nw4 hb4 => ?_)
 have st1 := st0.newB nw4 hb4
 refine WL.go rfl (OX.alloc zv127 rfl fun b6 w2 nw6 hb6 => ?_)
 have st2 := st1.newB nw6 hb6
 refine WL.nil ?_
 refine EX.seqN ?_
 refine WC.seq ?_
 refine WC.block ?_
 refine WC.seq ?_
 refine WC.region ?_
 refine WL.p rfl rfl (PV.ldA agg27 (Blk.range (As.gb st2.g1)) rfl rfl) <| ?_
 refine WL.go rfl (OX.call cf93 rfl rfl ((prule_calls (k := ⟨31, itoa i⟩)).mono ?_))
 rintro _ w3 ⟨rfl, s3⟩
 refine ⟨_, rfl, ?_⟩
 have st3 := st2.step s3
 refine WL.p rfl rfl (PV.as rfl) <| WL.nil ?_
 refine EX.seqN ?_
 refine WC.condT rfl ?_
 refine WC.seq ?_
 refine WC.region ?_
 refine WL.p rfl rfl (PV.mv rfl) <| WL.p rfl rfl (PV.ldA agg27 (Blk.range (As.gb st3.g1)) rfl rfl) <| WL.p rfl rfl (PV.mv rfl) <| ?_
 refine WL.go rfl (OX.call cf158 rfl rfl ((ptoyTurn_calls hi h99 hs (hr.ext (St.cg st3))).mono ?_))
 rintro _ w4 ⟨rfl, s4⟩
 refine ⟨_, rfl, ?_⟩
 have st4 := st3.step s4
 refine WL.go rfl (OX.stW sz127 (As.gb st4.g0) rfl rfl rfl rfl rfl fun w5 ss0 _ hs0 => ?_)
 have st5 := st4.updB ss0 hs0
 refine WL.nil ?_
 refine EX.seqN ?_
 refine WC.ret ?_
 refine EX.blkR ?_
 refine EX.thenR ?_
 refine EX.retC agg127 rfl rfl (Blk.range (As.gb st5.g0)) rfl ?_
 exact ⟨rfl, (St.cg st5)⟩
theorem pasked_calls {rules : List Rule} {i : Nat} {A : Nat → Prop} {a : Option Addr} {r c : Nat} {w : World} (hi : i < rules.length) (h99 : i ≤ 99) (hs : SimR rules[i]) (hr : Rules A w a r c rules) : Calls Tryz.prog 48 #[.slice a r c, (⟨31, itoa i⟩ : Key).val] w fun e w' => e = .returned (.bool true) ∧ Chg [] w w'  := by
 have hk := hs.key hi h99
 refine enter (args := [.slice a r c, (⟨31, itoa i⟩ : Key).val]) Tryz.func48 rfl Tryz.ntmps48 rfl ?_
 have st0 : St w (fun _ => False) (fun _ => False) w [] := St.start (by simp)
 refine WC.seq ?_
 refine WC.region ?_
 refine WL.go rfl (OX.box rfl rfl rfl fun b3 w1 nw3 hb3 => ?_)
 have st1 := st0.newB nw3 hb3
 refine WL.p rfl rfl (PV.as rfl) <| WL.nil ?_
 refine EX.seqN ?_
 refine WC.seq ?_
 have hN1 := st1.fplt
 refine WC.drawnS (m := 12) (E := lookE [(1, fun v _ => v = .bool true), (4, fun v _ => v = .bool true), (9, fun v _ => v = .int .i64 (i : Int)), (10, fun v _ => v = (ofK rules (i : Int)).val)]) st1 (lookE_st (⟨fun _ _ _ _ _ _ _ h => h, ⟨fun _ _ _ _ _ _ _ h => h, ⟨fun _ _ _ _ _ _ _ h => h, ⟨fun _ _ _ _ _ _ _ h => h, trivial⟩⟩⟩⟩)) mixed (by kernel_rfl) ?_
 refine DW.p rfl rfl rfl rfl rfl (fun _ hC => PV.ldA agg27 (Blk.range (As.gb hC.2.g0)) rfl rfl) <| ?_
 refine DW.e rfl rfl rfl rfl rfl (fun wx hC hF => OX.call cf92 rfl rfl ((pvalidK_calls (k := ⟨31, itoa i⟩) ⟨(by decide : (30 : Int) ≤ 31), (by decide : (31 : Int) ≤ 32)⟩ rfl h99).mono ?_)) ?_
 ·
  skip
  rintro _ wy ⟨rfl, hy⟩
  exact ⟨_, rfl, ⟨Nat.le_trans hC.1 hy.size, hC.2.step hy⟩, hy.p0, _, rfl, rfl⟩
 rintro _ wz _ rfl
 refine DW.p rfl rfl rfl rfl rfl (fun _ hC => PV.mv rfl) <| DW.p rfl rfl rfl rfl rfl (fun _ hC => PV.ldA agg27 (Blk.range (As.gb hC.2.g0)) rfl rfl) <| ?_
 refine DW.e rfl rfl rfl rfl rfl (fun wx hC hF => OX.call cf93 rfl rfl ((prule_calls (k := ⟨31, itoa i⟩)).mono ?_)) ?_
 ·
  skip
  rintro _ wy ⟨rfl, hy⟩
  exact ⟨_, rfl, ⟨Nat.le_trans hC.1 hy.size, hC.2.step hy⟩, hy.p0, _, rfl, rfl⟩
 rintro _ wz _ rfl
 refine DW.p rfl rfl rfl rfl rfl (fun _ hC => PV.not rfl) <| DW.p rfl rfl rfl rfl rfl (fun _ hC => PV.mv rfl) <| DW.p rfl rfl rfl rfl rfl (fun _ hC => PV.mv rfl) <| DW.p rfl rfl rfl rfl rfl (fun _ hC => PV.ldA agg27 (Blk.range (As.gb hC.2.g0)) rfl rfl) <| ?_
 refine DW.e rfl rfl rfl rfl rfl (fun wx hC hF => OX.call cf95 rfl rfl ((pnumber_calls (k := ⟨31, itoa i⟩) ⟨(by decide : (30 : Int) ≤ 31), (by decide : (31 : Int) ≤ 32)⟩ rfl h99).mono ?_)) ?_
 ·
  skip
  rintro _ wy ⟨rfl, hy⟩
  exact ⟨_, rfl, ⟨Nat.le_trans hC.1 hy.size, hC.2.step hy⟩, hy.p0, _, rfl, rfl⟩
 rintro _ wz _ rfl
 refine DW.e rfl rfl rfl rfl rfl (fun wx hC hF => OX.call cf94 rfl rfl ((pof_calls (n := (i : Int)) (hr.ext (St.cg hC.2))).mono ?_)) ?_
 ·
  skip
  rintro _ wy ⟨rfl, hy⟩
  exact ⟨_, rfl, ⟨Nat.le_trans hC.1 hy.size, hC.2.step hy⟩, hy.p0, _, rfl, rfl⟩
 rintro _ wz _ rfl
 refine DW.p rfl rfl rfl rfl rfl (fun _ hC => PV.ldA agg27 (Blk.range (As.gb hC.2.g0)) rfl rfl) <| DW.nil ?_
 rintro w2 ⟨hsz1, st2⟩ ⟨_, ⟨_, ⟨_, ⟨_, _⟩⟩⟩⟩
 refine WL.p rfl rfl (PV.eqK keyt27 (p := ofK rules (i : Int)) (q := ⟨31, itoa i⟩) rfl rfl) <| WL.p rfl rfl (PV.pickF rfl rfl rfl) <| WL.p rfl rfl (PV.pickT rfl rfl rfl) <| WL.p rfl rfl (PV.as rfl) <| WL.nil ?_
 refine EX.seqN ?_
 refine WC.ret ?_
 refine EX.ret1 rfl rfl ?_
 exact ⟨by simp [hk], (St.cg st2)⟩
end Go.Rc

