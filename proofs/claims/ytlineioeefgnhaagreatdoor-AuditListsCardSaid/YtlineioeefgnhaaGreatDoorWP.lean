/- Walks over the program, part WP. Conditions: as each theorem says. -/
import Derived.Test.YtlineioeefgnhaaGreatDoorFacts
import Derived.Test.YtlineioeefgnhaaGreatDoorWO
import Derived.Test.YtlineioeefgnhaaGreatDoorBb
set_option linter.unusedVariables false
set_option linter.unusedSimpArgs false
set_option linter.unusedSectionVars false
namespace Go.Rc
open Go Go.Proofs
set_option maxHeartbeats 400000
theorem pfnew_calls {x : Bas} {ar a1 a2 : Option Addr} {r cr n1 c1 n2 c2 : Nat} {w : World} {M Z : Nat → Prop} (hst : St w M Z w []) : Calls Tryz.prog 20 #[.slice ar r cr, .agg (x.row a1 n1 c1 a2 n2 c2).toArray] w fun e w' => ∃ s m q, e = .returned (.pointer (some ⟨s, 0, none⟩)) ∧ St w M Z w' [As.blk s 95 (SD.cells ⟨ar, a1, a2, r, cr, n1, c1, n2, c2, m, q, s⟩ x), As.map Key.val m [], As.map Key.val q []] := by
 refine enter (args := [.slice ar r cr, .agg (x.row a1 n1 c1 a2 n2 c2).toArray]) Tryz.func20 rfl Tryz.ntmps20 rfl ?_
 have st0 := hst
 refine WC.seq ?_
 refine WC.region ?_
 refine WL.go rfl (OX.box rfl rfl rfl fun b3 w1 nw3 hb3 => ?_)
 have st1 := st0.newB nw3 hb3
 refine WL.p rfl rfl (PV.as rfl) <| WL.nil ?_
 refine EX.seqN ?_
 refine WC.seq ?_
 refine WC.region ?_
 refine WL.p rfl rfl (PV.mv rfl) <| WL.p rfl rfl (PV.ldA agg40 (Blk.range (As.gb st1.g0)) rfl rfl) <| ?_
 refine WL.go rfl (OX.makeMap Key.val rfl fun b7 w2 nw7 hm7 => ?_)
 have st2 := st1.newM nw7 hm7
 refine WL.go rfl (OX.makeMap Key.val rfl fun b8 w3 nw8 hm8 => ?_)
 have st3 := st2.newM nw8 hm8
 refine WL.p rfl rfl (PV.build' (us := (SD.cells ⟨ar, a1, a2, r, cr, n1, c1, n2, c2, b7, b8, 0⟩ x)) bt95 rfl rfl rfl) <| ?_
 refine WL.go rfl (OX.box rfl rfl rfl fun b10 w4 nw10 hb10 => ?_)
 have st4 := st3.newB nw10 hb10
 refine WL.p rfl rfl (PV.as rfl) <| WL.nil ?_
 refine EX.seqN ?_
 refine WC.ret ?_
 refine EX.ret1 rfl rfl ?_
 exact ⟨_, _, _, rfl, st4.p3.drop.p2.p1⟩
theorem pfrun_calls {rules : List Rule} {i : Nat} {A : Nat → Prop} {x : Bas} {D : SD} {fv : Value} {w : World} (hi : i < rules.length) (h99 : i ≤ 99) (hs : SimR rules[i]) (hu : Rules A w D.ar D.r D.cr rules) (hv : Blk w D.s 95 (D.cells x)) : Calls Tryz.prog 98 #[.pointer (some ⟨D.s, 0, none⟩), (⟨31, itoa i⟩ : Key).val, fv] w fun e w' => e = .returned (.tuple #[.string (itoa rules[i].c), .slice none 0 0]) ∧ Chg [] w w'  := by
 refine enter (args := [.pointer (some ⟨D.s, 0, none⟩), (⟨31, itoa i⟩ : Key).val, fv]) Tryz.func98 rfl Tryz.ntmps98 rfl ?_
 have st0 : St w (fun _ => False) (fun _ => False) w [] := St.start (by simp)
 refine WC.seq ?_
 refine WC.region ?_
 refine WL.go rfl (OX.box rfl rfl rfl fun b4 w1 nw4 hb4 => ?_)
 have st1 := st0.newB nw4 hb4
 refine WL.p rfl rfl (PV.as rfl) <| WL.p rfl rfl (PV.as rfl) <| WL.nil ?_
 refine EX.seqN ?_
 refine WC.seq ?_
 refine WC.region ?_
 refine WL.p rfl rfl (PV.as rfl) <| WL.nil ?_
 refine EX.seqN ?_
 refine WC.seq ?_
 refine WC.region ?_
 refine WL.p rfl rfl (PV.as rfl) <| WL.nil ?_
 refine EX.seqN ?_
 refine WC.block ?_
 refine WC.loopN 1 ?_
 refine LoopN.s ?_
 refine WC.block ?_
 refine WC.seq ?_
 have hN3 := st1.fplt
 have hzN3 := st1.zlt
 have h0N3 := st1.size
 refine WC.drawnS (m := 8) (E := lookE [(6, fun v _ => v = (⟨true, itoa rules[i].c, noKey⟩ : Turn).val), (7, PB w1.heap.size 127 [.bool false, .string ⟨#[]⟩, .int .i64 0, .string ⟨#[]⟩])]) st1 (lookE_st (⟨fun _ _ _ _ _ _ _ h => h, ⟨fun _ _ _ _ _ _ c h => PB.st hN3 c h, trivial⟩⟩)) mixed (by kernel_rfl) ?_
 refine DW.p rfl rfl rfl rfl rfl (fun _ hC => PV.mv rfl) <| DW.p rfl rfl rfl rfl rfl (fun _ hC => PV.nilc rfl) <| DW.p rfl rfl rfl rfl rfl (fun _ hC => PV.fa fa95_0 rfl) <| DW.p rfl rfl rfl rfl rfl (fun _ hC => PV.ld1 one36 (Blk.range (hv.ext (St.cg hC.2))) rfl rfl) <| DW.p rfl rfl rfl rfl rfl (fun _ hC => PV.ldA agg27 (Blk.range (As.gb hC.2.g0)) rfl rfl) <| DW.p rfl rfl rfl rfl rfl (fun _ hC => PV.mv rfl) <| ?_
 refine DW.e rfl rfl rfl rfl rfl (fun wx hC hF => OX.call cf133 rfl rfl ((pfturn_calls hi h99 hs (hu.ext (St.cg hC.2))).mono ?_)) ?_
 ·
  skip
  rintro _ wy ⟨rfl, hy⟩
  exact ⟨_, rfl, ⟨Nat.le_trans hC.1 hy.size, hC.2.step hy⟩, hy.p0, _, rfl, rfl⟩
 rintro _ wz _ rfl
 refine DW.e rfl rfl rfl rfl rfl (fun wx hC hF => OX.alloc zv127 rfl fun b wy nw hb => ⟨⟨Nat.le_trans hC.1 nw.ext.size, hC.2.step nw.ext⟩, nw.ext.p0, _, rfl, _, rfl, Nat.le_trans hC.1 nw.ge, hb⟩) ?_
 rintro _ wz _ ⟨b10, rfl, _, _⟩
 refine DW.nil ?_
 rintro w2 ⟨hsz3, st2⟩ ⟨hF7, ⟨_, _⟩⟩
 have st3 := st2.addB hF7 hN3 hzN3 h0N3
 refine WL.go rfl (OX.stW sz127 (As.gb st3.g0) rfl rfl rfl rfl rfl fun w3 ss0 _ hs0 => ?_)
 have st4 := st3.updB ss0 hs0
 refine WL.nil ?_
 refine EX.seqN ?_
 refine WC.seq ?_
 refine WC.seq ?_
 refine WC.region ?_
 refine WL.p rfl rfl (PV.fa fa127_0 rfl) <| WL.p rfl rfl (PV.ld1 one4 (Blk.range (As.gb st4.g0)) rfl rfl) <| WL.nil ?_
 refine EX.seqN ?_
 refine WC.cond rfl (fun g19 => ?_) (fun g19 => ?_)
 ·
  skip
  refine WC.seq ?_
  refine WC.region ?_
  refine WL.p rfl rfl (PV.fa fa127_1 rfl) <| WL.p rfl rfl (PV.ld1 one9 (Blk.range (As.gb st4.g0)) rfl rfl) <| WL.p rfl rfl (PV.mv rfl) <| WL.p rfl rfl (PV.as rfl) <| WL.p rfl rfl (PV.as rfl) <| WL.nil ?_
  refine EX.seqN ?_
  refine WC.ret ?_
  refine EX.thenR ?_
  refine EX.blkR ?_
  refine EX.thenR ?_
  refine EX.blkR ?_
  refine EX.ret2 rfl rfl rfl ?_
  exact ⟨rfl, (St.cg st4)⟩
 ·
  skip
  exact absurd g19 (by first | (simp; done) | (simp; omega) | (simp_all; done) | (simp_all; omega))
theorem pfreads_calls {rules : List Rule} {i : Nat} {A : Nat → Prop} {x : Bas} {D : SD} {w : World} (hi : i < rules.length) (h99 : i ≤ 99) (hs : SimR rules[i]) (hu : Rules A w D.ar D.r D.cr rules) (hv : Blk w D.s 95 (D.cells x)) : Calls Tryz.prog 53 #[.pointer (some ⟨D.s, 0, none⟩), (⟨31, itoa i⟩ : Key).val] w fun e w' => e = .returned (.slice none 0 0) ∧ Chg [] w w'  := by
 refine enter (args := [.pointer (some ⟨D.s, 0, none⟩), (⟨31, itoa i⟩ : Key).val]) Tryz.func53 rfl Tryz.ntmps53 rfl ?_
 have st0 : St w (fun _ => False) (fun _ => False) w [] := St.start (by simp)
 refine WC.seq ?_
 refine WC.region ?_
 refine WL.go rfl (OX.box rfl rfl rfl fun b3 w1 nw3 hb3 => ?_)
 have st1 := st0.newB nw3 hb3
 refine WL.p rfl rfl (PV.as rfl) <| WL.nil ?_
 refine EX.seqN ?_
 refine WC.seq ?_
 refine WC.seq ?_
 refine WC.region ?_
 refine WL.p rfl rfl (PV.ldA agg27 (Blk.range (As.gb st1.g0)) rfl rfl) <| ?_
 refine WL.go rfl (OX.call cf56 rfl rfl ((pinput_calls (k := (⟨31, itoa i⟩ : Key))).mono ?_))
 rintro _ w2 ⟨rfl, s2⟩
 refine ⟨_, rfl, ?_⟩
 rw [show isInput (⟨31, itoa i⟩ : Key) = false from rfl]
 have st2 := st1.step s2
 refine WL.nil ?_
 refine EX.seqN ?_
 refine WC.condF rfl ?_
 refine WC.skip ?_
 refine EX.seqN ?_
 refine WC.seq ?_
 refine WC.region ?_
 refine WL.p rfl rfl (PV.mv rfl) <| WL.p rfl rfl (PV.ldA agg27 (Blk.range (As.gb st2.g0)) rfl rfl) <| WL.p rfl rfl (PV.mv rfl) <| WL.p rfl rfl (PV.func (us := [.pointer (some ⟨D.s, 0, none⟩)]) (vs := []) rfl rfl) <| ?_
 refine WL.go rfl (OX.call cf98 rfl rfl ((pfrun_calls hi h99 hs (hu.ext (St.cg st2)) (hv.ext (St.cg st2))).mono ?_))
 rintro _ w3 ⟨rfl, s3⟩
 refine ⟨_, rfl, ?_⟩
 have st3 := st2.step s3
 refine WL.p rfl rfl (PV.mv rfl) <| WL.p rfl rfl (PV.ext rfl rfl) <| WL.p rfl rfl (PV.ext rfl rfl) <| WL.p rfl rfl (PV.as rfl) <| WL.p rfl rfl (PV.as rfl) <| WL.nil ?_
 refine EX.seqN ?_
 refine WC.seq ?_
 refine WC.region ?_
 refine WL.p rfl rfl (PV.mv rfl) <| WL.p rfl rfl (PV.as rfl) <| WL.nil ?_
 refine EX.seqN ?_
 refine WC.ret ?_
 refine EX.ret1 rfl rfl ?_
 exact ⟨rfl, (St.cg st3)⟩
theorem pfof1_calls {rules : List Rule} {i : Nat} {x : Bas} {D : SD} {w : World} {M Z : Nat → Prop} (hi : i < rules.length) (h99 : i ≤ 99) (hs : SimR rules[i]) (hu : Rd RR.rule 4 Z w D.ar D.r D.cr rules) (hst : St w M Z w [As.blk D.s 95 (D.cells x), As.map Key.val D.m [((⟨31, itoa i⟩ : Key), .string (itoa rules[i].c))], As.map Key.val D.q []]) : Calls Tryz.prog 60 #[.pointer (some ⟨D.s, 0, none⟩), (⟨31, itoa i⟩ : Key).val] w fun e w' => e = .returned (.string (itoa rules[i].c)) ∧ St w M Z w' [As.blk D.s 95 (D.cells x), As.map Key.val D.m [((⟨31, itoa i⟩ : Key), .string (itoa rules[i].c))], As.map Key.val D.q []] := by
 have hl2 : mget [((⟨31, itoa i⟩ : Key), Value.string (itoa rules[i].c))] (⟨31, itoa i⟩ : Key) = some (.string (itoa rules[i].c)) := by simp [mget]
 refine enter (args := [.pointer (some ⟨D.s, 0, none⟩), (⟨31, itoa i⟩ : Key).val]) Tryz.func60 rfl Tryz.ntmps60 rfl ?_
 have st0 := hst
 have st1 := st0.fact (As.mkro hu) (fun _ hx => hx)
 refine WC.seq ?_
 refine WC.region ?_
 refine WL.go rfl (OX.box rfl rfl rfl fun b3 w1 nw3 hb3 => ?_)
 have st2 := st1.newB nw3 hb3
 refine WL.p rfl rfl (PV.as rfl) <| WL.nil ?_
 refine EX.seqN ?_
 refine WC.seq ?_
 refine WC.seq ?_
 refine WC.region ?_
 refine WL.p rfl rfl (PV.ldA agg27 (Blk.range (As.gb st2.g0)) rfl rfl) <| ?_
 refine WL.go rfl (OX.call cf56 rfl rfl ((pinput_calls (k := (⟨31, itoa i⟩ : Key))).mono ?_))
 rintro _ w2 ⟨rfl, s2⟩
 refine ⟨_, rfl, ?_⟩
 rw [show isInput (⟨31, itoa i⟩ : Key) = false from rfl]
 have st3 := st2.step s2
 refine WL.nil ?_
 refine EX.seqN ?_
 refine WC.condF rfl ?_
 refine WC.skip ?_
 refine EX.seqN ?_
 refine WC.seq ?_
 refine WC.seq ?_
 have hN3 := st3.fplt
 refine WC.drawnS (m := 10) (E := lookE []) st3 (lookE_st (trivial)) mixed (by kernel_rfl) ?_
 refine DW.p rfl rfl rfl rfl rfl (fun _ hC => PV.mv rfl) <| DW.p rfl rfl rfl rfl rfl (fun _ hC => PV.nilc rfl) <| DW.p rfl rfl rfl rfl rfl (fun _ hC => PV.fa fa95_2 rfl) <| DW.p rfl rfl rfl rfl rfl (fun _ hC => PV.ld1 one84 (Blk.range (As.gb hC.2.g2)) rfl rfl) <| DW.p rfl rfl rfl rfl rfl (fun _ hC => PV.ldA agg27 (Blk.range (As.gb hC.2.g0)) rfl rfl) <| DW.p rfl rfl rfl rfl rfl (fun _ hC => PV.lookOkV kk27 und84 zvv9 (As.gm hC.2.g3) (hl2) rfl rfl) <| DW.p rfl rfl rfl rfl rfl (fun _ hC => PV.mv rfl) <| DW.p rfl rfl rfl rfl rfl (fun _ hC => PV.ext rfl rfl) <| DW.p rfl rfl rfl rfl rfl (fun _ hC => PV.ext rfl rfl) <| DW.p rfl rfl rfl rfl rfl (fun _ hC => PV.as rfl) <| DW.nil ?_
 rintro w3 ⟨hsz3, st4⟩ _
 refine WL.p rfl rfl (PV.as rfl) <| WL.nil ?_
 refine EX.seqN ?_
 refine WC.seq ?_
 refine WC.region ?_
 refine WL.p rfl rfl (PV.mv rfl) <| WL.nil ?_
 refine EX.seqN ?_
 refine WC.cond rfl (fun g24 => ?_) (fun g24 => ?_)
 ·
  skip
  refine WC.seq ?_
  refine WC.region ?_
  refine WL.p rfl rfl (PV.mv rfl) <| WL.p rfl rfl (PV.as rfl) <| WL.nil ?_
  refine EX.seqN ?_
  refine WC.ret ?_
  refine EX.thenR ?_
  refine EX.ret1 rfl rfl ?_
  exact ⟨rfl, st4.drop.drop⟩
 ·
  skip
  exact absurd g24 (by first | (simp; done) | (simp; omega) | (simp_all; done) | (simp_all; omega))
theorem pfof0_calls {rules : List Rule} {i : Nat} {x : Bas} {D : SD} {w : World} {M Z : Nat → Prop} (hi : i < rules.length) (h99 : i ≤ 99) (hs : SimR rules[i]) (hu : Rd RR.rule 4 Z w D.ar D.r D.cr rules) (hst : St w M Z w [As.blk D.s 95 (D.cells x), As.map Key.val D.m [], As.map Key.val D.q []]) : Calls Tryz.prog 60 #[.pointer (some ⟨D.s, 0, none⟩), (⟨31, itoa i⟩ : Key).val] w fun e w' => e = .returned (.string (itoa rules[i].c)) ∧ St w M Z w' [As.blk D.s 95 (D.cells x), As.map Key.val D.m [((⟨31, itoa i⟩ : Key), .string (itoa rules[i].c))], As.map Key.val D.q []] := by
 have hl1 : (mget ([] : List (Key × Value)) (⟨31, itoa i⟩ : Key)).getD (.bool false) = .bool false := rfl
 have hl2 : mget [((⟨31, itoa i⟩ : Key), Value.string (itoa rules[i].c))] (⟨31, itoa i⟩ : Key) = some (.string (itoa rules[i].c)) := by simp [mget]
 refine enter (args := [.pointer (some ⟨D.s, 0, none⟩), (⟨31, itoa i⟩ : Key).val]) Tryz.func60 rfl Tryz.ntmps60 rfl ?_
 have st0 := hst
 have st1 := st0.fact (As.mkro hu) (fun _ hx => hx)
 refine WC.seq ?_
 refine WC.region ?_
 refine WL.go rfl (OX.box rfl rfl rfl fun b3 w1 nw3 hb3 => ?_)
 have st2 := st1.newB nw3 hb3
 refine WL.p rfl rfl (PV.as rfl) <| WL.nil ?_
 refine EX.seqN ?_
 refine WC.seq ?_
 refine WC.seq ?_
 refine WC.region ?_
 refine WL.p rfl rfl (PV.ldA agg27 (Blk.range (As.gb st2.g0)) rfl rfl) <| ?_
 refine WL.go rfl (OX.call cf56 rfl rfl ((pinput_calls (k := (⟨31, itoa i⟩ : Key))).mono ?_))
 rintro _ w2 ⟨rfl, s2⟩
 refine ⟨_, rfl, ?_⟩
 rw [show isInput (⟨31, itoa i⟩ : Key) = false from rfl]
 have st3 := st2.step s2
 refine WL.nil ?_
 refine EX.seqN ?_
 refine WC.condF rfl ?_
 refine WC.skip ?_
 refine EX.seqN ?_
 refine WC.seq ?_
 refine WC.seq ?_
 have hN3 := st3.fplt
 refine WC.drawnS (m := 10) (E := lookE []) st3 (lookE_st (trivial)) mixed (by kernel_rfl) ?_
 refine DW.p rfl rfl rfl rfl rfl (fun _ hC => PV.mv rfl) <| DW.p rfl rfl rfl rfl rfl (fun _ hC => PV.nilc rfl) <| DW.p rfl rfl rfl rfl rfl (fun _ hC => PV.fa fa95_2 rfl) <| DW.p rfl rfl rfl rfl rfl (fun _ hC => PV.ld1 one84 (Blk.range (As.gb hC.2.g2)) rfl rfl) <| DW.p rfl rfl rfl rfl rfl (fun _ hC => PV.ldA agg27 (Blk.range (As.gb hC.2.g0)) rfl rfl) <| DW.p rfl rfl rfl rfl rfl (fun _ hC => PV.lookOk kk27 und84 zvv9 (As.gm hC.2.g3) rfl rfl) <| DW.p rfl rfl rfl rfl rfl (fun _ hC => PV.mv rfl) <| DW.p rfl rfl rfl rfl rfl (fun _ hC => PV.ext rfl rfl) <| DW.p rfl rfl rfl rfl rfl (fun _ hC => PV.ext rfl rfl) <| DW.p rfl rfl rfl rfl rfl (fun _ hC => PV.as rfl) <| DW.nil ?_
 rintro w3 ⟨hsz3, st4⟩ _
 refine WL.p rfl rfl (PV.as rfl) <| WL.nil ?_
 refine EX.seqN ?_
 refine WC.seq ?_
 refine WC.region ?_
 refine WL.p rfl rfl (PV.mv rfl) <| WL.nil ?_
 refine EX.seqN ?_
 refine WC.cond rfl (fun g24 => ?_) (fun g24 => ?_)
 ·
  skip
  exact absurd g24 (by simp [mget])
 ·
  skip
  refine WC.skip ?_
  refine EX.seqN ?_
  refine WC.seq ?_
  refine WC.block ?_
  refine WC.seq ?_
  refine WC.region ?_
  refine WL.p rfl rfl (PV.ldA agg27 (Blk.range (As.gb st4.g0)) rfl rfl) <| ?_
  refine WL.go rfl (OX.call cf57 rfl rfl ((pcyclic_calls (k := (⟨31, itoa i⟩ : Key)) (.inr (show (22 : Int) < 31 by decide))).mono ?_))
  rintro _ w4 ⟨rfl, s4⟩
  refine ⟨_, rfl, ?_⟩
  rw [show (decide (((⟨31, itoa i⟩ : Key).kind) = 32)) = false from rfl]
  have st5 := st4.step s4
  refine WL.p rfl rfl (PV.as rfl) <| WL.nil ?_
  refine EX.seqN ?_
  refine WC.condF rfl ?_
  refine WC.seq ?_
  have hN11 := st5.fplt
  refine WC.drawnS (m := 5) (E := lookE []) st5 (lookE_st (trivial)) mixed (by kernel_rfl) ?_
  refine DW.p rfl rfl rfl rfl rfl (fun _ hC => PV.mv rfl) <| DW.p rfl rfl rfl rfl rfl (fun _ hC => PV.nilc rfl) <| DW.p rfl rfl rfl rfl rfl (fun _ hC => PV.fa fa95_3 rfl) <| DW.p rfl rfl rfl rfl rfl (fun _ hC => PV.ld1 one30 (Blk.range (As.gb hC.2.g2)) rfl rfl) <| DW.p rfl rfl rfl rfl rfl (fun _ hC => PV.ldA agg27 (Blk.range (As.gb hC.2.g0)) rfl rfl) <| DW.nil ?_
  rintro w5 ⟨hsz11, st6⟩ _
  refine WL.p rfl rfl (PV.lookD kk27 und30 zvv4 (As.gm st6.g4) (hl1) rfl rfl) <| WL.p rfl rfl (PV.as rfl) <| WL.nil ?_
  refine EX.seqN ?_
  refine WC.cond rfl (fun g55 => ?_) (fun g55 => ?_)
  ·
   skip
   exact absurd g55 (by first | (simp; done) | (simp; omega) | (simp_all; done) | (simp_all; omega))
  ·
   skip
   refine WC.seq ?_
   have hN6 := st6.fplt
   refine WC.drawnS (m := 5) (E := lookE []) st6 (lookE_st (trivial)) mixed (by kernel_rfl) ?_
   refine DW.p rfl rfl rfl rfl rfl (fun _ hC => PV.mv rfl) <| DW.p rfl rfl rfl rfl rfl (fun _ hC => PV.nilc rfl) <| DW.p rfl rfl rfl rfl rfl (fun _ hC => PV.fa fa95_3 rfl) <| DW.p rfl rfl rfl rfl rfl (fun _ hC => PV.ld1 one30 (Blk.range (As.gb hC.2.g2)) rfl rfl) <| DW.p rfl rfl rfl rfl rfl (fun _ hC => PV.ldA agg27 (Blk.range (As.gb hC.2.g0)) rfl rfl) <| DW.nil ?_
   rintro w6 ⟨hsz6, st7⟩ _
   refine WL.go rfl (OX.put kk27 und30 (As.gm st7.g4) rfl rfl rfl fun w7 smp0 hmp0 => ?_)
   have st8 := st7.p4.updM smp0 hmp0
   refine WL.nil ?_
   refine EX.seqN ?_
   refine WC.seq ?_
   have hN7 := st8.fplt
   refine WC.drawnX (m := 13) [12] (E := lookE [(9, fun v _ => v = .tuple #[.string (itoa rules[i].c), .slice none 0 0])]) st8 (lookE_st (⟨fun _ _ _ _ _ _ _ h => h, trivial⟩)) mixed (by kernel_rfl) rfl ?_
   refine DW.p rfl rfl rfl rfl rfl (fun _ hC => PV.mv rfl) <| DW.p rfl rfl rfl rfl rfl (fun _ hC => PV.nilc rfl) <| DW.p rfl rfl rfl rfl rfl (fun _ hC => PV.fa fa95_2 rfl) <| DW.p rfl rfl rfl rfl rfl (fun _ hC => PV.ld1 one84 (Blk.range (As.gb hC.2.g3)) rfl rfl) <| DW.p rfl rfl rfl rfl rfl (fun _ hC => PV.ldA agg27 (Blk.range (As.gb hC.2.g1)) rfl rfl) <| DW.p rfl rfl rfl rfl rfl (fun _ hC => PV.mv rfl) <| DW.p rfl rfl rfl rfl rfl (fun _ hC => PV.ldA agg27 (Blk.range (As.gb hC.2.g1)) rfl rfl) <| DW.p rfl rfl rfl rfl rfl (fun _ hC => PV.mv rfl) <| DW.p rfl rfl rfl rfl rfl (fun _ hC => PV.func (us := [.pointer (some ⟨D.s, 0, none⟩)]) (vs := []) rfl rfl) <| ?_
   refine DW.e rfl rfl rfl rfl rfl (fun wx hC hF => OX.call cf98 rfl rfl ((pfrun_calls hi h99 hs (As.gr hC.2.g2) (As.gb hC.2.g3)).mono ?_)) ?_
   ·
    skip
    rintro _ wy ⟨rfl, hy⟩
    exact ⟨_, rfl, ⟨Nat.le_trans hC.1 hy.size, hC.2.step hy⟩, hy.p0, _, rfl, rfl⟩
   rintro _ wz _ rfl
   refine DW.p rfl rfl rfl rfl rfl (fun _ hC => PV.mv rfl) <| DW.p rfl rfl rfl rfl rfl (fun _ hC => PV.ext rfl rfl) <| DW.p rfl rfl rfl rfl rfl (fun _ hC => PV.ext rfl rfl) <| DW.nil ?_
   rintro w8 ⟨hsz7, st9⟩ ⟨_, _⟩
   refine WL.go rfl (OX.put kk27 und84 (As.gm st9.g4) rfl rfl rfl fun w9 smp1 hmp1 => ?_)
   have st10 := st9.p4.updM smp1 hmp1
   refine WL.nil (EX.np ?_)
   refine EX.seqN ?_
   have hN8 := st10.fplt
   refine WC.drawnS (m := 5) (E := lookE []) st10 (lookE_st (trivial)) mixed (by kernel_rfl) ?_
   refine DW.p rfl rfl rfl rfl rfl (fun _ hC => PV.mv rfl) <| DW.p rfl rfl rfl rfl rfl (fun _ hC => PV.nilc rfl) <| DW.p rfl rfl rfl rfl rfl (fun _ hC => PV.fa fa95_3 rfl) <| DW.p rfl rfl rfl rfl rfl (fun _ hC => PV.ld1 one30 (Blk.range (As.gb hC.2.g4)) rfl rfl) <| DW.p rfl rfl rfl rfl rfl (fun _ hC => PV.ldA agg27 (Blk.range (As.gb hC.2.g2)) rfl rfl) <| DW.nil ?_
   rintro w10 ⟨hsz8, st11⟩ _
   refine WL.go rfl (OX.del kk27 und30 (As.gm st11.g1) rfl rfl fun w11 smp2 hmp2 => ?_)
   have st12 := st11.p1.updM smp2 hmp2
   refine WL.nil ?_
   refine EX.blkN ?_
   refine EX.seqN ?_
   refine WC.seq ?_
   have hN13 := st12.fplt
   refine WC.drawnS (m := 5) (E := lookE []) st12 (lookE_st (trivial)) mixed (by kernel_rfl) ?_
   refine DW.p rfl rfl rfl rfl rfl (fun _ hC => PV.mv rfl) <| DW.p rfl rfl rfl rfl rfl (fun _ hC => PV.nilc rfl) <| DW.p rfl rfl rfl rfl rfl (fun _ hC => PV.fa fa95_2 rfl) <| DW.p rfl rfl rfl rfl rfl (fun _ hC => PV.ld1 one84 (Blk.range (As.gb hC.2.g4)) rfl rfl) <| DW.p rfl rfl rfl rfl rfl (fun _ hC => PV.ldA agg27 (Blk.range (As.gb hC.2.g2)) rfl rfl) <| DW.nil ?_
   rintro w12 ⟨hsz13, st13⟩ _
   refine WL.p rfl rfl (PV.lookV kk27 und84 zvv9 (As.gm st13.g1) (hl2) rfl rfl) <| WL.p rfl rfl (PV.as rfl) <| WL.nil ?_
   refine EX.seqN ?_
   refine WC.ret ?_
   have st14 := st13.eqA (B := As.map Key.val D.q []) (by simp [mput, mdel])
   refine EX.ret1 rfl rfl ?_
   exact ⟨rfl, st14.p2.drop.p2.drop.p1.p2⟩
theorem pfcheck_calls {rules : List Rule} {i : Nat} {ar : Option Addr} {r cr : Nat} {x : Bas} {A Z : Nat → Prop} {a1 a2 : Option Addr} {n1 e1 n2 e2 : Nat} {w : World} (hi : i < rules.length) (h99 : i ≤ 99) (hs : ∀ y ∈ rules, SimR y) (h24 : rules.length ≤ 24) (hu : Rules A w ar r cr rules) (hii : Rd RR.inp 4 Z w a1 n1 e1 x.inputs) (hr : Rd RR.rcd 8 Z w a2 n2 e2 x.recs) (hx : SimB i x) : Calls Tryz.prog 59 #[.slice ar r cr, .agg (x.row a1 n1 e1 a2 n2 e2).toArray, (⟨31, itoa i⟩ : Key).val] w fun e w' => e = .returned (.int .i64 0) ∧ Chg [] w w'  := by
 refine enter (args := [.slice ar r cr, .agg (x.row a1 n1 e1 a2 n2 e2).toArray, (⟨31, itoa i⟩ : Key).val]) Tryz.func59 rfl Tryz.ntmps59 rfl ?_
 have st0 : St w (fun _ => False) (fun _ => False) w [] := St.start (by simp)
 refine WC.seq ?_
 refine WC.region ?_
 refine WL.go rfl (OX.box rfl rfl rfl fun b4 w1 nw4 hb4 => ?_)
 have st1 := st0.newB nw4 hb4
 refine WL.go rfl (OX.box rfl rfl rfl fun b5 w2 nw5 hb5 => ?_)
 have st2 := st1.newB nw5 hb5
 refine WL.p rfl rfl (PV.as rfl) <| WL.nil ?_
 refine EX.seqN ?_
 refine WC.seq ?_
 refine WC.block ?_
 refine WC.seq ?_
 refine WC.region ?_
 refine WL.p rfl rfl (PV.mv rfl) <| ?_
 refine WL.go rfl (OX.call cf44 rfl rfl ((ptoyValid_calls (hu.ext (St.cg st2)) hs h24).mono ?_))
 rintro _ w3 ⟨rfl, s3⟩
 refine ⟨_, rfl, ?_⟩
 have st3 := st2.step s3
 refine WL.p rfl rfl (PV.not rfl) <| WL.p rfl rfl (PV.as rfl) <| WL.nil ?_
 refine EX.seqN ?_
 refine WC.condF rfl ?_
 refine WC.seq ?_
 refine WC.region ?_
 refine WL.p rfl rfl (PV.ldA agg40 (Blk.range (As.gb st3.g1)) rfl rfl) <| ?_
 refine WL.go rfl (OX.call cf45 rfl rfl ((prevValid_calls h99 (hii.ext (St.cg st3)) (hr.ext (St.cg st3)) hx).mono ?_))
 rintro _ w4 ⟨rfl, s4⟩
 refine ⟨_, rfl, ?_⟩
 have st4 := st3.step s4
 refine WL.p rfl rfl (PV.not rfl) <| WL.p rfl rfl (PV.as rfl) <| WL.nil ?_
 refine EX.seqN ?_
 refine WC.condF rfl ?_
 refine WC.seq ?_
 refine WC.region ?_
 refine WL.p rfl rfl (PV.mv rfl) <| WL.p rfl rfl (PV.ldA agg27 (Blk.range (As.gb st4.g0)) rfl rfl) <| ?_
 refine WL.go rfl (OX.call cf48 rfl rfl ((pasked_calls hi h99 (hs _ (List.getElem_mem hi)) (hu.ext (St.cg st4))).mono ?_))
 rintro _ w5 ⟨rfl, s5⟩
 refine ⟨_, rfl, ?_⟩
 have st5 := st4.step s5
 refine WL.p rfl rfl (PV.not rfl) <| WL.p rfl rfl (PV.as rfl) <| WL.nil ?_
 refine EX.seqN ?_
 refine WC.condF rfl ?_
 refine WC.skip ?_
 refine EX.blkN ?_
 refine EX.seqN ?_
 refine WC.seq ?_
 refine WC.region ?_
 refine WL.p rfl rfl (PV.as rfl) <| WL.nil ?_
 refine EX.seqN ?_
 refine WC.ret ?_
 refine EX.ret1 rfl rfl ?_
 exact ⟨rfl, (St.cg st5)⟩
theorem pfvalue_calls {rules : List Rule} {i : Nat} {ar : Option Addr} {r cr : Nat} {x : Bas} {a1 a2 : Option Addr} {n1 e1 n2 e2 : Nat} {w : World} {M Z : Nat → Prop} (hst : St w M Z w []) (hi : i < rules.length) (h99 : i ≤ 99) (hs : ∀ y ∈ rules, SimR y) (h24 : rules.length ≤ 24) (hu : Rd RR.rule 4 Z w ar r cr rules) (hii : Rd RR.inp 4 Z w a1 n1 e1 x.inputs) (hr : Rd RR.rcd 8 Z w a2 n2 e2 x.recs) (hx : SimB i x) : Calls Tryz.prog 28 #[.slice ar r cr, .agg (x.row a1 n1 e1 a2 n2 e2).toArray, (⟨31, itoa i⟩ : Key).val] w fun e w' => e = .returned (.tuple #[.string (itoa rules[i].c), .int .i64 0]) ∧ St w M Z w' [] := by
 refine enter (args := [.slice ar r cr, .agg (x.row a1 n1 e1 a2 n2 e2).toArray, (⟨31, itoa i⟩ : Key).val]) Tryz.func28 rfl Tryz.ntmps28 rfl ?_
 have st0 := hst
 have st1 := st0.fact (As.mkro hu) (fun _ hx => hx)
 have st2 := st1.fact (As.mkro hii) (fun _ hx => hx)
 have st3 := st2.fact (As.mkro hr) (fun _ hx => hx)
 refine WC.seq ?_
 refine WC.region ?_
 refine WL.go rfl (OX.box rfl rfl rfl fun b4 w1 nw4 hb4 => ?_)
 have st4 := st3.newB nw4 hb4
 refine WL.go rfl (OX.box rfl rfl rfl fun b5 w2 nw5 hb5 => ?_)
 have st5 := st4.newB nw5 hb5
 refine WL.p rfl rfl (PV.as rfl) <| WL.p rfl rfl (PV.as rfl) <| WL.nil ?_
 refine EX.seqN ?_
 refine WC.seq ?_
 refine WC.seq ?_
 refine WC.region ?_
 refine WL.p rfl rfl (PV.mv rfl) <| WL.p rfl rfl (PV.ldA agg40 (Blk.range (As.gb st5.g1)) rfl rfl) <| WL.p rfl rfl (PV.ldA agg27 (Blk.range (As.gb st5.g0)) rfl rfl) <| ?_
 refine WL.go rfl (OX.call cf59 rfl rfl ((pfcheck_calls hi h99 hs h24 (As.gr st5.g4) (As.gr st5.g3) (As.gr st5.g2) hx).mono ?_))
 rintro _ w3 ⟨rfl, s3⟩
 refine ⟨_, rfl, ?_⟩
 have st6 := st5.step s3
 refine WL.p rfl rfl (PV.as rfl) <| WL.nil ?_
 refine EX.seqN ?_
 refine WC.seq ?_
 refine WC.region ?_
 refine WL.p rfl rfl (PV.mv rfl) <| WL.p rfl rfl (PV.nei rfl rfl) <| WL.nil ?_
 refine EX.seqN ?_
 refine WC.cond rfl (fun g14 => ?_) (fun g14 => ?_)
 ·
  skip
  exact absurd g14 (by first | (simp; done) | (simp; omega) | (simp_all; done) | (simp_all; omega))
 ·
  skip
  refine WC.skip ?_
  refine EX.seqN ?_
  refine WC.seq ?_
  have hN4 : ∀ x : Nat, w3.heap.size ≤ x → w3.heap.size ≤ x := fun _ h => h
  refine WC.drawnG (m := 4) [] [2] [0, 1, 2, 3] [] st6 (Sub1.cons M0 <| Sub1.cons M1 <| Sub1.cons M2 <| Sub1.cons M3 <| Sub1.cons M4 <| Sub1.nil) mixed (by kernel_rfl) (by kernel_rfl) rfl ?_
  refine DG.p rfl rfl rfl rfl rfl rfl (fun wx Zx Rx hNx hSx hix => PV.mv rfl) <| DG.p rfl rfl rfl rfl rfl rfl (fun wx Zx Rx hNx hSx hix => PV.ldA agg40 (Blk.range (As.gb (hSx.sv hix).g1)) rfl rfl) <| ?_
  refine DG.ch rfl rfl rfl rfl rfl rfl (fun w4 R2x hN2x st7 hsd2x => ?_)
  simp only [List.cons_append, List.nil_append] at st7
  have st8 := st7
  refine OX.call cf20 rfl rfl ((pfnew_calls (x := x) st8.e0).mono ?_)
  rintro _ w5 ⟨d1, d2, d3, rfl, hst5⟩
  have st9 := St.leave (l0 := []) st8 hst5 (Zle.refl _ _)
  simp only [List.cons_append, List.nil_append] at st9
  refine ⟨_, rfl, hst5.chg.size, _, rfl, _, _, _, st9, AppE.cons <| AppE.cons <| AppE.cons <| AppE.cons <| AppE.cons <| AppE.cons <| AppE.cons <| AppE.cons <| AppE.nil, Sub1.cons M3 <| Sub1.cons M4 <| Sub1.cons M5 <| Sub1.cons M6 <| Sub1.cons M7 <| Sub1.nil, ?_⟩
  refine DG.p rfl rfl rfl rfl rfl rfl (fun wx Zx Rx hNx hSx hix => PV.ldA agg27 (Blk.range (As.gb (hSx.sv hix).g0)) rfl rfl) <| DG.nil ?_
  intro w6 hsz4 st10
  simp only [List.map_cons, List.map_nil, List.cons_append, List.nil_append, SdK.it] at st10
  have st11 := st10.p2.p2.p2
  refine WL.go rfl (OX.call cf60 rfl rfl ((pfof0_calls (D := ⟨ar, a1, a2, r, cr, n1, e1, n2, e2, d2, d3, d1⟩) hi h99 (hs _ (List.getElem_mem hi)) (As.gr st11.g7) st11.e3).mono ?_))
  rintro _ w7 ⟨rfl, hst7⟩
  refine ⟨_, rfl, ?_⟩
  have st12 := St.leave (l0 := [_, _, _]) st11 hst7 (Zle.refl _ _)
  simp only [List.cons_append, List.nil_append] at st12
  refine WL.p rfl rfl (PV.as rfl) <| WL.p rfl rfl (PV.as rfl) <| WL.nil (EX.np ?_)
  refine EX.seqN ?_
  refine WC.ret ?_
  refine EX.ret2 rfl rfl rfl ?_
  exact ⟨rfl, st12.drop.drop.drop.drop.drop.drop.drop.drop⟩
theorem pwup1_calls {i wb : Nat} {v : ByteArray} {rb n c : Nat} {a : Option Addr} {D : WD} {w : World} (hW : Blk w wb 98 (D.cells (⟨0, [], [rec1 i v]⟩ : Bas))) (hm : KM Key.val w D.m [((⟨31, itoa i⟩ : Key), .pointer (some ⟨rb, 0, none⟩))]) (hR : Blk w rb 47 ((rec1 i v).row a n c)) : Calls Tryz.prog 61 #[.pointer (some ⟨wb, 0, none⟩), (⟨31, itoa i⟩ : Key).val] w fun e w' => e = .returned (.bool true) ∧ Chg [] w w'  := by
 have hl2 : mget [((⟨31, itoa i⟩ : Key), (.pointer (some ⟨rb, 0, none⟩) : Value))] (⟨31, itoa i⟩ : Key) = some (.pointer (some ⟨rb, 0, none⟩)) := by simp [mget]
 refine enter (args := [.pointer (some ⟨wb, 0, none⟩), (⟨31, itoa i⟩ : Key).val]) Tryz.func61 rfl Tryz.ntmps61 rfl ?_
 have st0 : St w (fun _ => False) (fun _ => False) w [] := St.start (by simp)
 refine WC.seq ?_
 refine WC.region ?_
 refine WL.go rfl (OX.box rfl rfl rfl fun b3 w1 nw3 hb3 => ?_)
 have st1 := st0.newB nw3 hb3
 refine WL.p rfl rfl (PV.as rfl) <| WL.nil ?_
 refine EX.seqN ?_
 refine WC.seq ?_
 have hN1 := st1.fplt
 refine WC.drawnS (m := 5) (E := lookE []) st1 (lookE_st (trivial)) mixed (by kernel_rfl) ?_
 refine DW.p rfl rfl rfl rfl rfl (fun _ hC => PV.mv rfl) <| DW.p rfl rfl rfl rfl rfl (fun _ hC => PV.nilc rfl) <| DW.p rfl rfl rfl rfl rfl (fun _ hC => PV.fa fa98_2 rfl) <| DW.p rfl rfl rfl rfl rfl (fun _ hC => PV.ld1 one96 (Blk.range (hW.ext (St.cg hC.2))) rfl rfl) <| DW.p rfl rfl rfl rfl rfl (fun _ hC => PV.ldA agg27 (Blk.range (As.gb hC.2.g0)) rfl rfl) <| DW.nil ?_
 rintro w2 ⟨hsz1, st2⟩ _
 refine WL.p rfl rfl (PV.lookV kk27 und96 zvv99 (hm.ext (St.cg st2)) (hl2) rfl rfl) <| WL.p rfl rfl (PV.as rfl) <| WL.nil ?_
 refine EX.seqN ?_
 refine WC.seq ?_
 have hN2 := st2.fplt
 refine WC.drawnS (m := 15) (E := lookE [(1, fun v _ => v = .bool false)]) st2 (lookE_st (⟨fun _ _ _ _ _ _ _ h => h, trivial⟩)) mixed (by kernel_rfl) ?_
 refine DW.p rfl rfl rfl rfl rfl (fun _ hC => PV.ldA agg27 (Blk.range (As.gb hC.2.g0)) rfl rfl) <| ?_
 refine DW.e rfl rfl rfl rfl rfl (fun wx hC hF => OX.call cf56 rfl rfl ((pinput_calls (k := (⟨31, itoa i⟩ : Key))).mono ?_)) ?_
 ·
  skip
  rintro _ wy ⟨rfl, hy⟩
  exact ⟨_, rfl, ⟨Nat.le_trans hC.1 hy.size, hC.2.step hy⟩, hy.p0, _, rfl, rfl⟩
 rintro _ wz _ rfl
 refine DW.p rfl rfl rfl rfl rfl (fun _ hC => PV.mv rfl) <| DW.p rfl rfl rfl rfl rfl (fun _ hC => PV.mv rfl) <| DW.p rfl rfl rfl rfl rfl (fun _ hC => PV.nePN und99 rfl rfl) <| DW.p rfl rfl rfl rfl rfl (fun _ hC => PV.mv rfl) <| ?_
 refine DW.gsplit (t := 17) rfl (fun g17 => ?_) (fun g17 => ?_)
 ·
  skip
  refine DW.p rfl rfl rfl rfl rfl (fun _ hC => PV.mv rfl) <| DW.p rfl rfl rfl rfl rfl (fun _ hC => PV.nilc rfl) <| DW.p rfl rfl rfl rfl rfl (fun _ hC => PV.fa fa47_4 rfl) <| DW.p rfl rfl rfl rfl rfl (fun _ hC => PV.ld1 one3 (Blk.range (hR.ext (St.cg hC.2))) rfl rfl) <| DW.p rfl rfl rfl rfl rfl (fun _ hC => PV.mv rfl) <| DW.p rfl rfl rfl rfl rfl (fun _ hC => PV.nilc rfl) <| DW.p rfl rfl rfl rfl rfl (fun _ hC => PV.fa fa98_1 rfl) <| DW.p rfl rfl rfl rfl rfl (fun _ hC => PV.fa fa40_0 rfl) <| DW.p rfl rfl rfl rfl rfl (fun _ hC => PV.ld1 (j := 1) one3 (Blk.range (hW.ext (St.cg hC.2))) rfl rfl) <| DW.nil ?_
  rintro w3 ⟨hsz2, st3⟩ ⟨_, _⟩
  refine WL.p rfl rfl (PV.eqi rfl rfl) <| WL.p rfl rfl (PV.pickT rfl rfl rfl) <| WL.p rfl rfl (PV.pickF rfl rfl rfl) <| WL.p rfl rfl (PV.as rfl) <| WL.nil ?_
  refine EX.seqN ?_
  refine WC.ret ?_
  refine EX.ret1 rfl rfl ?_
  exact ⟨by first | rfl | simp, (St.cg st3)⟩
 ·
  skip
  exact absurd g17 (by first | (simp; done) | (simp; omega) | (simp_all; done) | (simp_all; omega))
theorem pwwhy1_calls {i wb : Nat} {v : ByteArray} {rb n c : Nat} {a : Option Addr} {D : WD} {w : World} (hW : Blk w wb 98 (D.cells (⟨0, [], [rec1 i v]⟩ : Bas))) (hm : KM Key.val w D.m [((⟨31, itoa i⟩ : Key), .pointer (some ⟨rb, 0, none⟩))]) (hR : Blk w rb 47 ((rec1 i v).row a n c)) : Calls Tryz.prog 29 #[.pointer (some ⟨wb, 0, none⟩), (⟨31, itoa i⟩ : Key).val] w fun e w' => e = .returned (.agg #[.int .i64 0, .int .i64 0, .string ⟨#[]⟩]) ∧ Chg [] w w'  := by
 have hl2 : mget [((⟨31, itoa i⟩ : Key), (.pointer (some ⟨rb, 0, none⟩) : Value))] (⟨31, itoa i⟩ : Key) = some (.pointer (some ⟨rb, 0, none⟩)) := by simp [mget]
 refine enter (args := [.pointer (some ⟨wb, 0, none⟩), (⟨31, itoa i⟩ : Key).val]) Tryz.func29 rfl Tryz.ntmps29 rfl ?_
 have st0 : St w (fun _ => False) (fun _ => False) w [] := St.start (by simp)
 refine WC.seq ?_
 refine WC.region ?_
 refine WL.go rfl (OX.box rfl rfl rfl fun b3 w1 nw3 hb3 => ?_)
 have st1 := st0.newB nw3 hb3
 refine WL.go rfl (OX.alloc zv76 rfl fun b4 w2 nw4 hb4 => ?_)
 have st2 := st1.newB nw4 hb4
 refine WL.nil ?_
 refine EX.seqN ?_
 refine WC.seq ?_
 have hN1 := st2.fplt
 refine WC.drawnS (m := 5) (E := lookE []) st2 (lookE_st (trivial)) mixed (by kernel_rfl) ?_
 refine DW.p rfl rfl rfl rfl rfl (fun _ hC => PV.mv rfl) <| DW.p rfl rfl rfl rfl rfl (fun _ hC => PV.nilc rfl) <| DW.p rfl rfl rfl rfl rfl (fun _ hC => PV.fa fa98_2 rfl) <| DW.p rfl rfl rfl rfl rfl (fun _ hC => PV.ld1 one96 (Blk.range (hW.ext (St.cg hC.2))) rfl rfl) <| DW.p rfl rfl rfl rfl rfl (fun _ hC => PV.ldA agg27 (Blk.range (As.gb hC.2.g1)) rfl rfl) <| DW.nil ?_
 rintro w3 ⟨hsz1, st3⟩ _
 refine WL.p rfl rfl (PV.lookV kk27 und96 zvv99 (hm.ext (St.cg st3)) (hl2) rfl rfl) <| WL.p rfl rfl (PV.as rfl) <| WL.nil ?_
 refine EX.seqN ?_
 refine WC.seq ?_
 refine WC.block ?_
 refine WC.seq ?_
 refine WC.region ?_
 refine WL.p rfl rfl (PV.mv rfl) <| WL.p rfl rfl (PV.ldA agg27 (Blk.range (As.gb st3.g1)) rfl rfl) <| ?_
 refine WL.go rfl (OX.call cf61 rfl rfl ((pwup1_calls (hW.ext (St.cg st3)) (hm.ext (St.cg st3)) (hR.ext (St.cg st3))).mono ?_))
 rintro _ w4 ⟨rfl, s4⟩
 refine ⟨_, rfl, ?_⟩
 have st4 := st3.step s4
 refine WL.p rfl rfl (PV.as rfl) <| WL.nil ?_
 refine EX.seqN ?_
 refine WC.condT rfl ?_
 refine WC.seq ?_
 refine WC.region ?_
 refine WL.p rfl rfl (PV.build' (us := [.int .i64 0, .int .i64 0, .string ⟨#[]⟩]) bt76 rfl rfl rfl) <| ?_
 refine WL.go rfl (OX.stW sz76 (As.gb st4.g0) rfl rfl rfl rfl rfl fun w5 ss0 _ hs0 => ?_)
 have st5 := st4.updB ss0 hs0
 refine WL.nil ?_
 refine EX.seqN ?_
 refine WC.ret ?_
 refine EX.blkR ?_
 refine EX.thenR ?_
 refine EX.retC agg76 rfl rfl (Blk.range (As.gb st5.g0)) rfl ?_
 exact ⟨rfl, (St.cg st5)⟩
theorem pwup0_calls {i wb : Nat}  {D : WD} {w : World} (hW : Blk w wb 98 (D.cells (⟨0, [], []⟩ : Bas))) (hm : KM Key.val w D.m []) : Calls Tryz.prog 61 #[.pointer (some ⟨wb, 0, none⟩), (⟨31, itoa i⟩ : Key).val] w fun e w' => e = .returned (.bool false) ∧ Chg [] w w'  := by
 have hl2 : (mget ([] : List (Key × Value)) (⟨31, itoa i⟩ : Key)).getD (.pointer none) = .pointer none := rfl
 refine enter (args := [.pointer (some ⟨wb, 0, none⟩), (⟨31, itoa i⟩ : Key).val]) Tryz.func61 rfl Tryz.ntmps61 rfl ?_
 have st0 : St w (fun _ => False) (fun _ => False) w [] := St.start (by simp)
 refine WC.seq ?_
 refine WC.region ?_
 refine WL.go rfl (OX.box rfl rfl rfl fun b3 w1 nw3 hb3 => ?_)
 have st1 := st0.newB nw3 hb3
 refine WL.p rfl rfl (PV.as rfl) <| WL.nil ?_
 refine EX.seqN ?_
 refine WC.seq ?_
 have hN1 := st1.fplt
 refine WC.drawnS (m := 5) (E := lookE []) st1 (lookE_st (trivial)) mixed (by kernel_rfl) ?_
 refine DW.p rfl rfl rfl rfl rfl (fun _ hC => PV.mv rfl) <| DW.p rfl rfl rfl rfl rfl (fun _ hC => PV.nilc rfl) <| DW.p rfl rfl rfl rfl rfl (fun _ hC => PV.fa fa98_2 rfl) <| DW.p rfl rfl rfl rfl rfl (fun _ hC => PV.ld1 one96 (Blk.range (hW.ext (St.cg hC.2))) rfl rfl) <| DW.p rfl rfl rfl rfl rfl (fun _ hC => PV.ldA agg27 (Blk.range (As.gb hC.2.g0)) rfl rfl) <| DW.nil ?_
 rintro w2 ⟨hsz1, st2⟩ _
 refine WL.p rfl rfl (PV.lookD kk27 und96 zvv99 (hm.ext (St.cg st2)) (hl2) rfl rfl) <| WL.p rfl rfl (PV.as rfl) <| WL.nil ?_
 refine EX.seqN ?_
 refine WC.seq ?_
 have hN2 := st2.fplt
 refine WC.drawnS (m := 15) (E := lookE [(1, fun v _ => v = .bool false)]) st2 (lookE_st (⟨fun _ _ _ _ _ _ _ h => h, trivial⟩)) mixed (by kernel_rfl) ?_
 refine DW.p rfl rfl rfl rfl rfl (fun _ hC => PV.ldA agg27 (Blk.range (As.gb hC.2.g0)) rfl rfl) <| ?_
 refine DW.e rfl rfl rfl rfl rfl (fun wx hC hF => OX.call cf56 rfl rfl ((pinput_calls (k := (⟨31, itoa i⟩ : Key))).mono ?_)) ?_
 ·
  skip
  rintro _ wy ⟨rfl, hy⟩
  exact ⟨_, rfl, ⟨Nat.le_trans hC.1 hy.size, hC.2.step hy⟩, hy.p0, _, rfl, rfl⟩
 rintro _ wz _ rfl
 refine DW.p rfl rfl rfl rfl rfl (fun _ hC => PV.mv rfl) <| DW.p rfl rfl rfl rfl rfl (fun _ hC => PV.mv rfl) <| DW.p rfl rfl rfl rfl rfl (fun _ hC => PV.nePN und99 rfl rfl) <| DW.p rfl rfl rfl rfl rfl (fun _ hC => PV.mv rfl) <| ?_
 refine DW.gsplit (t := 17) rfl (fun g17 => ?_) (fun g17 => ?_)
 ·
  skip
  exact absurd g17 (by first | (simp; done) | (simp; omega) | (simp_all; done) | (simp_all; omega))
 ·
  skip
  refine DW.no rfl rfl rfl <| DW.no rfl rfl rfl <| DW.no rfl rfl rfl <| DW.no rfl rfl rfl <| DW.no rfl rfl rfl <| DW.no rfl rfl rfl <| DW.no rfl rfl rfl <| DW.no rfl rfl rfl <| DW.no rfl rfl rfl <| DW.nil ?_
  rintro w3 ⟨hsz2, st3⟩ ⟨_, _⟩
  refine WL.no rfl rfl <| WL.p rfl rfl (PV.pickF rfl rfl rfl) <| WL.p rfl rfl (PV.pickF rfl rfl rfl) <| WL.p rfl rfl (PV.as rfl) <| WL.nil ?_
  refine EX.seqN ?_
  refine WC.ret ?_
  refine EX.ret1 rfl rfl ?_
  exact ⟨by first | rfl | simp, (St.cg st3)⟩
theorem pwwhy0_calls {i wb : Nat}  {D : WD} {w : World} (hW : Blk w wb 98 (D.cells (⟨0, [], []⟩ : Bas))) (hm : KM Key.val w D.m []) : Calls Tryz.prog 29 #[.pointer (some ⟨wb, 0, none⟩), (⟨31, itoa i⟩ : Key).val] w fun e w' => e = .returned (.agg #[.int .i64 1, .int .i64 0, .string ⟨#[]⟩]) ∧ Chg [] w w'  := by
 have hl2 : (mget ([] : List (Key × Value)) (⟨31, itoa i⟩ : Key)).getD (.pointer none) = .pointer none := rfl
 refine enter (args := [.pointer (some ⟨wb, 0, none⟩), (⟨31, itoa i⟩ : Key).val]) Tryz.func29 rfl Tryz.ntmps29 rfl ?_
 have st0 : St w (fun _ => False) (fun _ => False) w [] := St.start (by simp)
 refine WC.seq ?_
 refine WC.region ?_
 refine WL.go rfl (OX.box rfl rfl rfl fun b3 w1 nw3 hb3 => ?_)
 have st1 := st0.newB nw3 hb3
 refine WL.go rfl (OX.alloc zv76 rfl fun b4 w2 nw4 hb4 => ?_)
 have st2 := st1.newB nw4 hb4
 refine WL.nil ?_
 refine EX.seqN ?_
 refine WC.seq ?_
 have hN1 := st2.fplt
 refine WC.drawnS (m := 5) (E := lookE []) st2 (lookE_st (trivial)) mixed (by kernel_rfl) ?_
 refine DW.p rfl rfl rfl rfl rfl (fun _ hC => PV.mv rfl) <| DW.p rfl rfl rfl rfl rfl (fun _ hC => PV.nilc rfl) <| DW.p rfl rfl rfl rfl rfl (fun _ hC => PV.fa fa98_2 rfl) <| DW.p rfl rfl rfl rfl rfl (fun _ hC => PV.ld1 one96 (Blk.range (hW.ext (St.cg hC.2))) rfl rfl) <| DW.p rfl rfl rfl rfl rfl (fun _ hC => PV.ldA agg27 (Blk.range (As.gb hC.2.g1)) rfl rfl) <| DW.nil ?_
 rintro w3 ⟨hsz1, st3⟩ _
 refine WL.p rfl rfl (PV.lookD kk27 und96 zvv99 (hm.ext (St.cg st3)) (hl2) rfl rfl) <| WL.p rfl rfl (PV.as rfl) <| WL.nil ?_
 refine EX.seqN ?_
 refine WC.seq ?_
 refine WC.block ?_
 refine WC.seq ?_
 refine WC.region ?_
 refine WL.p rfl rfl (PV.mv rfl) <| WL.p rfl rfl (PV.ldA agg27 (Blk.range (As.gb st3.g1)) rfl rfl) <| ?_
 refine WL.go rfl (OX.call cf61 rfl rfl ((pwup0_calls (hW.ext (St.cg st3)) (hm.ext (St.cg st3))).mono ?_))
 rintro _ w4 ⟨rfl, s4⟩
 refine ⟨_, rfl, ?_⟩
 have st4 := st3.step s4
 refine WL.p rfl rfl (PV.as rfl) <| WL.nil ?_
 refine EX.seqN ?_
 refine WC.condF rfl ?_
 refine WC.seq ?_
 refine WC.region ?_
 refine WL.p rfl rfl (PV.mv rfl) <| WL.p rfl rfl (PV.eqPN und99 rfl rfl) <| WL.p rfl rfl (PV.as rfl) <| WL.nil ?_
 refine EX.seqN ?_
 refine WC.cond rfl (fun g19 => ?_) (fun g19 => ?_)
 ·
  skip
  refine WC.seq ?_
  refine WC.region ?_
  refine WL.p rfl rfl (PV.build' (us := _) bt76 rfl rfl rfl) <| ?_
  refine WL.go rfl (OX.stW sz76 (As.gb st4.g0) rfl rfl rfl rfl rfl fun w5 ss0 _ hs0 => ?_)
  have st5 := st4.updB ss0 hs0
  refine WL.nil ?_
  refine EX.seqN ?_
  refine WC.ret ?_
  refine EX.blkR ?_
  refine EX.thenR ?_
  refine EX.retC agg76 rfl rfl (Blk.range (As.gb st5.g0)) rfl ?_
  exact ⟨rfl, (St.cg st5)⟩
 ·
  skip
  exact absurd g19 (by first | (simp; done) | (simp; omega) | (simp_all; done) | (simp_all; omega))
theorem pwnew1_calls {i : Nat} {v : ByteArray} {ar a1 a2 : Option Addr} {r cr n1 e1 n2 e2 : Nat} {w : World} {M Z : Nat → Prop} (hst : St w M Z w []) (hii : Rd RR.inp 4 Z w a1 n1 e1 (⟨0, [], [rec1 i v]⟩ : Bas).inputs) (hr : Rd RR.rcd 8 Z w a2 n2 e2 (⟨0, [], [rec1 i v]⟩ : Bas).recs) : Calls Tryz.prog 21 #[.slice ar r cr, .agg ((⟨0, [], [rec1 i v]⟩ : Bas).row a1 n1 e1 a2 n2 e2).toArray] w fun e w' => ∃ (D : WD) (wb rb n c : Nat) (a : Option Addr) (Z' : Nat → Prop), e = .returned (.pointer (some ⟨wb, 0, none⟩)) ∧ Zle w.heap.size Z Z' ∧ St w M Z' w' [As.blk wb 98 (D.cells (⟨0, [], [rec1 i v]⟩ : Bas)), As.map Key.val D.m [((⟨31, itoa i⟩ : Key), .pointer (some ⟨rb, 0, none⟩))], As.blk rb 47 ((rec1 i v).row a n c)] := by
 refine enter (args := [.slice ar r cr, .agg ((⟨0, [], [rec1 i v]⟩ : Bas).row a1 n1 e1 a2 n2 e2).toArray]) Tryz.func21 rfl Tryz.ntmps21 rfl ?_
 have st0 := hst
 have st1 := st0.fact (As.mkro hii) (fun _ hx => hx)
 have st2 := st1.fact (As.mkro hr) (fun _ hx => hx)
 refine WC.seq ?_
 refine WC.region ?_
 refine WL.go rfl (OX.box rfl rfl rfl fun b3 w1 nw3 hb3 => ?_)
 have st3 := st2.newB nw3 hb3
 refine WL.p rfl rfl (PV.as rfl) <| WL.nil ?_
 refine EX.seqN ?_
 refine WC.seq ?_
 have hN1 : ∀ x : Nat, w1.heap.size ≤ x → w1.heap.size ≤ x := fun _ h => h
 refine WC.drawnG (m := 7) [] [2, 6] [1, 2, 4, 5, 6, 0, 3] [(3, .map)] st3 (Sub1.cons M0 <| Sub1.cons M1 <| Sub1.cons M2 <| Sub1.nil) mixed (by kernel_rfl) (by kernel_rfl) rfl ?_
 refine DG.p rfl rfl rfl rfl rfl rfl (fun wx Zx Rx hNx hSx hix => PV.ldA agg40 (Blk.range (As.gb (hSx.sv hix).g0)) rfl rfl) <| ?_
 refine DG.ch rfl rfl rfl rfl rfl rfl (fun w2 R2x hN2x st4 hsd2x => ?_)
 simp only [List.cons_append, List.nil_append] at st4
 have st5 := st4
 refine OX.call cf49 rfl rfl ((prevCopy_calls (x := (⟨0, [], [rec1 i v]⟩ : Bas)) st5.e0 (As.gr st5.g2) (As.gr st5.g1) (by simp) (by simp)).mono ?_)
 rintro _ w3 ⟨f1, f2, f3, f4, f5, f6, Z1, rfl, hZ1a, hst3⟩
 have st6 := St.leave (l0 := []) st5 hst3 hZ1a
 simp only [List.cons_append, List.nil_append] at st6
 have hgr := St.fresh0 hst3.p1
 have hsz1 := st5.size
 have hZ1 := hZ1a.le hsz1
 have hrn : f5 = 1 := ((As.gs st6.g1)).len
 subst hrn
 have st7 := st6.p1.frzS (by simp)
 have hZ2 := hZ1.trans (Zle.frz (F := fun x => x ∈ oblk f4) hgr) hsz1
 refine ⟨_, rfl, hst3.chg.size, _, rfl, _, _, _, st7, AppE.cons <| AppE.cons <| AppE.cons <| AppE.cons <| AppE.cons <| AppE.nil, Sub1.cons M2 <| Sub1.cons M3 <| Sub1.cons M4 <| Sub1.nil, ?_⟩
 refine DG.p rfl rfl rfl rfl rfl rfl (fun wx Zx Rx hNx hSx hix => PV.mv rfl) <| DG.p rfl rfl rfl rfl rfl rfl (fun wx Zx Rx hNx hSx hix => PV.ldA agg40 (Blk.range (As.gb (hSx.sv hix).g0)) rfl rfl) <| ?_
 refine DG.ch rfl rfl rfl rfl rfl rfl (fun w4 R6x hN6x st8 hsd6x => ?_)
 simp only [List.cons_append, List.nil_append] at st8
 have st9 := st8
 refine OX.call cf20 rfl rfl ((pfnew_calls (x := (⟨0, [], [rec1 i v]⟩ : Bas)) st9.e0).mono ?_)
 rintro _ w5 ⟨d1, d2, d3, rfl, hst5⟩
 have st10 := St.leave (l0 := []) st9 hst5 (Zle.refl _ _)
 simp only [List.cons_append, List.nil_append] at st10
 refine ⟨_, rfl, hst5.chg.size, _, rfl, _, _, _, st10, AppE.cons <| AppE.cons <| AppE.cons <| AppE.cons <| AppE.cons <| AppE.cons <| AppE.cons <| AppE.cons <| AppE.nil, Sub1.cons M5 <| Sub1.cons M6 <| Sub1.cons M7 <| Sub1.nil, ?_⟩
 refine DG.p rfl rfl rfl rfl rfl rfl (fun wx Zx Rx hNx hSx hix => PV.mv rfl) <| ?_
 refine DG.side (s := .map) rfl rfl rfl rfl rfl rfl (fun wx Zx Rx hNx hSx => OX.makeMap Key.val rfl fun b wy nw hb => ⟨nw.ext.size, _, rfl, ⟨b, rfl⟩, hSx.newM nw hb⟩) ?_
 rintro _ ⟨b11, rfl⟩
 refine DG.nil ?_
 intro w6 hsz1 st11
 simp only [List.map_cons, List.map_nil, List.cons_append, List.nil_append, SdK.it] at st11
 refine WL.p rfl rfl (PV.build' (us := (WD.cells ⟨ar, f1, f4, r, cr, f2, f3, 1, f6, b11, d1⟩ (⟨0, [], [rec1 i v]⟩ : Bas))) bt98 rfl rfl rfl) <| ?_
 refine WL.go rfl (OX.box rfl rfl rfl fun b16 w7 nw16 hb16 => ?_)
 have st12 := st11.newB nw16 hb16
 refine WL.p rfl rfl (PV.as rfl) <| WL.nil (EX.np ?_)
 refine EX.seqN ?_
 refine WC.seq ?_
 refine WC.seq ?_
 refine WC.region ?_
 refine WL.p rfl rfl (PV.mv rfl) <| WL.p rfl rfl (PV.nilc rfl) <| WL.p rfl rfl (PV.fa fa98_1 rfl) <| WL.p rfl rfl (PV.fa fa40_2 rfl) <| WL.p rfl rfl (PV.ld1 (j := 3) one38 (Blk.range (As.gb st12.g0)) rfl rfl) <| WL.p rfl rfl (PV.len' sl38 rfl) <| WL.p rfl rfl (PV.mv rfl) <| WL.nil ?_
 refine EX.seqN ?_
 refine WC.block ?_
 refine WC.loopN 2 ?_
 refine LoopN.s ?_
 refine WC.seq ?_
 refine WC.region ?_
 refine WL.p rfl rfl (PV.lss rfl rfl) <| WL.nil ?_
 refine EX.seqN ?_
 refine WC.seq ?_
 refine WC.cond rfl (fun g24 => ?_) (fun g24 => ?_)
 ·
  skip
  refine WC.skip ?_
  refine EX.seqN ?_
  refine WC.seq ?_
  refine WC.block ?_
  refine WC.seq ?_
  obtain ⟨b_x1, o_x1, r_x1, ha_x1, hl_x1, hR_x1, hr_x1, hz_x1⟩ := Rd.at (As.gr st12.g5) (Nat.zero_lt_one)
  obtain ⟨q1, q2, q3, rfl, hkq, hk4⟩ := hR_x1
  have st13 := st12.fact (As.mkrg hz_x1 (st12.zlt _ hz_x1) hr_x1) (fun _ hx => hx)
  refine WC.region ?_
  refine WL.p rfl rfl (PV.ixS sl38 (i := 0) ha_x1 rfl rfl Nat.zero_lt_one) <| WL.p rfl rfl (PV.ldA agg47 (As.grg st13.g0) rfl rfl) <| ?_
  refine WL.go rfl (OX.alloc zv47 rfl fun b7 w8 nw7 hb7 => ?_)
  have st14 := st13.newB nw7 hb7
  refine WL.go rfl (OX.stW sz47 (As.gb st14.g0) rfl rfl rfl rfl rfl fun w9 ss0 _ hs0 => ?_)
  have st15 := st14.updB ss0 hs0
  refine WL.nil ?_
  refine EX.seqN ?_
  have hN5 := st15.fplt
  refine WC.drawnS (m := 6) (E := lookE []) st15 (lookE_st (trivial)) mixed (by kernel_rfl) ?_
  refine DW.p rfl rfl rfl rfl rfl (fun _ hC => PV.mv rfl) <| DW.p rfl rfl rfl rfl rfl (fun _ hC => PV.nilc rfl) <| DW.p rfl rfl rfl rfl rfl (fun _ hC => PV.fa fa98_2 rfl) <| DW.p rfl rfl rfl rfl rfl (fun _ hC => PV.ld1 one96 (Blk.range (As.gb hC.2.g2)) rfl rfl) <| DW.p rfl rfl rfl rfl rfl (fun _ hC => PV.fa fa47_0 rfl) <| DW.p rfl rfl rfl rfl rfl (fun _ hC => PV.ldM agg27 (Blk.range (As.gb hC.2.g0)) rfl rfl) <| DW.nil ?_
  rintro w10 ⟨hsz5, st16⟩ _
  refine WL.go rfl (OX.put kk27 und96 (As.gm st16.g3) rfl rfl rfl fun w11 smp1 hmp1 => ?_)
  have st17 := st16.p3.updM smp1 hmp1
  refine WL.nil ?_
  refine EX.blkN ?_
  refine EX.seqN ?_
  refine WC.region ?_
  refine WL.p rfl rfl (PV.add rfl rfl (by omega) (by omega)) <| WL.p rfl rfl (PV.mv rfl) <| WL.nil ?_
  refine EX.againN ?_
  refine LoopN.s ?_
  refine WC.seq ?_
  refine WC.region ?_
  refine WL.p rfl rfl (PV.lss rfl rfl) <| WL.nil ?_
  refine EX.seqN ?_
  refine WC.seq ?_
  refine WC.cond rfl (fun g24 => ?_) (fun g24 => ?_)
  ·
   skip
   exact absurd g24 (by first | (simp; done) | (simp; omega) | (simp_all; done) | (simp_all; omega))
  ·
   skip
   refine WC.exit ?_
   refine EX.thenX ?_
   refine EX.thenX ?_
   refine EX.blkX ?_
   refine EX.seqN ?_
   refine WC.seq ?_
   refine WC.region ?_
   refine WL.p rfl rfl (PV.mv rfl) <| WL.p rfl rfl (PV.as rfl) <| WL.nil ?_
   refine EX.seqN ?_
   refine WC.ret ?_
   refine EX.ret1 rfl rfl ?_
   exact ⟨⟨ar, f1, f4, r, cr, f2, f3, 1, f6, b11, d1⟩, b16, b7, q2, q3, q1, _, rfl, hZ2, st17.p2.drop.p3.drop.p3.drop.p3.drop.p3.drop.p3.drop.p3.drop.p3.drop.p3.drop.p2⟩
 ·
  skip
  exact absurd g24 (by first | (simp; done) | (simp; omega) | (simp_all; done) | (simp_all; omega))
theorem pwnew0_calls  {ar a1 a2 : Option Addr} {r cr n1 e1 n2 e2 : Nat} {w : World} {M Z : Nat → Prop} (hst : St w M Z w []) (hii : Rd RR.inp 4 Z w a1 n1 e1 (⟨0, [], []⟩ : Bas).inputs) (hr : Rd RR.rcd 8 Z w a2 n2 e2 (⟨0, [], []⟩ : Bas).recs) : Calls Tryz.prog 21 #[.slice ar r cr, .agg ((⟨0, [], []⟩ : Bas).row a1 n1 e1 a2 n2 e2).toArray] w fun e w' => ∃ (D : WD) (wb : Nat) (Z' : Nat → Prop), e = .returned (.pointer (some ⟨wb, 0, none⟩)) ∧ Zle w.heap.size Z Z' ∧ St w M Z' w' [As.blk wb 98 (D.cells (⟨0, [], []⟩ : Bas)), As.map Key.val D.m []] := by
 refine enter (args := [.slice ar r cr, .agg ((⟨0, [], []⟩ : Bas).row a1 n1 e1 a2 n2 e2).toArray]) Tryz.func21 rfl Tryz.ntmps21 rfl ?_
 have st0 := hst
 have st1 := st0.fact (As.mkro hii) (fun _ hx => hx)
 have st2 := st1.fact (As.mkro hr) (fun _ hx => hx)
 refine WC.seq ?_
 refine WC.region ?_
 refine WL.go rfl (OX.box rfl rfl rfl fun b3 w1 nw3 hb3 => ?_)
 have st3 := st2.newB nw3 hb3
 refine WL.p rfl rfl (PV.as rfl) <| WL.nil ?_
 refine EX.seqN ?_
 refine WC.seq ?_
 have hN1 : ∀ x : Nat, w1.heap.size ≤ x → w1.heap.size ≤ x := fun _ h => h
 refine WC.drawnG (m := 7) [] [2, 6] [1, 2, 4, 5, 6, 0, 3] [(3, .map)] st3 (Sub1.cons M0 <| Sub1.cons M1 <| Sub1.cons M2 <| Sub1.nil) mixed (by kernel_rfl) (by kernel_rfl) rfl ?_
 refine DG.p rfl rfl rfl rfl rfl rfl (fun wx Zx Rx hNx hSx hix => PV.ldA agg40 (Blk.range (As.gb (hSx.sv hix).g0)) rfl rfl) <| ?_
 refine DG.ch rfl rfl rfl rfl rfl rfl (fun w2 R2x hN2x st4 hsd2x => ?_)
 simp only [List.cons_append, List.nil_append] at st4
 have st5 := st4
 refine OX.call cf49 rfl rfl ((prevCopy_calls (x := (⟨0, [], []⟩ : Bas)) st5.e0 (As.gr st5.g2) (As.gr st5.g1) (by simp) (by simp)).mono ?_)
 rintro _ w3 ⟨f1, f2, f3, f4, f5, f6, Z1, rfl, hZ1a, hst3⟩
 have st6 := St.leave (l0 := []) st5 hst3 hZ1a
 simp only [List.cons_append, List.nil_append] at st6
 have hgr := St.fresh0 hst3.p1
 have hsz1 := st5.size
 have hZ1 := hZ1a.le hsz1
 have hrn : f5 = 0 := ((As.gs st6.g1)).len
 subst hrn
 have st7 := st6.p1.frzS (by simp)
 have hZ2 := hZ1.trans (Zle.frz (F := fun x => x ∈ oblk f4) hgr) hsz1
 refine ⟨_, rfl, hst3.chg.size, _, rfl, _, _, _, st7, AppE.cons <| AppE.cons <| AppE.cons <| AppE.cons <| AppE.cons <| AppE.nil, Sub1.cons M2 <| Sub1.cons M3 <| Sub1.cons M4 <| Sub1.nil, ?_⟩
 refine DG.p rfl rfl rfl rfl rfl rfl (fun wx Zx Rx hNx hSx hix => PV.mv rfl) <| DG.p rfl rfl rfl rfl rfl rfl (fun wx Zx Rx hNx hSx hix => PV.ldA agg40 (Blk.range (As.gb (hSx.sv hix).g0)) rfl rfl) <| ?_
 refine DG.ch rfl rfl rfl rfl rfl rfl (fun w4 R6x hN6x st8 hsd6x => ?_)
 simp only [List.cons_append, List.nil_append] at st8
 have st9 := st8
 refine OX.call cf20 rfl rfl ((pfnew_calls (x := (⟨0, [], []⟩ : Bas)) st9.e0).mono ?_)
 rintro _ w5 ⟨d1, d2, d3, rfl, hst5⟩
 have st10 := St.leave (l0 := []) st9 hst5 (Zle.refl _ _)
 simp only [List.cons_append, List.nil_append] at st10
 refine ⟨_, rfl, hst5.chg.size, _, rfl, _, _, _, st10, AppE.cons <| AppE.cons <| AppE.cons <| AppE.cons <| AppE.cons <| AppE.cons <| AppE.cons <| AppE.cons <| AppE.nil, Sub1.cons M5 <| Sub1.cons M6 <| Sub1.cons M7 <| Sub1.nil, ?_⟩
 refine DG.p rfl rfl rfl rfl rfl rfl (fun wx Zx Rx hNx hSx hix => PV.mv rfl) <| ?_
 refine DG.side (s := .map) rfl rfl rfl rfl rfl rfl (fun wx Zx Rx hNx hSx => OX.makeMap Key.val rfl fun b wy nw hb => ⟨nw.ext.size, _, rfl, ⟨b, rfl⟩, hSx.newM nw hb⟩) ?_
 rintro _ ⟨b11, rfl⟩
 refine DG.nil ?_
 intro w6 hsz1 st11
 simp only [List.map_cons, List.map_nil, List.cons_append, List.nil_append, SdK.it] at st11
 refine WL.p rfl rfl (PV.build' (us := (WD.cells ⟨ar, f1, f4, r, cr, f2, f3, 0, f6, b11, d1⟩ (⟨0, [], []⟩ : Bas))) bt98 rfl rfl rfl) <| ?_
 refine WL.go rfl (OX.box rfl rfl rfl fun b16 w7 nw16 hb16 => ?_)
 have st12 := st11.newB nw16 hb16
 refine WL.p rfl rfl (PV.as rfl) <| WL.nil (EX.np ?_)
 refine EX.seqN ?_
 refine WC.seq ?_
 refine WC.seq ?_
 refine WC.region ?_
 refine WL.p rfl rfl (PV.mv rfl) <| WL.p rfl rfl (PV.nilc rfl) <| WL.p rfl rfl (PV.fa fa98_1 rfl) <| WL.p rfl rfl (PV.fa fa40_2 rfl) <| WL.p rfl rfl (PV.ld1 (j := 3) one38 (Blk.range (As.gb st12.g0)) rfl rfl) <| WL.p rfl rfl (PV.len' sl38 rfl) <| WL.p rfl rfl (PV.mv rfl) <| WL.nil ?_
 refine EX.seqN ?_
 refine WC.block ?_
 refine WC.loopN 1 ?_
 refine LoopN.s ?_
 refine WC.seq ?_
 refine WC.region ?_
 refine WL.p rfl rfl (PV.lss rfl rfl) <| WL.nil ?_
 refine EX.seqN ?_
 refine WC.seq ?_
 refine WC.cond rfl (fun g24 => ?_) (fun g24 => ?_)
 ·
  skip
  exact absurd g24 (by first | (simp; done) | (simp; omega) | (simp_all; done) | (simp_all; omega))
 ·
  skip
  refine WC.exit ?_
  refine EX.thenX ?_
  refine EX.thenX ?_
  refine EX.blkX ?_
  refine EX.seqN ?_
  refine WC.seq ?_
  refine WC.region ?_
  refine WL.p rfl rfl (PV.mv rfl) <| WL.p rfl rfl (PV.as rfl) <| WL.nil ?_
  refine EX.seqN ?_
  refine WC.ret ?_
  refine EX.ret1 rfl rfl ?_
  exact ⟨⟨ar, f1, f4, r, cr, f2, f3, 0, f6, b11, d1⟩, b16, _, rfl, hZ2, st12.p2.drop.p2.drop.p2.drop.p2.drop.p2.drop.p2.drop.p2.drop.p2.drop⟩
end Go.Rc

