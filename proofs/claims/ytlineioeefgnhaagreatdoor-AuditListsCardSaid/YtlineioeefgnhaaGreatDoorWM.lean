/- Walks over the program, part WM. Conditions: as each theorem says. -/
import Derived.Test.YtlineioeefgnhaaGreatDoorFacts
import Derived.Test.YtlineioeefgnhaaGreatDoorWL
import Derived.Test.YtlineioeefgnhaaGreatDoorBb
import Derived.Test.YtlineioeefgnhaaGreatDoorBc
set_option linter.unusedVariables false
set_option linter.unusedSimpArgs false
set_option linter.unusedSectionVars false
namespace Go.Rc
open Go Go.Proofs
set_option maxHeartbeats 400000
set_option maxHeartbeats 1600000 in
theorem request_calls {rules : List Rule} {goals : List Key} {x : Bas} {ar ag a1 a2 : Option Addr} {r cr g eg n1 e1 n2 e2 f : Nat} {s' : ES} {w : World} {M Z : Nat → Prop} (hR : rulesOk rules) (hst : St w M Z w []) (hu : Rd RR.rule 4 Z w ar r cr rules) (hi : Rd RR.inp 4 Z w a1 n1 e1 x.inputs) (hr : Rd RR.rcd 8 Z w a2 n2 e2 x.recs) (hg : Rd RR.key 2 Z w ag g eg goals) (ht : Tab Tryz.prog Z w) (hce : checkE rules x goals = 0) (hgd : Good rules x.inputs ⟨x, [], [], 0⟩) (hk : ∀ k ∈ goals, Knd rules k) (hil : x.inputs.length ≤ 1000000)
 (hev0 : upAllV rules (valOf rules x.inputs) f ⟨x, [], [], 0⟩ goals = some s') (hran : s'.ran.length ≤ 1000000) : Calls Tryz.prog 7 #[.slice ar r cr, .agg (x.row a1 n1 e1 a2 n2 e2).toArray, .slice ag g eg] w fun e w' => ∃ a1' n1' e1' a2' n2' e2' ag' g' eg' Z', e = .returned (.tuple #[.agg ((s'.base x).row a1' n1' e1' a2' n2' e2').toArray, .slice ag' g' eg', .int .i64 s'.e]) ∧ Zle w.heap.size Z Z' ∧ Rd RR.inp 4 Z' w' a1' n1' e1' (s'.base x).inputs ∧ Rd RR.rcd 8 Z' w' a2' n2' e2' (s'.base x).recs ∧ St w M Z' w' [As.os RR.key 27 2 ag' g' eg' s'.list] := by
 have hgn := hg.len
 have hgl := hg.le
 have h6 : x.recs.length ≤ 1000000 := by have := hgd.len; simp only at this; omega
 refine enter (args := [.slice ar r cr, .agg (x.row a1 n1 e1 a2 n2 e2).toArray, .slice ag g eg]) Tryz.func7 rfl Tryz.ntmps7 rfl ?_
 have st0 := St.rb hst
 have st1 := st0.fact (As.mkro hu) (fun _ hx => hx)
 have st2 := st1.fact (As.mkro hi) (fun _ hx => hx)
 have st3 := st2.fact (As.mkro hr) (fun _ hx => hx)
 have st4 := st3.fact (As.mkro hg) (fun _ hx => hx)
 have st5 := st4.fact (B := As.fz (FZ.tab Tryz.prog)) ht (fun _ hx => hx)
 refine WC.seq ?_
 refine WC.region ?_
 refine WL.go rfl (OX.box rfl rfl rfl fun b4 w1 nw4 hb4 => ?_)
 have st6 := st5.newB nw4 hb4
 refine WL.go rfl (OX.alloc zv40 rfl fun b6 w2 nw6 hb6 => ?_)
 have st7 := st6.newB nw6 hb6
 refine WL.p rfl rfl (PV.as rfl) <| WL.p rfl rfl (PV.as rfl) <| WL.nil ?_
 refine EX.seqN ?_
 refine WC.seq ?_
 refine WC.region ?_
 refine WL.p rfl rfl (PV.ldA agg40 (Blk.range (As.gb st7.g1)) rfl rfl) <| ?_
 have st8 := st7
 refine WL.go rfl (OX.call cf9 rfl rfl ((copyB_calls st8.e0 (As.gr st8.g5) (As.gr st8.g4) h6 hil).mono ?_))
 rintro _ w3 ⟨f1, f2, f3, f4, f5, f6, Z1, rfl, hZ1a, hst3⟩
 refine ⟨_, rfl, ?_⟩
 have st9 := St.leave (l0 := []) st8 hst3 hZ1a
 simp only [List.cons_append, List.nil_append] at st9
 have hgi := St.fresh0 hst3
 have hgr := St.fresh0 hst3.p1
 have hsz1 := st8.size
 have hZ1 := hZ1a.le hsz1
 have hge_ri := St.fresh st9
 have st10 := st9.frzS (by omega)
 have hge_rc := St.fresh st10.p1
 have st11 := st10.p1.frzS (by omega)
 have hZ2 := (hZ1.trans (Zle.frz (F := fun x => x ∈ oblk f1) hgi) hsz1).trans (Zle.frz (F := fun x => x ∈ oblk f4) hgr) hsz1
 refine WL.go rfl (OX.stW sz40 (As.gb st11.g3) rfl rfl rfl rfl rfl fun w4 ss0 _ hs0 => ?_)
 have st12 := st11.p3.updB ss0 hs0
 refine WL.nil ?_
 refine EX.seqN ?_
 refine WC.seq ?_
 refine WC.seq ?_
 refine WC.region ?_
 refine WL.p rfl rfl (PV.mv rfl) <| WL.p rfl rfl (PV.ldA agg40 (Blk.range (As.gb st12.g0)) rfl rfl) <| WL.p rfl rfl (PV.mv rfl) <| ?_
 refine WL.go rfl (OX.call cf14 rfl rfl ((check30_calls (As.gr st12.g8) (As.gr st12.g2) (As.gr st12.g1) (As.gr st12.g5)).mono ?_))
 rintro _ w5 ⟨rfl, s5⟩
 refine ⟨_, rfl, ?_⟩
 rw [hce]
 have st13 := st12.step s5
 refine WL.p rfl rfl (PV.as rfl) <| WL.nil ?_
 refine EX.seqN ?_
 refine WC.seq ?_
 refine WC.region ?_
 refine WL.p rfl rfl (PV.mv rfl) <| WL.p rfl rfl (PV.nei rfl rfl) <| WL.nil ?_
 refine EX.seqN ?_
 refine WC.cond rfl (fun g20 => ?_) (fun g20 => ?_)
 ·
  skip
  exact absurd g20 (by simp)
 ·
  skip
  refine WC.skip ?_
  refine EX.seqN ?_
  refine WC.seq ?_
  have hN5 : ∀ x : Nat, w5.heap.size ≤ x → w5.heap.size ≤ x := fun _ h => h
  refine WC.drawnG (m := 6) [] [2, 4] [0, 1, 2, 3, 4, 5] [(5, .map)] st13 (Sub1.cons M0 <| Sub1.cons M1 <| Sub1.cons M2 <| Sub1.cons M3 <| Sub1.cons M4 <| Sub1.cons M5 <| Sub1.cons M6 <| Sub1.cons M7 <| Sub1.cons M8 <| Sub1.nil) mixed (by kernel_rfl) (by kernel_rfl) rfl ?_
  refine DG.p rfl rfl rfl rfl rfl rfl (fun wx Zx Rx hNx hSx hix => PV.mv rfl) <| DG.p rfl rfl rfl rfl rfl rfl (fun wx Zx Rx hNx hSx hix => PV.ldA agg40 (Blk.range (As.gb (hSx.sv hix).g0)) rfl rfl) <| ?_
  refine DG.ch rfl rfl rfl rfl rfl rfl (fun w6 R2x hN2x st14 hsd2x => ?_)
  simp only [List.cons_append, List.nil_append] at st14
  have st15 := st14
  refine OX.call cf15 rfl rfl ((newS_calls (x := x) st15.e0).mono ?_)
  rintro _ w7 ⟨d1, d2, d3, rfl, hst7⟩
  have st16 := St.leave (l0 := []) st15 hst7 (Zle.refl _ _)
  simp only [List.cons_append, List.nil_append] at st16
  refine ⟨_, rfl, hst7.chg.size, _, rfl, _, _, _, st16, AppE.cons <| AppE.cons <| AppE.cons <| AppE.cons <| AppE.cons <| AppE.cons <| AppE.cons <| AppE.cons <| AppE.cons <| AppE.cons <| AppE.cons <| AppE.cons <| AppE.nil, Sub1.cons M3 <| Sub1.cons M4 <| Sub1.cons M5 <| Sub1.cons M6 <| Sub1.cons M7 <| Sub1.cons M8 <| Sub1.cons M9 <| Sub1.cons M10 <| Sub1.cons M11 <| Sub1.nil, ?_⟩
  refine DG.p rfl rfl rfl rfl rfl rfl (fun wx Zx Rx hNx hSx hix => PV.ldA agg40 (Blk.range (As.gb (hSx.sv hix).g0)) rfl rfl) <| ?_
  refine DG.ch rfl rfl rfl rfl rfl rfl (fun w8 R4x hN4x st17 hsd4x => ?_)
  simp only [List.cons_append, List.nil_append] at st17
  have st18 := st17
  refine OX.call cf9 rfl rfl ((copyB_calls st18.e0 (As.gr st18.g5) (As.gr st18.g4) h6 hil).mono ?_)
  rintro _ w9 ⟨q1, q2, q3, q4, q5, q6, Z3, rfl, hZ3a, hst9⟩
  have st19 := St.leave (l0 := []) st18 hst9 hZ3a
  simp only [List.cons_append, List.nil_append] at st19
  have hgqi := St.fresh0 hst9
  have hgqr := St.fresh0 hst9.p1
  have hsz3 := st18.size
  have hZ3 := hZ2.trans hZ3a hsz3
  have hge_qi := St.fresh st19
  have st20 := st19.frzS (by omega)
  have hge_qc := St.fresh st20.p1
  have st21 := st20.p1.frzS (by omega)
  have hZ4 := (hZ3.trans (Zle.frz (F := fun x => x ∈ oblk q1) hgqi) hsz3).trans (Zle.frz (F := fun x => x ∈ oblk q4) hgqr) hsz3
  refine ⟨_, rfl, hst9.chg.size, _, rfl, _, _, _, st21, AppE.cons <| AppE.cons <| AppE.cons <| AppE.cons <| AppE.cons <| AppE.cons <| AppE.cons <| AppE.cons <| AppE.cons <| AppE.cons <| AppE.cons <| AppE.cons <| AppE.cons <| AppE.cons <| AppE.nil, Sub1.cons M5 <| Sub1.cons M6 <| Sub1.cons M7 <| Sub1.cons M8 <| Sub1.cons M9 <| Sub1.cons M10 <| Sub1.cons M11 <| Sub1.cons M12 <| Sub1.cons M13 <| Sub1.nil, ?_⟩
  refine DG.side (s := .map) rfl rfl rfl rfl rfl rfl (fun wx Zx Rx hNx hSx => OX.makeMap Key.val rfl fun b wy nw hb => ⟨nw.ext.size, _, rfl, ⟨b, rfl⟩, hSx.newM nw hb⟩) ?_
  rintro _ ⟨b28, rfl⟩
  refine DG.nil ?_
  intro w10 hsz5 st22
  simp only [List.map_cons, List.map_nil, List.cons_append, List.nil_append, SdK.it] at st22
  refine WL.p rfl rfl (PV.build' (us := (EA.cells ⟨q1, q4, none, q2, q3, q5, q6, 0, 0⟩ d1 b28 ⟨x, [], [], 0⟩)) bt59 rfl rfl rfl) <| ?_
  refine WL.go rfl (OX.box rfl rfl rfl fun b30 w11 nw30 hb30 => ?_)
  have st23 := st22.newB nw30 hb30
  refine WL.p rfl rfl (PV.as rfl) <| WL.nil (EX.np ?_)
  have st24 := st23.p5.p5
  have st25 := st24.join (C := As.solv Tryz.prog 87 rules x ⟨ar, f1, f4, r, cr, f2, f3, f5, f6, d2, d3, d1⟩) ⟨st24.neBM, (As.gb st24.g0), ⟨[], MemoOk.nil, (As.gm st24.g1)⟩, ⟨(As.gr st24.g15), (As.gr st24.g9), (As.gr st24.g8), (As.gf st24.g11)⟩⟩ (fun y h => h)
  have st26 := st25.newN RR.key 27 2
  refine EX.seqN ?_
  refine WC.seq ?_
  refine WC.seq ?_
  refine WC.region ?_
  refine WL.p rfl rfl (PV.mv rfl) <| WL.p rfl rfl (PV.len' sl25 rfl) <| WL.p rfl rfl (PV.mv rfl) <| WL.nil ?_
  refine EX.seqN ?_
  refine WC.block ?_
  refine WC.loopS (σ := Nat × ES × EA × (Nat → Prop)) (kvs := fun (j, s1, E1, Z5) => [(4, .pointer (some ⟨b4, 0, none⟩)), (6, .pointer (some ⟨b6, 0, none⟩)), (10, .pointer (some ⟨b30, 0, none⟩)), (31, .slice ag g eg), (32, .int .i64 (g : Int)), (33, .int .i64 (j : Int))]) (F := fun (j, s1, E1, Z5) => [As.blk b30 59 (EA.cells E1 d1 b28 s1), As.map Key.val b28 s1.busy, As.os RR.key 27 2 E1.a3 E1.n3 E1.c3 s1.ran, As.ro RR.inp 4 E1.a1 E1.n1 E1.c1 s1.b.inputs, As.ro RR.rcd 8 E1.a2 E1.n2 E1.c2 s1.b.recs]) (I := fun (j, s1, E1, Z5) => (upAllV rules (valOf rules x.inputs) f s1 (goals.drop j) = some s') ∧ (Good rules x.inputs s1) ∧ (j ≤ g) ∧ (Zle w.heap.size Z Z5) ∧ True) (μ := fun (j, s1, E1, Z5) => g - j) (Zf := fun (j, s1, E1, Z5) => Z5) (0, ⟨x, [], [], 0⟩, ⟨q1, q4, none, q2, q3, q5, q6, 0, 0⟩, _) (st26.p4.p5.p2.p5.p5) (Sub.cons rfl <| Sub.cons rfl <| Sub.cons rfl <| Sub.cons rfl <| Sub.cons rfl <| Sub.consV rfl (by first | rfl | (simp; done) | (congr 1; omega) | (simp only []; congr 1; omega)) <| Sub.nil) (⟨hev0, hgd, Nat.zero_le _, hZ4, trivial⟩) ?_
  rintro ⟨j, s1, E1, Z5⟩ w12 st27 ⟨hev, hg1, hj, hZ5, _⟩
  simp only [List.cons_append, List.nil_append] at st27 hev hg1 hj hZ5 ⊢
  refine WC.seq ?_
  refine WC.region ?_
  refine WL.p rfl rfl (PV.lss rfl rfl) <| WL.nil ?_
  refine EX.seqN ?_
  refine WC.seq ?_
  refine WC.cond rfl (fun g34 => ?_) (fun g34 => ?_)
  ·
   skip
   simp at g34
   have hj2 : j < goals.length := by omega
   rw [List.drop_eq_getElem_cons hj2] at hev
   simp only [upAllV] at hev
   obtain ⟨t, hut, hev2⟩ := Option.bind_eq_some_iff.1 hev
   have hkj := hk goals[j] (List.getElem_mem hj2)
   have hgt := (engine_good (val := valOf rules x.inputs) hR f).1 _ _ _ hut hg1 hkj
   have hgc := upAll_good hR hev2 hgt.1 (fun k hk2 => hk k (List.mem_of_mem_drop hk2))
   refine WC.skip ?_
   refine EX.seqN ?_
   refine WC.seq ?_
   refine WC.block ?_
   refine WC.seq ?_
   obtain ⟨b_x1, o_x1, r_x1, ha_x1, hl_x1, hR_x1, hr_x1, hz_x1⟩ := Rd.at (As.gr st27.g12) hj2
   have hR_x1 := RR.flat_eq hR_x1
   subst hR_x1
   have st28 := st27.fact (As.mkrg hz_x1 (st27.zlt _ hz_x1) hr_x1) (fun _ hx => hx)
   refine WC.region ?_
   refine WL.p rfl rfl (PV.ixS sl25 ha_x1 rfl rfl (by omega)) <| WL.p rfl rfl (PV.ldA agg27 (As.grg st28.g0) rfl rfl) <| ?_
   refine WL.go rfl (OX.alloc zv27 rfl fun b12 w13 nw12 hb12 => ?_)
   have st29 := st28.newB nw12 hb12
   refine WL.go rfl (OX.stW sz27 (As.gb st29.g0) rfl rfl rfl rfl rfl fun w14 ss1 _ hs1 => ?_)
   have st30 := st29.updB ss1 hs1
   refine WL.nil ?_
   refine EX.seqN ?_
   refine WC.region ?_
   refine WL.p rfl rfl (PV.mv rfl) <| WL.p rfl rfl (PV.ldA agg27 (Blk.range (As.gb st30.g0)) rfl rfl) <| ?_
   have st31 := st30.p4.p4.p7.p5
   refine WL.go rfl (OX.call cf16 rfl rfl ((up_all (D := ⟨ar, f1, f4, r, cr, f2, f3, f5, f6, d2, d3, d1⟩) hR hil f _ _ _ _ _ _ _ st31.e4 (As.gr st31.g6) (As.gr st31.g7) hg1 hkj hut (by have := hgc.2.ran; omega)).mono ?_))
   rintro _ w15 ⟨E2, Z6, rfl, hZ6a, hi6, hr6, hst15⟩
   refine ⟨_, rfl, ?_⟩
   have st32 := St.leave (l0 := [_, _, _, _]) st31 hst15 hZ6a
   simp only [List.cons_append, List.nil_append] at st32
   have hZ6 := hZ5.trans hZ6a st31.size
   have st33 := st32.fact (As.mkro (hi6)) (fun _ hx => hx)
   have st34 := st33.fact (As.mkro (hr6)) (fun _ hx => hx)
   have st35 := st34.p8.drop
   have st36 := st35.p8.drop
   refine WL.nil ?_
   refine EX.blkN ?_
   refine EX.seqN ?_
   refine WC.region ?_
   refine WL.p rfl rfl (PV.add rfl rfl (by omega) (by omega)) <| WL.p rfl rfl (PV.mv rfl) <| WL.nil ?_
   refine EX.again (j + 1, t, E2, Z6) (Sub.cons rfl <| Sub.cons rfl <| Sub.cons rfl <| Sub.cons rfl <| Sub.cons rfl <| Sub.consV rfl (by first | rfl | (simp; done) | (congr 1; omega) | (simp only []; congr 1; omega)) <| Sub.nil) ⟨st36.p6.drop.p6.drop.p1.p5.p5.p4, ⟨hev2, hgt.1, by omega, hZ6, trivial⟩⟩ (by first | (simp only []; omega) | omega)
  ·
   skip
   simp at g34
   rw [List.drop_eq_nil_of_le (by omega)] at hev
   simp only [upAllV, Option.some.injEq] at hev
   subst hev
   refine WC.exit ?_
   refine EX.thenX ?_
   refine EX.thenX ?_
   refine EX.blkX ?_
   refine EX.seqN ?_
   refine WC.seq ?_
   refine WC.seq ?_
   refine WC.region ?_
   refine WL.p rfl rfl (PV.mv rfl) <| WL.p rfl rfl (PV.nilc rfl) <| WL.p rfl rfl (PV.fa fa59_4 rfl) <| WL.p rfl rfl (PV.ld1 one41 (Blk.range (As.gb st27.g0)) rfl rfl) <| WL.p rfl rfl (PV.nei rfl rfl) <| WL.nil ?_
   refine EX.seqN ?_
   refine WC.cond rfl (fun g45 => ?_) (fun g45 => ?_)
   ·
    skip
    simp at g45
    have st28 := st27.newN RR.key 27 2
    refine WC.seq ?_
    have hN12 : ∀ x : Nat, w12.heap.size ≤ x → w12.heap.size ≤ x := fun _ h => h
    refine WC.drawnG (m := 7) [] [5] [0, 5, 1, 2, 3, 4, 6] [] st28 (Sub1.cons M0 <| Sub1.cons M1 <| Sub1.cons M2 <| Sub1.cons M3 <| Sub1.cons M4 <| Sub1.cons M5 <| Sub1.cons M6 <| Sub1.cons M7 <| Sub1.cons M8 <| Sub1.cons M9 <| Sub1.cons M10 <| Sub1.cons M12 <| Sub1.cons M13 <| Sub1.cons M14 <| Sub1.cons M15 <| Sub1.cons M16 <| Sub1.nil) mixed (by kernel_rfl) (by kernel_rfl) rfl ?_
    refine DG.p rfl rfl rfl rfl rfl rfl (fun wx Zx Rx hNx hSx hix => PV.ldA agg40 (Blk.range (As.gb (hSx.sv hix).g8)) rfl rfl) <| ?_
    refine DG.cs rfl rfl rfl rfl rfl (fun w13 R5x hN5x st29 hsd5x => ?_)
    simp only [List.cons_append, List.nil_append] at st29
    refine OX.stW sz40 (As.gb st29.g11) rfl rfl rfl rfl rfl fun w14 ss2 _ hs2 => ?_
    have st30 := st29.p11.updB ss2 hs2
    refine ⟨ss2.size, rfl, _, _, _, st30, AppE.cons <| AppE.cons <| AppE.cons <| AppE.cons <| AppE.cons <| AppE.cons <| AppE.cons <| AppE.cons <| AppE.cons <| AppE.cons <| AppE.cons <| AppE.cons <| AppE.cons <| AppE.cons <| AppE.cons <| AppE.cons <| AppE.cons <| AppE.nil, Sub1.cons M1 <| Sub1.cons M2 <| Sub1.cons M3 <| Sub1.cons M4 <| Sub1.cons M5 <| Sub1.cons M6 <| Sub1.cons M7 <| Sub1.cons M8 <| Sub1.cons M9 <| Sub1.cons M10 <| Sub1.cons M11 <| Sub1.cons M12 <| Sub1.cons M13 <| Sub1.cons M14 <| Sub1.cons M15 <| Sub1.cons M16 <| Sub1.nil, ?_⟩
    refine DG.p rfl rfl rfl rfl rfl rfl (fun wx Zx Rx hNx hSx hix => PV.mv rfl) <| DG.p rfl rfl rfl rfl rfl rfl (fun wx Zx Rx hNx hSx hix => PV.nilc rfl) <| DG.p rfl rfl rfl rfl rfl rfl (fun wx Zx Rx hNx hSx hix => PV.fa fa59_4 rfl) <| DG.p rfl rfl rfl rfl rfl rfl (fun wx Zx Rx hNx hSx hix => PV.ld1 one41 (Blk.range (As.gb (hSx.sv hix).g1)) rfl rfl) <| DG.p rfl rfl rfl rfl rfl rfl (fun wx Zx Rx hNx hSx hix => PV.as rfl) <| DG.nil ?_
    intro w15 hsz12 st31
    simp only [List.map_cons, List.map_nil, List.cons_append, List.nil_append, SdK.it] at st31
    refine WL.p rfl rfl (PV.as rfl) <| WL.nil (EX.np ?_)
    refine EX.seqN ?_
    refine WC.ret ?_
    refine EX.thenR ?_
    refine EX.retN rfl (RS.cell agg40 rfl (Blk.range (As.gb st31.g0)) rfl <| RS.tmp rfl <| RS.tmp rfl <| RS.nil) rfl ?_
    have hb : s1.base x = x := if_neg g45
    have hl : s1.list = [] := if_neg g45
    exact ⟨f1, f2, f3, f4, f5, f6, none, 0, 0, _, by rw [hb], hZ5, by rw [hb]; exact (As.gr st31.g11), by rw [hb]; exact (As.gr st31.g10), by rw [hl]; exact (St.wk st31.drop.p1.drop.p1.drop.p1.drop.p1.drop.p1.drop.p1.drop.p1.drop.p1.drop.p1.drop.p1.drop.p1.drop.p1.drop.p1.drop.p1.drop.p1.drop)⟩
   ·
    skip
    simp at g45
    refine WC.skip ?_
    refine EX.seqN ?_
    refine WC.seq ?_
    have hrl := ((As.gs st27.g2)).len
    have hge_ra := St.fresh st27.p2
    have st28 := st27.p2.frzS (by omega)
    have hZr := hZ5.trans (Zle.frz (F := fun x => x ∈ oblk E1.a3) hge_ra) (Nat.le_refl _)
    have hN13 : ∀ x : Nat, w12.heap.size ≤ x → w12.heap.size ≤ x := fun _ h => h
    refine WC.drawnG (m := 9) [] [8] [4, 5, 6, 7, 8, 0, 1, 2, 3] [] st28 (Sub1.cons M0 <| Sub1.cons M1 <| Sub1.cons M2 <| Sub1.cons M3 <| Sub1.cons M4 <| Sub1.cons M5 <| Sub1.cons M6 <| Sub1.cons M7 <| Sub1.cons M8 <| Sub1.cons M9 <| Sub1.cons M10 <| Sub1.cons M11 <| Sub1.cons M12 <| Sub1.cons M13 <| Sub1.cons M14 <| Sub1.cons M15 <| Sub1.nil) mixed (by kernel_rfl) (by kernel_rfl) rfl ?_
    refine DG.p rfl rfl rfl rfl rfl rfl (fun wx Zx Rx hNx hSx hix => PV.mv rfl) <| DG.p rfl rfl rfl rfl rfl rfl (fun wx Zx Rx hNx hSx hix => PV.nilc rfl) <| DG.p rfl rfl rfl rfl rfl rfl (fun wx Zx Rx hNx hSx hix => PV.fa fa59_3 rfl) <| DG.p rfl rfl rfl rfl rfl rfl (fun wx Zx Rx hNx hSx hix => PV.ld1 one25 (Blk.range (As.gb (hSx.sv hix).g1)) rfl rfl) <| ?_
    refine DG.ch rfl rfl rfl rfl rfl rfl (fun w13 R8x hN8x st29 hsd8x => ?_)
    simp only [List.cons_append, List.nil_append] at st29
    have st30 := st29
    refine OX.call cf17 rfl rfl ((sorted_calls st30.e0 (As.gr st30.g0) (fun _ h _ => h) hran).mono ?_)
    rintro _ w14 ⟨o1, o2, o3, rfl, hst14⟩
    have st31 := St.leave (l0 := []) st30 hst14 (Zle.refl _ _)
    simp only [List.cons_append, List.nil_append] at st31
    refine ⟨_, rfl, hst14.chg.size, _, rfl, _, _, _, st31, AppE.cons <| AppE.cons <| AppE.cons <| AppE.cons <| AppE.cons <| AppE.cons <| AppE.cons <| AppE.cons <| AppE.cons <| AppE.cons <| AppE.cons <| AppE.cons <| AppE.cons <| AppE.cons <| AppE.cons <| AppE.cons <| AppE.cons <| AppE.nil, Sub1.cons M1 <| Sub1.cons M2 <| Sub1.cons M3 <| Sub1.cons M4 <| Sub1.cons M5 <| Sub1.cons M6 <| Sub1.cons M7 <| Sub1.cons M8 <| Sub1.cons M9 <| Sub1.cons M10 <| Sub1.cons M11 <| Sub1.cons M12 <| Sub1.cons M13 <| Sub1.cons M14 <| Sub1.cons M15 <| Sub1.cons M16 <| Sub1.nil, ?_⟩
    refine DG.p rfl rfl rfl rfl rfl rfl (fun wx Zx Rx hNx hSx hix => PV.mv rfl) <| DG.p rfl rfl rfl rfl rfl rfl (fun wx Zx Rx hNx hSx hix => PV.nilc rfl) <| DG.p rfl rfl rfl rfl rfl rfl (fun wx Zx Rx hNx hSx hix => PV.fa fa59_1 rfl) <| DG.p rfl rfl rfl rfl rfl rfl (fun wx Zx Rx hNx hSx hix => PV.ldM agg40 (Blk.range (As.gb (hSx.sv hix).g1)) rfl rfl) <| DG.nil ?_
    intro w15 hsz13 st32
    simp only [List.map_cons, List.map_nil, List.cons_append, List.nil_append, SdK.it] at st32
    refine WL.go rfl (OX.stW sz40 (As.gb st32.g11) rfl rfl rfl rfl rfl fun w16 ss3 _ hs3 => ?_)
    have st33 := st32.p11.updB ss3 hs3
    refine WL.p rfl rfl (PV.as rfl) <| WL.p rfl rfl (PV.as rfl) <| WL.nil (EX.np ?_)
    refine EX.seqN ?_
    refine WC.ret ?_
    refine EX.retN rfl (RS.cell agg40 rfl (Blk.range (As.gb st33.g0)) rfl <| RS.tmp rfl <| RS.tmp rfl <| RS.nil) rfl ?_
    have hb : s1.base x = s1.b := if_pos g45
    have hl : s1.list = sortK s1.ran := if_pos g45
    exact ⟨E1.a1, E1.n1, E1.c1, E1.a2, E1.n2, E1.c2, o1, o2, o3, _, by rw [hb, g45]; rfl, hZr, by rw [hb]; exact (As.gr st33.g5), by rw [hb]; exact (As.gr st33.g6), by rw [hl]; exact (St.wk st33.drop.p1.drop.p1.drop.p1.drop.p1.drop.p1.drop.p1.drop.p1.drop.p1.drop.p1.drop.p1.drop.p1.drop.p1.drop.p1.drop.p1.drop.p1.drop)⟩
end Go.Rc

