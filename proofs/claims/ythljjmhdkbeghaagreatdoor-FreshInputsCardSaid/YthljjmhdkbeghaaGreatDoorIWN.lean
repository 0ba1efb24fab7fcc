/- Walks over the program, part WN. Conditions: as each theorem says. -/
import Derived.Test.YthljjmhdkbeghaaGreatDoorIFacts
import Derived.Test.YthljjmhdkbeghaaGreatDoorIWK
import Derived.Test.YthljjmhdkbeghaaGreatDoorIBf
import Derived.Test.YthljjmhdkbeghaaGreatDoorIWB
import Derived.Test.YthljjmhdkbeghaaGreatDoorIBe
import Derived.Test.YthljjmhdkbeghaaGreatDoorShelf
import Derived.Test.YthljjmhdkbeghaaGreatDoorIWD
import Derived.Test.YthljjmhdkbeghaaGreatDoorIBg
import Derived.Test.YthljjmhdkbeghaaGreatDoorIBd
import Derived.Test.YthljjmhdkbeghaaGreatDoorIBc
set_option linter.unusedVariables false
set_option linter.unusedSimpArgs false
set_option linter.unusedSectionVars false
namespace Go.Rc
open Go Go.Proofs
set_option maxHeartbeats 400000
def UpC (rules:List Rule) (x:Bas) (D:SD) (xb bb f:Nat):Prop:=∀(w:World) (M Z:Nat→Prop) (s:ES) (E:EA) (k:Key) (s':ES),St w M Z w [As.blk xb 135 (E.cells D.s bb s),As.solv Tryz.prog 157 rules x D,As.map Key.val bb s.busy,As.os RR.key 35 2 E.a3 E.n3 E.c3 s.ran]→Rd RR.inp 4 Z w E.a1 E.n1 E.c1 s.b.inputs→Rd RR.rcd 8 Z w E.a2 E.n2 E.c2 s.b.recs→Good rules x.inputs s→Knd rules k→upV rules (valOf rules x.inputs) f s k=some s'→s'.ran.length≤1000000→
 Calls Tryz.prog 79 #[.pointer (some ⟨xb,0,none⟩),k.val] w fun e w'=>∃(E':EA) (Z':Nat→Prop),e=.returned (.tuple #[])∧Zle w.heap.size Z Z'∧Rd RR.inp 4 Z' w' E'.a1 E'.n1 E'.c1 s'.b.inputs∧Rd RR.rcd 8 Z' w' E'.a2 E'.n2 E'.c2 s'.b.recs∧St w M Z' w' [As.blk xb 135 (E'.cells D.s bb s'),As.solv Tryz.prog 157 rules x D,As.map Key.val bb s'.busy,As.os RR.key 35 2 E'.a3 E'.n3 E'.c3 s'.ran]
set_option maxHeartbeats 1600000 in
theorem check_calls {rules:List Rule} {x:Bas} {D:SD} {xb bb:Nat} {w:World} {M Z:Nat→Prop} {s:ES} {E:EA} {k:Key} {f:Nat} {s':ES} {r:Bool} (hR:rulesOk rules) (hst:St w M Z w [As.blk xb 135 (E.cells D.s bb s),As.solv Tryz.prog 157 rules x D,As.map Key.val bb s.busy,As.os RR.key 35 2 E.a3 E.n3 E.c3 s.ran]) (hi:Rd RR.inp 4 Z w E.a1 E.n1 E.c1 s.b.inputs) (hr:Rd RR.rcd 8 Z w E.a2 E.n2 E.c2 s.b.recs) (hgd:Good rules x.inputs s) (hil:s.b.inputs.length≤1000000) (hup:∀g,g<f→UpC rules x D xb bb g) (hev0:checkV rules (valOf rules x.inputs) f s k 0=some (s',r)) (hran:s'.ran.length≤1000000):Calls Tryz.prog 118 #[.pointer (some ⟨xb,0,none⟩),k.val] w fun e w'=>∃(E':EA) (Z':Nat→Prop),e=.returned (.bool r)∧Zle w.heap.size Z Z'∧Rd RR.inp 4 Z' w' E'.a1 E'.n1 E'.c1 s'.b.inputs∧Rd RR.rcd 8 Z' w' E'.a2 E'.n2 E'.c2 s'.b.recs∧St w M Z' w' [As.blk xb 135 (E'.cells D.s bb s'),As.solv Tryz.prog 157 rules x D,As.map Key.val bb s'.busy,As.os RR.key 35 2 E'.a3 E'.n3 E'.c3 s'.ran]:=by
 refine enter Tryz.func118 rfl Tryz.ntmps118 rfl<|?_;have st0:=hst;have st1:=st0.fact (As.mkro hi) (fun _ hx=>hx);have st2:=st1.fact (As.mkro hr) (fun _ hx=>hx);refine nx2 ?_;refine WL.go rfl (OX.box rfl rfl rfl fun b3 w1 nw3 hb3=>?_);have st3:=st2.newB nw3 hb3;refine nx10 ?_;refine WC.loopS (σ:=Nat × ES × EA × Nat × (Nat→Prop)) (kvs:=fun (fu,s1,E1,ix,Z1)=>[(0,.pointer (some ⟨xb,0,none⟩)),(3,.pointer (some ⟨b3,0,none⟩)),(5,.int .i64 (ix:Int))]) (F:=fun (fu,s1,E1,ix,Z1)=>[As.blk xb 135 (E1.cells D.s bb s1),As.map Key.val bb s1.busy,As.os RR.key 35 2 E1.a3 E1.n3 E1.c3 s1.ran,As.ro RR.inp 4 E1.a1 E1.n1 E1.c1 s1.b.inputs,As.ro RR.rcd 8 E1.a2 E1.n2 E1.c2 s1.b.recs]) (I:=fun (fu,s1,E1,ix,Z1)=>(checkV rules (valOf rules x.inputs) fu s1 k ix=some (s',r))∧(Good rules x.inputs s1)∧(fu≤f)∧(Zle w.heap.size Z Z1)∧True) (μ:=fun (fu,s1,E1,ix,Z1)=>fu) (Zf:=fun (fu,s1,E1,ix,Z1)=>Z1) (f,s,E,0,Z) (st3.p1.p2.p6.p6.p5) (Sub.k2 rfl rfl<|Sub.v<|Sub.nil) (⟨hev0,hgd,Nat.le_refl _,Zle.refl _ _,trivial⟩)<|?_;rintro ⟨fu,s1,E1,ix,Z1⟩ w2 st4 ⟨hev,hg1,hfu,hZ,_⟩;simp only [CA,NA] at st4 hev hg1 hfu hZ ⊢
 obtain ⟨fu1,rfl⟩:∃g,fu=g+1:=by cases fu with | zero=>simp [checkV] at hev | succ g=>exact ⟨g,rfl⟩
 unfold checkV at hev
 have hl4:=hg1.len
 have hil1:s1.b.inputs.length≤1000000:=by rw [hg1.inp,← hgd.inp];exact hil
 refine nx6 ?_;refine WP .r (V1 one38 st4.b0 .r)<|nx3 ?_;refine WC.cd (fun g17=>?_) fun g17=>?_
 ·
  simp at g17
  rw [if_neg (by simp [g17])] at hev;refine nx4 ?_;have hN3:=st4.fplt;have hzN3:=st4.zlt;have h0N3:=st4.size;refine WC.drawnX (m:=11) [9] (E:=lookE [(6,fun v _=>∃f1 f2 f3,v=.tuple #[.agg ((recOf s1.b.recs k).row f1 f2 f3).toArray,.bool (findR s1.b.recs k).isSome]),(10,PB w2.heap.size 116 [.int .i64 0,.string ⟨#[]⟩,.string ⟨#[]⟩,.slice none 0 0,.int .i64 0,.int .i64 0,.int .i64 0,.bool false])]) st4 (lookE_st (⟨fun _ _ _ _ _ _ _ h=>h,⟨fun _ _ _ _ _ _ c h=>PB.st hN3 c h,trivial⟩⟩)) mixed (by kernel_rfl) rfl ?_;refine nx4 ?_;refine DP .r (fun _ hC=>PV.ld1 (j:=3) one29 (Blk.range (As.gb hC.2.g0)) rfl rfl)<|DP .r (fun _ hC=>VA agg35 (Blk.range (As.gb hC.2.g5)) .r)<|?_;refine DW.e rfl rfl rfl rfl rfl (fun wx hC hF=>OX.call cf117 rfl rfl ((findR_calls0 (k:=k) (As.gr hC.2.g4)).mono ?_))<|?_
  ·
   rintro _ wy ⟨f1,f2,f3,rfl,hy⟩;exact ⟨_,rfl,⟨Nat.le_trans hC.1 hy.size,hC.2.step hy⟩,hy.p0,_,rfl,⟨f1,f2,f3,rfl⟩⟩
  rintro _ wz _ ⟨f1,f2,f3,rfl⟩;refine nx3 ?_;refine DW.e rfl rfl rfl rfl rfl (fun wx hC hF=>OX.alloc zv116 rfl fun b wy nw hb=>⟨⟨Nat.le_trans hC.1 nw.ext.size,hC.2.step nw.ext⟩,nw.ext.p0,_,rfl,_,rfl,Nat.le_trans hC.1 nw.ge,hb⟩)<|?_;rintro _ wz _ ⟨b6,rfl,_,_⟩;refine DW.nil<|?_;rintro w3 ⟨hsz3,st5⟩ ⟨hF10,⟨_,_⟩⟩;have st6:=st5.addB hF10 hN3 hzN3 h0N3;refine WL.go rfl (OX.stW sz116 (As.gb st6.g0) rfl rfl rfl rfl rfl fun w4 ss0 _ hs0=>?_);have st7:=st6.updB ss0 hs0;refine nx ?_;refine WL.nil (EX.np ?_);refine nx3 ?_;refine WC.cut1S (t:=33) (v:=.bool (!(findR s1.b.recs k).isSome || (recOf s1.b.recs k).dirty)) st7 ?_<|?_
  ·
   refine nx4 ?_;refine WL.gsplit (t:=30) rfl (fun g30=>?_) (fun g30=>?_)
   ·
    refine nx4 ?_;exact EX.meet1 7 rfl rfl rfl (by simp only [g30];first | rfl | simp) (st7)
   refine nx ?_;refine WP .r (V1 one4 st7.b0 .r)<|nx2 ?_;exact EX.meet1 7 rfl rfl rfl (by simp only [g30];first | rfl | simp) (st7)
  intro w5 st8;refine nx ?_;refine WC.cd (fun g33=>?_) fun g33=>?_
  ·
   rw [if_pos g33] at hev;simp only [Option.some.injEq,Prod.mk.injEq] at hev;obtain ⟨hes,her⟩:=hev;subst hes;subst her;refine nx11 ?_;refine EX.ret1 rfl rfl<|?_;exact ⟨E1,_,rfl,hZ,(As.gr st8.g4),(As.gr st8.g5),st8.p3.p3.p7.p4.k4⟩
  rw [if_neg (by rw [g33];simp)] at hev;refine nx4 ?_;have hN6:=st8.fplt;refine WC.drawnS (m:=7) (E:=lookE []) st8 (lookE_st (trivial)) mixed (by kernel_rfl)<|nx ?_;refine DP .r (fun _ hC=>V1 one3 (Blk.range (As.gb hC.2.g0)) .r)<|nx4 ?_;refine DP .r (fun _ hC=>PV.ld1 (j:=1) one3 (Blk.range (As.gb hC.2.g1)) rfl rfl)<|DW.nil<|?_;rintro w6 ⟨hsz6,st9⟩ _;refine nx3 ?_;refine WC.cd (fun g41=>?_) fun g41=>?_
  ·
   simp at g41
   rw [if_pos g41] at hev;simp only [Option.some.injEq,Prod.mk.injEq] at hev;obtain ⟨hes,her⟩:=hev;subst hes;subst her;refine nx11 ?_;refine EX.ret1 rfl rfl<|?_;exact ⟨E1,_,rfl,hZ,(As.gr st9.g4),(As.gr st9.g5),st9.p3.p3.p7.p4.k4⟩
  simp at g41
  rw [if_neg g41] at hev;refine nx3 ?_;have hN8:=st9.fplt;refine WC.drawnS (m:=11) (E:=lookE []) st9 (lookE_st (trivial)) mixed (by kernel_rfl)<|nx4 ?_;refine DP .r (fun _ hC=>PV.ld1 (j:=3) one29 (Blk.range (As.gb hC.2.g1)) rfl rfl)<|nx4 ?_;refine DP .r (fun _ hC=>PV.ld1 (j:=1) one3 (Blk.range (As.gb hC.2.g1)) rfl rfl)<|DP .r (fun _ hC=>VA agg35 (Blk.range (As.gb hC.2.g6)) .r)<|DW.nil<|?_;rintro w7 ⟨hsz8,st10⟩ _;have st11:=st10;refine WL.go rfl (OX.call cf147 rfl rfl ((of29_calls st11.e0 (As.gr st11.g5) (by omega)).mono ?_));rintro _ w8 ⟨q1,q2,q3,Z2,rfl,hZ2a,hst8⟩;refine ⟨_,rfl,?_⟩;have st12:=St.leave (l0:=[]) st11 hst8 hZ2a;simp only [CA,NA] at st12;have hgl:=groupV_len s1.b.recs s1.b.revision k;have hgg:=St.fresh0 hst8;have hsz2:=st11.size;have hZ2b:=hZ.trans hZ2a hsz2;have st13:=st12.frzS (by omega);have hZ2:=hZ2b.trans (Zle.frz (F:=fun x=>x∈oblk q1) hgg) hsz2;refine nx9 ?_;refine WP .r (PV.ld1 (j:=3) one29 st13.b2 rfl rfl)<|nx ?_;have st14:=st13;refine WL.go rfl (OX.call cf146 rfl rfl ((checks_calls st14.e0 (As.gr st14.g6) (As.gr st14.g0) (chk_len hg1 (by omega))).mono ?_));rintro _ w9 ⟨p1,p2,p3,Z3,rfl,hZ3a,hst9⟩;refine ⟨_,rfl,?_⟩;have st15:=St.leave (l0:=[]) st14 hst9 hZ3a;simp only [CA,NA] at st15;have hZ3:=hZ2.trans hZ3a st14.size;have hcl:=((As.gs st15.g0)).len;have hca:=chk_all hg1 (group:=(groupV s1.b.recs s1.b.revision k)) (by omega);refine nx12 ?_;refine WC.cd (fun g64=>?_) fun g64=>?_
  ·
   simp at g64
   have hno:(checksV s1.b.recs (groupV s1.b.recs s1.b.revision k))[ix]?=none:=List.getElem?_eq_none (by omega);rw [hno] at hev;simp only [] at hev;simp only [Option.some.injEq,Prod.mk.injEq] at hev;obtain ⟨hes,her⟩:=hev;subst hes;subst her;refine nx6 ?_;refine WP .r (PV.ldM agg31 st15.b3 rfl rfl)<|nx ?_;have st16:=st15;refine WL.go rfl (OX.call cf154 rfl rfl ((mark_calls st16.e0 (As.gr st16.g6) (As.gr st16.g7) (As.gr st16.g1) (by omega) (by omega)).mono ?_));rintro _ w10 ⟨m1,m2,m3,m4,m5,m6,Z4,rfl,hZ4a,hst10⟩;refine ⟨_,rfl,?_⟩;have st17:=St.leave (l0:=[]) st16 hst10 hZ4a;simp only [CA,NA] at st17;have hZ4:=hZ3.trans hZ4a st16.size;have hgi:=St.fresh0 hst10;have hgr:=St.fresh0 hst10.p1;have hsz4:=st16.size;refine nx2 ?_;refine WL.go rfl (OX.stA' sz31 (As.gb st17.g5) rfl rfl rfl rfl rfl fun w11 ss1 hs1=>?_);have st18:=st17.p5.updB ss1 hs1;refine nx ?_;have st19:=st18.eqA (B:=As.blk xb 135 (EA.cells ⟨m1,m4,E1.a3,m2,m3,m5,m6,E1.n3,E1.c3⟩ D.s bb {s1 with b:=markV s1.b (groupV s1.b.recs s1.b.revision k) false})) (rfl)
   have hml:(markV s1.b (groupV s1.b.recs s1.b.revision k) false).recs.length=s1.b.recs.length:=by simp [markV]
   have hmi:(markV s1.b (groupV s1.b.recs s1.b.revision k) false).inputs=s1.b.inputs:=rfl;have st20:=st19.p1.frzS (by rw [hmi];omega);have st21:=st20.p2.frzS (by omega);have hZ5:=(hZ4.trans (Zle.frz (F:=fun x=>x∈oblk m1) hgi) hsz4).trans (Zle.frz (F:=fun x=>x∈oblk m4) hgr) hsz4;refine nx12 ?_;refine EX.ret1 rfl rfl<|?_;exact ⟨⟨m1,m4,E1.a3,m2,m3,m5,m6,E1.n3,E1.c3⟩,_,rfl,hZ5,(As.gr st21.g1),(As.gr st21.g0),st21.p7.p7.p11.p5.k4⟩
  simp at g64
  obtain ⟨ch,hch⟩:∃ch,(checksV s1.b.recs (groupV s1.b.recs s1.b.revision k))[ix]?=some ch:=⟨_,getElem_some (by omega)⟩;rw [hch] at hev;simp only [] at hev;have hkr:=chk_read hg1 hch;refine nx3 ?_;obtain ⟨b_x1,ha_x1⟩:=Ow.addr (As.gs st15.g0) hch;refine nx3 ?_;refine WP .r (PV.ixS sl188 ha_x1 rfl rfl (by omega))<|WP .r (VA agg199 (Ow.rng (As.gs st15.g0) (by omega) ha_x1 hch) .r)<|?_;refine WL.al st15 fun b10 w10 nw10 hb10 st16=>?_;refine WL.go rfl (OX.stW sz199 (As.gb st16.g0) rfl rfl rfl rfl rfl fun w11 ss2 _ hs2=>?_);have st17:=st16.updB ss2 hs2;refine nx7 ?_;refine WP .r (PV.ldM agg35 st17.b0 rfl rfl)<|?_;refine WL.c0 (there_calls (k:=ch.read) (sb:=D.s) (s:=s1) (E:=E1) (As.gb st17.g4) (As.gm st17.g5) hg1.busy (As.gr st17.g8)) st17 fun w12 s12 st18=>?_;refine nx3 ?_;refine WC.cd (fun g82=>?_) fun g82=>?_
  ·
   simp at g82
   rw [if_pos g82] at hev;obtain ⟨t,hut,hev2⟩:=Option.bind_eq_some_iff.1 hev;have hgt:=(engine_good hR fu1).1 _ _ _ hut hg1 hkr;have hgc:=(engine_good hR fu1).2.1 _ _ _ _ _ hev2 hgt.1;refine nx4 ?_;refine WP .r (PV.ldM agg35 st18.b0 rfl rfl)<|?_;have st19:=st18.p6.p6.p10.p7;refine WL.go rfl (OX.call cf79 rfl rfl ((hup fu1 (by omega) _ _ _ _ _ _ _ st19.e4 (As.gr st19.g8) (As.gr st19.g9) hg1 hkr hut (by have:=hgc.2.ran;omega)).mono ?_));rintro _ w13 ⟨E2,Z5,rfl,hZ5a,hi5,hr5,hst13⟩;refine ⟨_,rfl,?_⟩;have st20:=St.leave (l0:=[_,_,_,_]) st19 hst13 hZ5a;simp only [CA,NA] at st20;have hZ5:=hZ3.trans hZ5a st19.size;have st21:=st20.fact (As.mkro (hi5)) (fun _ hx=>hx);have st22:=st21.fact (As.mkro (hr5)) (fun _ hx=>hx);have st23:=st22.p10.drop;have st24:=st23.p10.drop;refine nx5 ?_;refine EX.again (fu1,t,E2,ix,Z5) (Sub.k2 rfl rfl<|Sub.v<|Sub.nil) ⟨st24.p6.drop.p6.drop.p6.drop.p6.drop.p6.p1.p2.p6.p6.p5,⟨hev2,hgt.1,by omega,hZ5,trivial⟩⟩ (by first | (simp only [];omega) | omega)
  simp at g82
  rw [if_neg (by rw [g82];simp)] at hev;refine nx3 ?_;have hN16:=st18.fplt;have hzN16:=st18.zlt;have h0N16:=st18.size;refine WC.drawnX (m:=12) [10] (E:=lookE [(7,fun v _=>∃f1 f2 f3,v=.tuple #[.agg ((recOf s1.b.recs ch.member).row f1 f2 f3).toArray,.bool (findR s1.b.recs ch.member).isSome]),(11,PB w12.heap.size 116 [.int .i64 0,.string ⟨#[]⟩,.string ⟨#[]⟩,.slice none 0 0,.int .i64 0,.int .i64 0,.int .i64 0,.bool false])]) st18 (lookE_st (⟨fun _ _ _ _ _ _ _ h=>h,⟨fun _ _ _ _ _ _ c h=>PB.st hN16 c h,trivial⟩⟩)) mixed (by kernel_rfl) rfl ?_;refine nx4 ?_;refine DP .r (fun _ hC=>PV.ld1 (j:=3) one29 (Blk.range (As.gb hC.2.g4)) rfl rfl)<|nx ?_;refine DP .r (fun _ hC=>PV.ldM agg35 (Blk.range (As.gb hC.2.g0)) rfl rfl)<|?_;refine DW.e rfl rfl rfl rfl rfl (fun wx hC hF=>OX.call cf117 rfl rfl ((findR_calls0 (k:=ch.member) (As.gr hC.2.g8)).mono ?_))<|?_
  ·
   rintro _ wy ⟨f1,f2,f3,rfl,hy⟩;exact ⟨_,rfl,⟨Nat.le_trans hC.1 hy.size,hC.2.step hy⟩,hy.p0,_,rfl,⟨f1,f2,f3,rfl⟩⟩
  rintro _ wz _ ⟨f1,f2,f3,rfl⟩;refine nx3 ?_;refine DW.e rfl rfl rfl rfl rfl (fun wx hC hF=>OX.alloc zv116 rfl fun b wy nw hb=>⟨⟨Nat.le_trans hC.1 nw.ext.size,hC.2.step nw.ext⟩,nw.ext.p0,_,rfl,_,rfl,Nat.le_trans hC.1 nw.ge,hb⟩)<|?_;rintro _ wz _ ⟨b11,rfl,_,_⟩;refine DW.nil<|?_;rintro w13 ⟨hsz16,st19⟩ ⟨hF11,⟨_,_⟩⟩;have st20:=st19.addB hF11 hN16 hzN16 h0N16;refine WL.go rfl (OX.stW sz116 (As.gb st20.g0) rfl rfl rfl rfl rfl fun w14 ss3 _ hs3=>?_);have st21:=st20.updB ss3 hs3;refine nx ?_;refine WL.nil (EX.np ?_);refine nx3 ?_;have hN17:=st21.fplt;refine WC.drawnS (m:=13) (E:=lookE [(10,fun v _=>v=.int .i64 (changedV (valOf rules x.inputs) s1.b ch.read))]) st21 (lookE_st (⟨fun _ _ _ _ _ _ _ h=>h,trivial⟩)) mixed (by kernel_rfl)<|nx3 ?_;refine DP .r (fun _ hC=>V1 one125 (Blk.range (As.gb hC.2.g5)) .r)<|nx3 ?_;refine DP .r (fun _ hC=>PV.ldM agg31 (Blk.range (As.gb hC.2.g5)) rfl rfl)<|nx ?_;refine DP .r (fun _ hC=>PV.ldM agg35 (Blk.range (As.gb hC.2.g1)) rfl rfl)<|?_;refine DW.e rfl rfl rfl rfl rfl (fun wx hC hF=>OX.call cf157 rfl rfl ((changed_calls (k:=ch.read) hR hkr (hC.2.one (.tail _ (.tail _ (.tail _ (.tail _ (.tail _ (.tail _ (.tail _ (.tail _ (.tail _ (.tail _ (.tail _ (.head _))))))))))))) (As.gr hC.2.g8) (As.gr hC.2.g9)).mono ?_))<|?_
  ·
   rintro _ wy ⟨rfl,hy⟩;exact ⟨_,rfl,⟨Nat.le_trans hC.1 hy.chg.size,hC.2.sameC M11 hy⟩,hy.chg.mono (fun _ _ hx=>fps_sub M11 hx),_,rfl,rfl⟩
  rintro _ wz _ rfl;refine nx ?_;refine DP .r (fun _ hC=>V1 one3 (Blk.range (As.gb hC.2.g0)) .r)<|DW.nil<|?_;rintro w15 ⟨hsz17,st22⟩ ⟨_,_⟩;refine nx3 ?_;refine WC.cd (fun g111=>?_) fun g111=>?_
  ·
   simp at g111
   rw [if_pos g111] at hev;refine nx3 ?_;refine WP .r (VA agg35 (Blk.range (As.gb st22.g10)) .r)<|?_;refine WL.c0 (cyclic_calls (k:=k)) st22 fun w16 s16 st23=>?_;refine nx2 ?_;refine WC.cd (fun g113=>?_) fun g113=>?_
   ·
    rw [if_pos g113] at hev;simp only [Option.some.injEq,Prod.mk.injEq] at hev;obtain ⟨hes,her⟩:=hev;subst hes;subst her;refine nx5 ?_;refine WP .r (PV.ldM agg31 st23.b5 rfl rfl)<|nx ?_;have st24:=st23;refine WL.go rfl (OX.call cf154 rfl rfl ((mark_calls st24.e0 (As.gr st24.g8) (As.gr st24.g9) (As.gr st24.g3) (by omega) (by omega)).mono ?_));rintro _ w17 ⟨m1,m2,m3,m4,m5,m6,Z4,rfl,hZ4a,hst17⟩;refine ⟨_,rfl,?_⟩;have st25:=St.leave (l0:=[]) st24 hst17 hZ4a;simp only [CA,NA] at st25;have hZ4:=hZ3.trans hZ4a st24.size;have hgi:=St.fresh0 hst17;have hgr:=St.fresh0 hst17.p1;have hsz4:=st24.size;refine nx2 ?_;refine WL.go rfl (OX.stA' sz31 (As.gb st25.g7) rfl rfl rfl rfl rfl fun w18 ss4 hs4=>?_);have st26:=st25.p7.updB ss4 hs4;refine nx ?_;have st27:=st26.eqA (B:=As.blk xb 135 (EA.cells ⟨m1,m4,E1.a3,m2,m3,m5,m6,E1.n3,E1.c3⟩ D.s bb {s1 with b:=markV s1.b (groupV s1.b.recs s1.b.revision k) true})) (rfl)
    have hml:(markV s1.b (groupV s1.b.recs s1.b.revision k) true).recs.length=s1.b.recs.length:=by simp [markV]
    have hmi:(markV s1.b (groupV s1.b.recs s1.b.revision k) true).inputs=s1.b.inputs:=rfl;have st28:=st27.p1.frzS (by rw [hmi];omega);have st29:=st28.p2.frzS (by omega);have hZ5:=(hZ4.trans (Zle.frz (F:=fun x=>x∈oblk m1) hgi) hsz4).trans (Zle.frz (F:=fun x=>x∈oblk m4) hgr) hsz4;refine nx12 ?_;refine EX.ret1 rfl rfl<|?_;exact ⟨⟨m1,m4,E1.a3,m2,m3,m5,m6,E1.n3,E1.c3⟩,_,rfl,hZ5,(As.gr st29.g1),(As.gr st29.g0),st29.p9.p9.p13.p5.k4⟩
   rw [if_neg (by rw [g113];simp)] at hev;simp only [Option.some.injEq,Prod.mk.injEq] at hev;obtain ⟨hes,her⟩:=hev;subst hes;subst her;refine nx12 ?_;refine nx ?_;refine EX.ret1 rfl rfl<|?_;exact ⟨E1,_,rfl,hZ3,(As.gr st23.g8),(As.gr st23.g9),st23.p7.p7.p11.p8.k4⟩
  simp at g111
  rw [if_neg (by omega)] at hev;refine nx8 ?_;refine EX.again (fu1,s1,E1,ix+1,Z3) (Sub.k2 rfl rfl<|Sub.v<|Sub.nil) ⟨st22.drop.drop.drop.drop.drop,⟨hev,hg1,by omega,hZ3,trivial⟩⟩ (by first | (simp only [];omega) | omega)
 simp at g17
 rw [if_pos g17] at hev;simp only [Option.some.injEq,Prod.mk.injEq] at hev;obtain ⟨hes,her⟩:=hev;subst hes;subst her;refine nx11 ?_;refine EX.ret1 rfl rfl<|?_;exact ⟨E1,_,rfl,hZ,(As.gr st4.g3),(As.gr st4.g4),st4.p2.p2.p6.p3.k4⟩
set_option maxHeartbeats 1600000 in
theorem run_calls {rules:List Rule} {x:Bas} {D:SD} {xb bb:Nat} {w:World} {M Z:Nat→Prop} {s:ES} {E:EA} {k:Key} {f:Nat} {s':ES} (hR:rulesOk rules) (hst:St w M Z w [As.blk xb 135 (E.cells D.s bb s),As.solv Tryz.prog 157 rules x D,As.map Key.val bb s.busy,As.os RR.key 35 2 E.a3 E.n3 E.c3 s.ran]) (hi:Rd RR.inp 4 Z w E.a1 E.n1 E.c1 s.b.inputs) (hr:Rd RR.rcd 8 Z w E.a2 E.n2 E.c2 s.b.recs) (hgd:Good rules x.inputs s) (hil:s.b.inputs.length≤1000000) (hak:ansOk rules k 0) (hup:∀g,g<f→UpC rules x D xb bb g) (hev0:runV rules (valOf rules x.inputs) f s k [] []=some s') (hran:s'.ran.length≤1000000):Calls Tryz.prog 119 #[.pointer (some ⟨xb,0,none⟩),k.val] w fun e w'=>∃(E':EA) (Z':Nat→Prop),e=.returned (.tuple #[])∧Zle w.heap.size Z Z'∧Rd RR.inp 4 Z' w' E'.a1 E'.n1 E'.c1 s'.b.inputs∧Rd RR.rcd 8 Z' w' E'.a2 E'.n2 E'.c2 s'.b.recs∧St w M Z' w' [As.blk xb 135 (E'.cells D.s bb s'),As.solv Tryz.prog 157 rules x D,As.map Key.val bb s'.busy,As.os RR.key 35 2 E'.a3 E'.n3 E'.c3 s'.ran]:=by
 refine enter Tryz.func119 rfl Tryz.ntmps119 rfl<|?_;have st0:=hst;have st1:=st0.fact (As.mkro hi) (fun _ hx=>hx);have st2:=st1.fact (As.mkro hr) (fun _ hx=>hx);have st3:=st2.newN RR.key 35 2;have st4:=st3.newN RR.str 9 1;refine nx2 ?_;refine WL.go rfl (OX.box rfl rfl rfl fun b3 w1 nw3 hb3=>?_);have st5:=st4.newB nw3 hb3;refine nx12 ?_;refine nx ?_;refine WC.loopS (σ:=Nat × ES × EA × (List Key) × (List ByteArray) × (Nat→Prop) × (Option Addr) × Nat × Nat × (Option Addr) × Nat × Nat) (kvs:=fun (fu,s1,E1,reads,answers,Z1,a_rs,n_rs,c_rs,a_an,n_an,c_an)=>[(0,.pointer (some ⟨xb,0,none⟩)),(3,.pointer (some ⟨b3,0,none⟩)),(4,.slice a_rs n_rs c_rs),(5,.slice a_an n_an c_an)]) (F:=fun (fu,s1,E1,reads,answers,Z1,a_rs,n_rs,c_rs,a_an,n_an,c_an)=>[As.os RR.key 35 2 a_rs n_rs c_rs (reads),As.os RR.str 9 1 a_an n_an c_an (answers),As.blk xb 135 (E1.cells D.s bb s1),As.map Key.val bb s1.busy,As.os RR.key 35 2 E1.a3 E1.n3 E1.c3 s1.ran,As.ro RR.inp 4 E1.a1 E1.n1 E1.c1 s1.b.inputs,As.ro RR.rcd 8 E1.a2 E1.n2 E1.c2 s1.b.recs]) (I:=fun (fu,s1,E1,reads,answers,Z1,a_rs,n_rs,c_rs,a_an,n_an,c_an)=>(runV rules (valOf rules x.inputs) fu s1 k reads answers=some s')∧(Good rules x.inputs s1)∧(fu≤f)∧(Zle w.heap.size Z Z1)∧(ansOk rules k answers.length)∧(reads.length=answers.length)∧(∀a∈reads,Knd rules a)∧(∀y∈oblk a_rs,w.heap.size≤y)∧True) (μ:=fun (fu,s1,E1,reads,answers,Z1,a_rs,n_rs,c_rs,a_an,n_an,c_an)=>fu) (Zf:=fun (fu,s1,E1,reads,answers,Z1,a_rs,n_rs,c_rs,a_an,n_an,c_an)=>Z1) (f,s,E,[],[],Z,none,0,0,none,0,0) (st5.p3.p4.p8.p8.p7.p6.p7) (Sub.k2 rfl rfl<|Sub.v<|Sub.v<|Sub.nil) (⟨hev0,hgd,Nat.le_refl _,Zle.refl _ _,hak,rfl,(fun a ha=>by cases ha),(by simp [oblk]),trivial⟩)<|?_;rintro ⟨fu,s1,E1,reads,answers,Z1,a_rs,n_rs,c_rs,a_an,n_an,c_an⟩ w2 st6 ⟨hev,hg1,hfu,hZ,hak1,hlen,hrk,hfr,_⟩;simp only [CA,NA] at st6 hev hg1 hfu hZ hak1 hlen hrk hfr ⊢
 obtain ⟨fu1,rfl⟩:∃g,fu=g+1:=by cases fu with | zero=>simp [runV] at hev | succ g=>exact ⟨g,rfl⟩
 unfold runV at hev
 have hl4:=hg1.len
 have hil1:s1.b.inputs.length≤1000000:=by rw [hg1.inp,← hgd.inp];exact hil
 have h6:=hak1.le hR;have hrl:=((As.gs st6.g0)).len;have hal:=((As.gs st6.g1)).len;have hcl:=((As.gr st6.g6)).len;refine nx6 ?_;refine WP .r (V1 one38 st6.b2 .r)<|nx3 ?_;refine WC.cd (fun g13=>?_) fun g13=>?_
 ·
  simp at g13
  rw [if_neg (by simp [g13])] at hev;refine nx4 ?_;obtain ⟨tt,ht0⟩:∃t,turn28 rules k answers=t:=⟨_,rfl⟩;rw [ht0] at hev;have hnx0:=@ansOk.next rules k hR answers hak1;rw [ht0] at hnx0;have hN4:=st6.fplt;have hzN4:=st6.zlt;have h0N4:=st6.size;refine WC.drawnS (m:=11) (E:=lookE [(9,fun v _=>v=tt.val),(10,PB w2.heap.size 65 [.bool false,.string ⟨#[]⟩,.int .i64 0,.string ⟨#[]⟩])]) st6 (lookE_st (⟨fun _ _ _ _ _ _ _ h=>h,⟨fun _ _ _ _ _ _ c h=>PB.st hN4 c h,trivial⟩⟩)) mixed (by kernel_rfl)<|nx3 ?_;refine DP .r (fun _ hC=>PV.ld0 one125 (Blk.range (As.gb hC.2.g2)) rfl rfl)<|nx2 ?_;refine DP .r (fun _ hC=>V1 one27 (Blk.range (As.gvb (hC.2.g8))) .r)<|DP .r (fun _ hC=>VA agg35 (Blk.range (As.gb hC.2.g7)) .r)<|nx ?_;refine DW.c1 (fun wx hC hF=>turn28_calls (k:=k) (SD.ht (As.gv (hC.2.g8))) (SD.hu (As.gv (hC.2.g8))) (Ow.rd (As.gs hC.2.g1) (by omega)) hR.hb (hak1.not hR).1) (by rw [ht0])<|?_;refine DW.e rfl rfl rfl rfl rfl (fun wx hC hF=>OX.alloc zv65 rfl fun b wy nw hb=>⟨⟨Nat.le_trans hC.1 nw.ext.size,hC.2.step nw.ext⟩,nw.ext.p0,_,rfl,_,rfl,Nat.le_trans hC.1 nw.ge,hb⟩)<|?_;rintro _ wz _ ⟨b6,rfl,_,_⟩;refine DW.nil<|?_;rintro w3 ⟨hsz4,st7⟩ ⟨hF10,⟨_,_⟩⟩;have st8:=st7.addB hF10 hN4 hzN4 h0N4;refine WL.go rfl (OX.stW sz65 (As.gb st8.g0) rfl rfl rfl rfl rfl fun w4 ss0 _ hs0=>?_);have st9:=st8.updB ss0 hs0;refine nx6 ?_;refine WP .r (V1 one4 st9.b0 .r)<|nx2 ?_;refine WC.cd (fun g25=>?_) fun g25=>?_
  ·
   rw [if_pos g25] at hev;refine nx2 ?_;have hN6:=st9.fplt;have hzN6:=st9.zlt;have h0N6:=st9.size;refine WC.drawnX (m:=11) [9] (E:=lookE [(6,fun v _=>∃f1 f2 f3,v=.tuple #[.agg ((recOf s1.b.recs k).row f1 f2 f3).toArray,.bool (findR s1.b.recs k).isSome]),(10,PB w4.heap.size 116 [.int .i64 0,.string ⟨#[]⟩,.string ⟨#[]⟩,.slice none 0 0,.int .i64 0,.int .i64 0,.int .i64 0,.bool false])]) st9 (lookE_st (⟨fun _ _ _ _ _ _ _ h=>h,⟨fun _ _ _ _ _ _ c h=>PB.st hN6 c h,trivial⟩⟩)) mixed (by kernel_rfl) rfl ?_;refine nx4 ?_;refine DP .r (fun _ hC=>PV.ld1 (j:=3) one29 (Blk.range (As.gb hC.2.g3)) rfl rfl)<|DP .r (fun _ hC=>VA agg35 (Blk.range (As.gb hC.2.g8)) .r)<|?_;refine DW.e rfl rfl rfl rfl rfl (fun wx hC hF=>OX.call cf117 rfl rfl ((findR_calls0 (k:=k) (As.gr hC.2.g7)).mono ?_))<|?_
   ·
    rintro _ wy ⟨f1,f2,f3,rfl,hy⟩;exact ⟨_,rfl,⟨Nat.le_trans hC.1 hy.size,hC.2.step hy⟩,hy.p0,_,rfl,⟨f1,f2,f3,rfl⟩⟩
   rintro _ wz _ ⟨f1,f2,f3,rfl⟩;refine nx3 ?_;refine DW.e rfl rfl rfl rfl rfl (fun wx hC hF=>OX.alloc zv116 rfl fun b wy nw hb=>⟨⟨Nat.le_trans hC.1 nw.ext.size,hC.2.step nw.ext⟩,nw.ext.p0,_,rfl,_,rfl,Nat.le_trans hC.1 nw.ge,hb⟩)<|?_;rintro _ wz _ ⟨b7,rfl,_,_⟩;refine DW.nil<|?_;rintro w5 ⟨hsz6,st10⟩ ⟨hF10,⟨_,_⟩⟩;have st11:=st10.addB hF10 hN6 hzN6 h0N6;refine WL.go rfl (OX.stW sz116 (As.gb st11.g0) rfl rfl rfl rfl rfl fun w6 ss1 _ hs1=>?_);have st12:=st11.updB ss1 hs1;refine nx ?_;refine WL.nil (EX.np ?_);refine nx2 ?_;refine WC.cut1S (t:=46) (v:=.bool (!(findR s1.b.recs k).isSome && decide (4000≤s1.b.recs.length))) st12 ?_<|?_
   ·
    refine nx4 ?_;refine WL.gsplit (t:=38) rfl (fun g38=>?_) (fun g38=>?_)
    ·
     refine nx4 ?_;refine WP .r (PV.ld1 (j:=3) one29 st12.b4 rfl rfl)<|nx4 ?_;exact EX.meet1 12 rfl rfl rfl (by simp only [g38];first | rfl | (simp [hcl];done) | (simp;omega)) (st12)
    refine nx9 ?_;exact EX.meet1 12 rfl rfl rfl (by simp only [g38];first | rfl | (simp [hcl];done) | (simp;omega)) (st12)
   intro w7 st13;refine nx ?_;refine WC.cd (fun g46=>?_) fun g46=>?_
   ·
    rw [if_pos g46] at hev;simp only [Option.some.injEq] at hev;subst hev;refine nx5 ?_;refine WL.s1 st13.p4 fun w8 _ st14=>?_;refine nx ?_;have st15:=st14.eqA (B:=As.blk xb 135 (EA.cells E1 D.s bb {s1 with e:=45})) (rfl);refine nx7 ?_;refine EX.ret0 (.inl rfl) rfl<|?_;exact ⟨E1,_,rfl,hZ,(As.gr st15.g7),(As.gr st15.g8),st15.p6.p6.p10.p3.k4⟩
   rw [if_neg (by rw [g46];simp)] at hev;simp only [Option.some.injEq] at hev;subst hev
   have hrn:s1.ran.length+1≤1000000:=by simpa using hran
   refine nx3 ?_;have st14:=st13.p2.frzS (by omega);have hZ3:=hZ.trans (Zle.frz (F:=fun x=>x∈oblk a_rs) hfr) (Nat.le_refl _);have hN9:=st14.fplt;refine WC.drawnX (m:=15) [0] (E:=lookE [(14,fun v _=>v=.agg ((madeV s1.b k tt.value reads).row a_rs n_rs c_rs).toArray)]) st14 (lookE_st (⟨fun _ _ _ _ _ _ _ h=>h,trivial⟩)) mixed (by kernel_rfl) rfl ?_;refine nx5 ?_;refine DP .r (fun _ hC=>PV.ld1 (j:=3) one29 (Blk.range (As.gb hC.2.g4)) rfl rfl)<|nx3 ?_;refine DP .r (fun _ hC=>PV.ldM agg31 (Blk.range (As.gb hC.2.g4)) rfl rfl)<|DP .r (fun _ hC=>VA agg35 (Blk.range (As.gb hC.2.g9)) .r)<|nx ?_;refine DP .r (fun _ hC=>V1 one9 (Blk.range (As.gb hC.2.g2)) .r)<|nx ?_;refine DW.c0 (fun wx hC hF=>made_calls (k:=k) (v:=tt.value) (As.gr hC.2.g7) (As.gr hC.2.g8) (As.gr hC.2.g0))<|?_;refine DW.nil<|?_;rintro w8 ⟨hsz9,st15⟩ ⟨_,_⟩;have st16:=st15;refine WL.go rfl (OX.call cf150 rfl rfl ((putR_calls (x:=(madeV s1.b k tt.value reads)) st16.e0 (As.gr st16.g8) (by omega) (As.gr st16.g0) (by show reads.length≤4000;omega)).mono ?_));rintro _ w9 ⟨p1,p2,p3,Z4,rfl,hZ4a,hst9⟩;refine ⟨_,rfl,?_⟩;have st17:=St.leave (l0:=[]) st16 hst9 hZ4a;simp only [CA,NA] at st17;have hpl:(putR s1.b.recs (madeV s1.b k tt.value reads)).length≤s1.b.recs.length+1:=putGo_len (madeV s1.b k tt.value reads) s1.b.recs false;have hgp:=St.fresh0 hst9;have hsz4:=st16.size;have hZ4:=hZ3.trans hZ4a hsz4;have st18:=st17.frzS (by omega);have hZ5:=hZ4.trans (Zle.frz (F:=fun x=>x∈oblk p1) hgp) hsz4;refine nx3 ?_;refine WL.s1 (j:=3) st18.p5 fun w10 _ st19=>?_;refine WL.nil (EX.np ?_);have st20:=st19.eqA (B:=As.blk xb 135 (EA.cells ⟨E1.a1,p1,E1.a3,E1.n1,E1.c1,p2,p3,E1.n3,E1.c3⟩ D.s bb {s1 with b:={s1.b with recs:=putR s1.b.recs (madeV s1.b k tt.value reads)}})) (rfl);refine nx2 ?_;have hnr:=((As.gs st20.g7)).len;have hN10:=st20.fplt;have hzN10:=st20.zlt;have h0N10:=st20.size;refine WC.drawnX (m:=7) [0] (E:=lookE [(6,PS w10.heap.size 35 1 k.cells)]) st20 (lookE_st (⟨fun _ _ _ _ _ _ c h=>PS.st hN10 c h,trivial⟩)) mixed (by kernel_rfl) rfl ?_;refine nx4 ?_;refine DP .r (fun _ hC=>V1 one41 (Blk.range (As.gb hC.2.g0)) .r)<|DP .r (fun _ hC=>VA agg35 (Blk.range (As.gb hC.2.g10)) .r)<|?_;refine DW.e rfl rfl rfl rfl rfl (fun wx hC hF=>OX.bslice' (us:=k.cells) bs41_1 rfl rfl rfl rfl fun b wy nw hb=>⟨⟨Nat.le_trans hC.1 nw.ext.size,hC.2.step nw.ext⟩,nw.ext.p0,_,rfl,_,rfl,Nat.le_trans hC.1 nw.ge,hb⟩)<|?_;rintro _ wz _ ⟨b75,rfl,_,_⟩;refine DW.nil<|?_;rintro w11 ⟨hsz10,st21⟩ ⟨hF6,_⟩;have st22:=st21.addB (PS.pb hF6) hN10 hzN10 h0N10;refine WL.go rfl (OX.appR ap41 rfl rfl rfl (As.gs st22.g8) (SR.blk1 (A:=fun _=>True) (x:=k) (As.gb st22.g0) trivial rfl (by simp [Key.cells,Value.oneCell']) rfl) (by show (E1.n3+1)*_≤_;omega) (by show E1.n3+1≤_;omega) (Nat.zero_le _) fun a76 c'76 w12 h'76 s76 hf76 hn76=>?_);have st23:=st22.p8.updS s76 h'76 hf76;refine nx2 ?_;refine WL.s1 st23.p2 fun w13 _ st24=>?_;refine WL.nil (EX.np ?_);have st25:=st24.eqA (B:=As.blk xb 135 (EA.cells ⟨E1.a1,p1,a76,E1.n1,E1.c1,p2,p3,(E1.n3+1),c'76⟩ D.s bb {s1 with b:={s1.b with recs:=putR s1.b.recs (madeV s1.b k tt.value reads)},ran:=s1.ran++[k]})) (rfl);refine nx6 ?_;refine EX.ret0 (.inl rfl) rfl<|?_;exact ⟨⟨E1.a1,p1,a76,E1.n1,E1.c1,p2,p3,(E1.n3+1),c'76⟩,_,rfl,hZ5,(As.gr st25.g9),(As.gr st25.g3),st25.p1.p8.p12.p3.k4⟩
  rw [if_neg (by rw [g25];simp)] at hev;obtain ⟨t,hut,hev2⟩:=Option.bind_eq_some_iff.1 hev;have hnx:=hnx0 g25;have hgt:=(engine_good hR fu1).1 _ _ _ hut hg1 hnx.2;refine nx6 ?_;refine WP .r (PV.ldM agg35 st9.b0 rfl rfl)<|?_
  have hrt:t.ran.length≤1000000:=by
   split at hev2
   ·
    have:=((engine_good hR fu1).2.2 _ _ _ _ _ hev2 hgt.1 (by simpa using hnx.1) (by simp [hlen]) (fun a ha=>by rcases List.mem_append.1 ha with ha | ha;exact hrk a ha;simp at ha;subst ha;exact hnx.2)).2.ran
    omega
   have:=((engine_good hR fu1).2.2 _ _ _ _ _ hev2 hgt.1 hak1 hlen hrk).2.ran
   omega
  have st10:=st9.p5.p5.p9.p6;refine WL.go rfl (OX.call cf79 rfl rfl ((hup fu1 (by omega) _ _ _ _ _ _ _ st10.e4 (As.gr st10.g7) (As.gr st10.g8) hg1 hnx.2 hut hrt).mono ?_));rintro _ w5 ⟨E2,Z5,rfl,hZ5a,hi5,hr5,hst5⟩;refine ⟨_,rfl,?_⟩;have st11:=St.leave (l0:=[_,_,_,_]) st10 hst5 hZ5a;simp only [CA,NA] at st11;have hZ5:=hZ.trans hZ5a st10.size;have st12:=st11.fact (As.mkro (hi5)) (fun _ hx=>hx);have st13:=st12.fact (As.mkro (hr5)) (fun _ hx=>hx);have st14:=st13.p9.drop;have st15:=st14.p9.drop;refine nx7 ?_;refine WP .r (V1 one38 st15.b2 .r)<|nx3 ?_;refine WC.cd (fun g87=>?_) fun g87=>?_
  ·
   simp at g87
   rw [if_pos g87] at hev2;have st16:=st15.p7;have hN13:=st16.fplt;have hzN13:=st16.zlt;have h0N13:=st16.size;refine WC.drawnXT (m:=16) [5] (fun j w w'=>match j with | 4=>ChgP (fun x=>x∈oblk a_rs) w w' | _=>ChgP (fun _=>False) w w') (E:=lookE [(3,PS w5.heap.size 35 1 tt.ask.cells),(4,fun v w'=>∃a c,v=.slice a (n_rs+1) c∧(∀x∈oblk a,x∈oblk a_rs∨w5.heap.size≤x)∧Ow RR.key 35 2 Z5 w' a (n_rs+1) c (reads++[tt.ask]))]) st16 (lookE_stP (⟨⟨trivial,⟨fun _ _ _ _ _ c h=>PS.st (fun x hx=>hN13 x ⟨_,.head _,hx⟩) c h,trivial⟩⟩,⟨⟨trivial,⟨trivial,trivial⟩⟩,trivial⟩⟩)) mixed (by kernel_rfl) rfl ?_;refine nx2 ?_;refine DP .r (fun _ hC=>PV.ldM agg35 (Blk.range (As.gb hC.2.g7)) rfl rfl)<|?_;refine DW.e rfl rfl rfl rfl rfl (fun wx hC hF=>OX.bslice' (us:=tt.ask.cells) bs41_1 rfl rfl rfl rfl fun b wy nw hb=>⟨⟨Nat.le_trans hC.1 nw.ext.size,hC.2.step nw.ext⟩,nw.ext.p0,_,rfl,_,rfl,Nat.le_trans hC.1 nw.ge,hb⟩)<|?_;rintro _ wz _ ⟨b91,rfl,_,_⟩
   refine DW.e rfl rfl rfl rfl rfl (fun wx hC hF=>by
    obtain ⟨⟨b',hb1,hb2,hb3⟩,_⟩:=hF;simp only [Value.slice.injEq,Option.some.injEq,Addr.mk.injEq,and_true,true_and] at hb1;subst hb1;exact OX.appK ap41 rfl rfl rfl (As.gs hC.2.g0) (fun x hx=>hC.2.zfp _ M0 x hx) (SR.blk1 (A:=fun _=>True) (x:=tt.ask) hb3 trivial rfl (by simp [Key.cells,Value.oneCell']) rfl) (by omega) (by omega) fun a' c' wy h1 h2 h3 h4=>⟨⟨Nat.le_trans hC.1 h3.size,hC.2.same M0 h3.p h2⟩,h3.p,_,rfl,a',c',rfl,(fun x hx=>by rcases h4 x hx with h | h;exact .inl h;exact .inr (Nat.le_trans hC.1 h)),h1⟩) ?_
   rintro _ wz _ ⟨a4,c4,rfl,_,_⟩;refine nx4 ?_;refine DP .r (fun _ hC=>PV.ld0 one125 (Blk.range (As.gb hC.2.g3)) rfl rfl)<|nx3 ?_;refine DP .r (fun _ hC=>PV.ldM agg31 (Blk.range (As.gb hC.2.g3)) rfl rfl)<|nx ?_;refine DP .r (fun _ hC=>PV.ldM agg35 (Blk.range (As.gb hC.2.g7)) rfl rfl)<|DW.nil<|?_;rintro w6 ⟨hsz13,st17⟩ ⟨hF4,⟨hF3,_⟩⟩;obtain ⟨_,_,he4,hfp4,ho4⟩:=hF4;simp only [Value.slice.injEq,true_and] at he4;obtain ⟨rfl,rfl⟩:=he4;have st18:=st17;have st19:=st18.swap (B:=As.os RR.key 35 2 a4 (n_rs+1) c4 (reads++[tt.ask])) ho4 hfp4 hN13 hzN13 h0N13;refine WL.go rfl (OX.call cf153 rfl rfl ((answer_calls (k:=tt.ask) hR hnx.2 (st19.one (.tail _ (.tail _ (.tail _ (.tail _ (.head _)))))) (As.gr st19.g2) (As.gr st19.g1)).mono ?_));rintro _ w7 ⟨rfl,hst7⟩;refine ⟨_,rfl,?_⟩;have st20:=st19.sameC M4 hst7;refine WL.go rfl (OX.bslice' (us:=[.string (answerV (valOf rules x.inputs) t.b tt.ask)]) bs63_1 rfl rfl rfl rfl fun b105 w8 nw105 hb105=>?_);have st21:=st20.newB nw105 hb105;refine WL.ap rfl rfl st21.p9 (SR.blk1 (A:=fun _=>True) (x:=answerV (valOf rules x.inputs) t.b tt.ask) (As.gb st21.g0) trivial rfl (by simp [Value.oneCell']) rfl) fun a106 c'106 w9 hf106 hn106 st22=>?_;refine nx2 ?_;refine WL.nil (EX.np ?_);refine nx ?_;refine EX.again (fu1,t,E2,reads++[tt.ask],answers++[answerV (valOf rules x.inputs) t.b tt.ask],Z5,a4,(n_rs+1),c4,a106,(n_an+1),c'106) (Sub.k2 rfl rfl<|Sub.v<|Sub.v<|Sub.nil) ⟨st22.p1.drop.p8.drop.p8.p3.p4.p8.p8.p7.p6.p7,⟨hev2,hgt.1,by omega,hZ5,by simpa using hnx.1,by simp [hlen],(fun a ha=>by rcases List.mem_append.1 ha with ha | ha;exact hrk a ha;simp at ha;subst ha;exact hnx.2),(fun y hy=>by rcases hfp4 y hy with h | h;exact hfr y h;omega),trivial⟩⟩ (by first | (simp only [];omega) | omega)
  simp at g87
  rw [if_neg g87] at hev2;refine nx2 ?_;refine EX.again (fu1,t,E2,reads,answers,Z5,a_rs,n_rs,c_rs,a_an,n_an,c_an) (Sub.k2 rfl rfl<|Sub.v<|Sub.v<|Sub.nil) ⟨st15.p6.drop.p8.p1.p2.p6.p6.p5.p8.p8,⟨hev2,hgt.1,by omega,hZ5,hak1,hlen,hrk,hfr,trivial⟩⟩ (by first | (simp only [];omega) | omega)
 simp at g13
 rw [if_pos g13] at hev;simp only [Option.some.injEq] at hev;subst hev;refine nx4 ?_;refine EX.ret0 (.inr rfl) rfl<|?_;exact ⟨E1,_,rfl,hZ,(As.gr st6.g5),(As.gr st6.g6),st6.p4.p4.p8.p5.k4⟩
set_option maxHeartbeats 1600000 in
theorem up_calls {rules:List Rule} {x:Bas} {D:SD} {xb bb:Nat} {w:World} {M Z:Nat→Prop} {s:ES} {E:EA} {k:Key} {f:Nat} {s':ES} (hR:rulesOk rules) (hst:St w M Z w [As.blk xb 135 (E.cells D.s bb s),As.solv Tryz.prog 157 rules x D,As.map Key.val bb s.busy,As.os RR.key 35 2 E.a3 E.n3 E.c3 s.ran]) (hi:Rd RR.inp 4 Z w E.a1 E.n1 E.c1 s.b.inputs) (hr:Rd RR.rcd 8 Z w E.a2 E.n2 E.c2 s.b.recs) (hgd:Good rules x.inputs s) (hil:s.b.inputs.length≤1000000) (hk:Knd rules k) (hup:∀g,g<f→UpC rules x D xb bb g) (hev:upV rules (valOf rules x.inputs) (f+1) s k=some s') (hran:s'.ran.length≤1000000):Calls Tryz.prog 79 #[.pointer (some ⟨xb,0,none⟩),k.val] w fun e w'=>∃(E':EA) (Z':Nat→Prop),e=.returned (.tuple #[])∧Zle w.heap.size Z Z'∧Rd RR.inp 4 Z' w' E'.a1 E'.n1 E'.c1 s'.b.inputs∧Rd RR.rcd 8 Z' w' E'.a2 E'.n2 E'.c2 s'.b.recs∧St w M Z' w' [As.blk xb 135 (E'.cells D.s bb s'),As.solv Tryz.prog 157 rules x D,As.map Key.val bb s'.busy,As.os RR.key 35 2 E'.a3 E'.n3 E'.c3 s'.ran]:=by
 unfold upV at hev
 have hbk:(mget s.busy k).getD (.bool false)=.bool (s.on k):=by unfold ES.on;rcases hgd.busy k with h | h <;> rw [h] <;> rfl
 refine enter Tryz.func79 rfl Tryz.ntmps79 rfl<|?_;have st0:=hst;have st1:=st0.fact (As.mkro hi) (fun _ hx=>hx);have st2:=st1.fact (As.mkro hr) (fun _ hx=>hx);refine nx2 ?_;refine WL.go rfl (OX.box rfl rfl rfl fun b3 w1 nw3 hb3=>?_);have st3:=st2.newB nw3 hb3;refine nx4 ?_;refine WC.cut1S (t:=14) (v:=.bool (decide (s.e≠0) || isInput k)) st3 ?_<|?_
 ·
  refine nx4 ?_;refine WP .r (V1 one38 st3.b3 .r)<|nx2 ?_;refine WL.gsplit (t:=11) rfl (fun g11=>?_) (fun g11=>?_)
  ·
   refine nx4 ?_;exact EX.meet1 10 rfl rfl rfl (by simp only [g11];first | rfl | simp) (st3)
  refine WP .r (VA agg35 st3.b0 .r)<|?_;refine WL.c0 (input_calls (k:=k)) st3 fun w2 s2 st4=>?_;refine nx2 ?_;exact EX.meet1 10 rfl rfl rfl (by simp only [g11];first | rfl | simp) (st4)
 intro w2 st4;refine nx ?_;refine WC.cd (fun g14=>?_) fun g14=>?_
 ·
  rw [if_pos (by simpa using g14)] at hev;simp only [Option.some.injEq] at hev;subst hev;refine nx2 ?_;refine EX.ret0 (.inl rfl) rfl<|?_;exact ⟨E,Z,rfl,Zle.refl _ _,(As.gr st4.g2),(As.gr st4.g1),st4.p6.p6.p6.p6.k4⟩
 have hni:isInput k=false:=by simp at g14;exact g14.2
 rw [if_neg (by simpa using g14)] at hev;refine nx4 ?_;have hN2:=st4.fplt;have hzN2:=st4.zlt;have h0N2:=st4.size;refine WC.drawnX (m:=11) [9] (E:=lookE [(6,fun v _=>∃f1 f2 f3,v=.tuple #[.agg ((recOf s.b.recs k).row f1 f2 f3).toArray,.bool (findR s.b.recs k).isSome]),(10,PB w2.heap.size 116 [.int .i64 0,.string ⟨#[]⟩,.string ⟨#[]⟩,.slice none 0 0,.int .i64 0,.int .i64 0,.int .i64 0,.bool false])]) st4 (lookE_st (⟨fun _ _ _ _ _ _ _ h=>h,⟨fun _ _ _ _ _ _ c h=>PB.st hN2 c h,trivial⟩⟩)) mixed (by kernel_rfl) rfl ?_;refine nx4 ?_;refine DP .r (fun _ hC=>PV.ld1 (j:=3) one29 (Blk.range (As.gb hC.2.g3)) rfl rfl)<|DP .r (fun _ hC=>VA agg35 (Blk.range (As.gb hC.2.g0)) .r)<|?_;refine DW.e rfl rfl rfl rfl rfl (fun wx hC hF=>OX.call cf117 rfl rfl ((findR_calls0 (k:=k) (As.gr hC.2.g1)).mono ?_))<|?_
 ·
  rintro _ wy ⟨f1,f2,f3,rfl,hy⟩;exact ⟨_,rfl,⟨Nat.le_trans hC.1 hy.size,hC.2.step hy⟩,hy.p0,_,rfl,⟨f1,f2,f3,rfl⟩⟩
 rintro _ wz _ ⟨f1,f2,f3,rfl⟩;refine nx3 ?_;refine DW.e rfl rfl rfl rfl rfl (fun wx hC hF=>OX.alloc zv116 rfl fun b wy nw hb=>⟨⟨Nat.le_trans hC.1 nw.ext.size,hC.2.step nw.ext⟩,nw.ext.p0,_,rfl,_,rfl,Nat.le_trans hC.1 nw.ge,hb⟩)<|?_;rintro _ wz _ ⟨b4,rfl,_,_⟩;refine DW.nil<|?_;rintro w3 ⟨hsz2,st5⟩ ⟨hF10,⟨_,_⟩⟩;have st6:=st5.addB hF10 hN2 hzN2 h0N2;refine WL.go rfl (OX.stW sz116 (As.gb st6.g0) rfl rfl rfl rfl rfl fun w4 ss0 _ hs0=>?_);have st7:=st6.updB ss0 hs0;refine nx ?_;refine WL.nil (EX.np ?_);refine nx2 ?_;refine WC.cut1S (t:=35) (v:=.bool (upNow s.b k)) st7 ?_<|?_
 ·
  have hN3:=st7.fplt;refine WC.drawnS (m:=9) (E:=lookE []) st7 (lookE_st (trivial)) mixed (by kernel_rfl)<|nx2 ?_;refine DW.gsplit (t:=26) rfl (fun g26=>?_) (fun g26=>?_)
  ·
   refine nx ?_;refine DP .r (fun _ hC=>V1 one3 (Blk.range (As.gb hC.2.g0)) .r)<|nx4 ?_;refine DP .r (fun _ hC=>PV.ld1 (j:=1) one3 (Blk.range (As.gb hC.2.g4)) rfl rfl)<|DW.nil<|?_;rintro w5 ⟨hsz3,st8⟩ _;refine nx3 ?_;exact EX.meet1 12 rfl rfl rfl (by unfold upNow;simp only [g26];first | rfl | simp) (st8)
  refine nx7 ?_;refine DW.nil<|?_;rintro w5 ⟨hsz3,st8⟩ _;refine nx3 ?_;exact EX.meet1 12 rfl rfl rfl (by unfold upNow;simp only [g26];first | rfl | simp) (st8)
 intro w5 st8;refine nx ?_;refine WC.cd (fun g35=>?_) fun g35=>?_
 ·
  rw [if_pos g35] at hev;simp only [Option.some.injEq] at hev;subst hev;refine nx2 ?_;refine EX.ret0 (.inl rfl) rfl<|?_;exact ⟨E,Z,rfl,Zle.refl _ _,(As.gr st8.g3),(As.gr st8.g2),st8.p7.p7.p7.p7.k4⟩
 rw [if_neg (by rw [g35];simp)] at hev;refine nx4 ?_;have hN4:=st8.fplt;refine WC.drawnS (m:=5) (E:=lookE []) st8 (lookE_st (trivial)) mixed (by kernel_rfl)<|nx3 ?_;refine DP .r (fun _ hC=>V1 one67 (Blk.range (As.gb hC.2.g4)) .r)<|DP .r (fun _ hC=>VA agg35 (Blk.range (As.gb hC.2.g1)) .r)<|DW.nil<|?_;rintro w6 ⟨hsz4,st9⟩ _;refine WP .r (PV.lookD kk35 und67 zvv4 (As.gm st9.g6) (hbk) rfl rfl)<|nx2 ?_;refine WC.cd (fun g41=>?_) fun g41=>?_
 ·
  rw [if_pos g41] at hev;refine nx3 ?_;refine WP .r (VA agg35 st9.b1 .r)<|?_;refine WL.c0 (cyclic_calls (k:=k)) st9 fun w7 s7 st10=>?_;refine nx3 ?_;refine WC.cd (fun g44=>?_) fun g44=>?_
  ·
   simp at g44
   rw [if_neg (by rw [g44];simp)] at hev;simp only [Option.some.injEq] at hev;subst hev;refine nx4 ?_;refine WL.s1 st10.p4 fun w8 _ st11=>?_;refine nx ?_;have st12:=st11.eqA (B:=As.blk xb 135 (EA.cells E D.s bb {s with e:=43})) (rfl);refine nx3 ?_;refine EX.ret0 (.inl rfl) rfl<|?_;exact ⟨E,Z,rfl,Zle.refl _ _,(As.gr st12.g4),(As.gr st12.g3),st12.p7.p7.p7.p3.k4⟩
  simp at g44
  rw [if_pos g44] at hev;simp only [Option.some.injEq] at hev;subst hev;refine nx4 ?_;refine EX.ret0 (.inl rfl) rfl<|?_;exact ⟨E,Z,rfl,Zle.refl _ _,(As.gr st10.g3),(As.gr st10.g2),st10.p7.p7.p7.p7.k4⟩
 rw [if_neg (by rw [g41];simp)] at hev;refine nx3 ?_;have hN7:=st9.fplt;refine WC.drawnS (m:=5) (E:=lookE []) st9 (lookE_st (trivial)) mixed (by kernel_rfl)<|nx3 ?_;refine DP .r (fun _ hC=>V1 one67 (Blk.range (As.gb hC.2.g4)) .r)<|DP .r (fun _ hC=>VA agg35 (Blk.range (As.gb hC.2.g1)) .r)<|DW.nil<|?_;rintro w7 ⟨hsz7,st10⟩ _;refine WL.go rfl (OX.put kk35 und67 (As.gm st10.g6) rfl rfl rfl fun w8 smp1 hmp1=>?_);have st11:=st10.p6.updM smp1 hmp1;refine nx ?_;obtain ⟨⟨s2,r2⟩,hp,hev⟩:=Option.bind_eq_some_iff.1 hev;obtain ⟨s3,hs3,hev⟩:=Option.bind_eq_some_iff.1 hev;simp only [Option.some.injEq] at hev;subst hev;have hg2:=(engine_good hR f).2.1 _ _ _ _ _ hp (hgd.on k);have hak:=hk.ans hni;have hran3:s3.ran.length≤1000000:=hran
 have hran2:s2.ran.length≤1000000:=by
  split at hs3
  ·
   have:=((engine_good hR f).2.2 _ _ _ _ _ hs3 hg2.1 hak rfl (fun a ha=>by cases ha)).2.ran
   exact Nat.le_trans this hran3
  simp only [Option.some.injEq] at hs3;subst hs3;exact hran3
 have hil2:s2.b.inputs.length≤1000000:=by rw [hg2.1.inp,← hgd.inp];exact hil
 refine nx5 ?_;refine WP .r (VA agg35 st11.b2 .r)<|?_;have st12:=st11.p7.p1.p7.p7;refine WL.go rfl (OX.call cf118 rfl rfl ((check_calls (s:={s with busy:=mput s.busy k (.bool true)}) (E:=E) hR st12.e4 (As.gr st12.g7) (As.gr st12.g6) (hgd.on k) hil hup hp hran2).mono ?_));rintro _ w9 ⟨E2,Z2,rfl,hZ2a,hi2f,hr2f,hst9⟩;refine ⟨_,rfl,?_⟩;have st13:=St.leave (l0:=[_,_,_,_]) st12 hst9 hZ2a;simp only [CA,NA] at st13;have hZ2:=(Zle.refl w.heap.size Z).trans hZ2a st12.size;have st14:=st13.fact (As.mkro (hi2f)) (fun _ hx=>hx);have st15:=st14.fact (As.mkro (hr2f)) (fun _ hx=>hx);have st16:=st15.p9.drop;have st17:=st16.p8.drop;refine nx2 ?_;refine WC.cd (fun g55=>?_) fun g55=>?_
 ·
  rw [if_pos g55] at hs3;refine nx2 ?_;refine WP .r (VA agg35 (Blk.range (As.gb st17.g7)) .r)<|?_;have st18:=st17.p5.p5.p5.p5;refine WL.go rfl (OX.call cf119 rfl rfl ((run_calls (s:=s2) (E:=E2) hR st18.e4 (As.gr st18.g5) (As.gr st18.g4) hg2.1 hil2 hak hup hs3 hran3).mono ?_));rintro _ w10 ⟨E3,Z3,rfl,hZ3a,hi3f,hr3f,hst10⟩;refine ⟨_,rfl,?_⟩;have st19:=St.leave (l0:=[_,_,_,_]) st18 hst10 hZ3a;simp only [CA,NA] at st19;have hZe:=hZ2.trans hZ3a st18.size;have st20:=st19.fact (As.mkro (hi3f)) (fun _ hx=>hx);have st21:=st20.fact (As.mkro (hr3f)) (fun _ hx=>hx);have st22:=st21.p7.drop;have st23:=st22.p6.drop;refine nx2 ?_;have hN10:=st23.fplt;refine WC.drawnS (m:=5) (E:=lookE []) st23 (lookE_st (trivial)) mixed (by kernel_rfl)<|nx3 ?_;refine DP .r (fun _ hC=>V1 one67 (Blk.range (As.gb hC.2.g2)) .r)<|DP .r (fun _ hC=>VA agg35 (Blk.range (As.gb hC.2.g7)) .r)<|DW.nil<|?_;rintro w11 ⟨hsz10,st24⟩ _;refine WL.go rfl (OX.del kk35 und67 (As.gm st24.g4) rfl rfl fun w12 smp2 hmp2=>?_);have st25:=st24.p4.updM smp2 hmp2;refine nx ?_;refine EX.ret0 (.inr rfl) rfl<|?_;exact ⟨_,_,rfl,hZe,(As.gr st25.g2),(As.gr st25.g1),st25.p5.p1.p5.p5.k4⟩
 rw [if_neg (by rw [g55];simp)] at hs3;simp only [Option.some.injEq] at hs3;subst hs3;have hZe:=hZ2;refine nx2 ?_;have hN10:=st17.fplt;refine WC.drawnS (m:=5) (E:=lookE []) st17 (lookE_st (trivial)) mixed (by kernel_rfl)<|nx3 ?_;refine DP .r (fun _ hC=>V1 one67 (Blk.range (As.gb hC.2.g2)) .r)<|DP .r (fun _ hC=>VA agg35 (Blk.range (As.gb hC.2.g7)) .r)<|DW.nil<|?_;rintro w10 ⟨hsz10,st18⟩ _;refine WL.go rfl (OX.del kk35 und67 (As.gm st18.g4) rfl rfl fun w11 smp3 hmp3=>?_);have st19:=st18.p4.updM smp3 hmp3;refine nx ?_;refine EX.ret0 (.inr rfl) rfl<|?_;exact ⟨_,_,rfl,hZe,(As.gr st19.g2),(As.gr st19.g1),st19.p5.p1.p5.p5.k4⟩
theorem up_all {rules:List Rule} {x:Bas} {D:SD} {xb bb:Nat} (hR:rulesOk rules) (hil:x.inputs.length≤1000000):∀f,UpC rules x D xb bb f:=by
 intro f
 induction f using Nat.strongRecOn with
 | _ f ih=>
  intro w M Z s E k s' hst hi hr hgd hk hev hran
  cases f with
  | zero=>simp [upV] at hev
  | succ f=>exact up_calls hR hst hi hr hgd (by rw [hgd.inp];exact hil) hk (fun g hg=>ih g (by omega)) hev hran
theorem iatoi_calls {s:ByteArray} (hs:s.size≤1000) (w:World):Calls Tryz.prog 161 #[.string s] w fun e w'=>∃(v:Int) (ok:Bool) (ev:Value),e=.returned (.tuple #[.int .i64 v,ev])∧(-9223372036854775808≤v∧v≤9223372036854775807)∧((ok=true∧ev=.nilIface)∨(ok=false∧∃t y,ev=.iface t y))∧(ok=false→ev=.iface 221 (.int .i64 2)∨ev=.iface 221 (.int .i64 1))∧Chg [] w w':=by
 refine (Any.internal_strconv_Atoi_all {Tryz.laysC172 with} s (by omega) w).mono fun e w' ⟨he,hw⟩=>?_
 have hc:Chg [] w w':=by
  rcases hw with rfl | ⟨t,rfl⟩
  ·
   exact Chg.refl _ _
  exact chg_bytes _ _ _
 cases h:Lib.atoiAll s.data.toList
 ·
  rename_i v
  rw [h] at he;exact ⟨v,true,.nilIface,he,Lib.atoiAll_bounds h,.inl ⟨rfl,rfl⟩,(fun e=>by cases e),hc⟩
 ·
  rw [h] at he;exact ⟨0,false,_,he,by decide,.inr ⟨rfl,_,_,rfl⟩,fun _=>.inl rfl,hc⟩
 rw [h] at he;exact ⟨Lib.atoiSat s.data.toList,false,_,he,Lib.atoiSat_bounds _,.inr ⟨rfl,_,_,rfl⟩,fun _=>.inr rfl,hc⟩
set_option maxHeartbeats 400000
theorem ptoy_calls {n:Int} {w:World}:Calls Tryz.prog 123 #[.int .i64 n] w fun e w'=>e=.returned (.bool (decide (30≤n) && decide (n≤32)))∧Chg [] w w':=by
 refine enter Tryz.func123 rfl Tryz.ntmps123 rfl<|?_;have st0:St w (fun _=>False) (fun _=>False) w []:=St.start (by simp);refine nx6 ?_;refine WC.cut1Se (t:=2) (v:=.bool (decide (30≤n) && decide (n≤32))) st0 ?_<|?_
 ·
  refine nx4 ?_;refine WL.gsplit (t:=5) rfl (fun g5=>?_) (fun g5=>?_)
  ·
   refine nx5 ?_;exact EX.meet1e 8 rfl rfl rfl (by simp only [g5];first | rfl | simp) (st0)
  refine nx5 ?_;exact EX.meet1e 8 rfl rfl rfl (by simp only [g5];first | rfl | simp) (st0)
 intro w1 st1;refine nx2 ?_;refine EX.ret1 rfl rfl<|?_;exact ⟨rfl,(St.cg st1)⟩
theorem plang_calls {n:Int} {w:World}:Calls Tryz.prog 91 #[.int .i64 n] w fun e w'=>e=.returned (.bool (decide (1≤n) && decide (n≤22)))∧Chg [] w w':=by
 refine enter Tryz.func91 rfl Tryz.ntmps91 rfl<|?_;have st0:St w (fun _=>False) (fun _=>False) w []:=St.start (by simp);refine nx6 ?_;refine WC.cut1Se (t:=2) (v:=.bool (decide (1≤n) && decide (n≤22))) st0 ?_<|?_
 ·
  refine nx4 ?_;refine WL.gsplit (t:=5) rfl (fun g5=>?_) (fun g5=>?_)
  ·
   refine nx5 ?_;exact EX.meet1e 8 rfl rfl rfl (by simp only [g5];first | rfl | simp) (st0)
  refine nx5 ?_;exact EX.meet1e 8 rfl rfl rfl (by simp only [g5];first | rfl | simp) (st0)
 intro w1 st1;refine nx2 ?_;refine EX.ret1 rfl rfl<|?_;exact ⟨rfl,(St.cg st1)⟩
theorem pinput_calls {k:Key} {w:World}:Calls Tryz.prog 54 #[k.val] w fun e w'=>e=.returned (.bool (isInput k))∧Chg [] w w':=by
 refine enter Tryz.func54 rfl Tryz.ntmps54 rfl<|?_;have st0:St w (fun _=>False) (fun _=>False) w []:=St.start (by simp);refine nx2 ?_;refine WL.go rfl (OX.box rfl rfl rfl fun b1 w1 nw1 hb1=>?_);have st1:=st0.newB nw1 hb1;refine nx4 ?_;refine WC.cut1Se (t:=2) (v:=.bool (isInput k)) st1 ?_<|?_
 ·
  refine nx2 ?_;refine WP .r (V1 one3 st1.b0 .r)<|nx2 ?_;refine WL.gsplit (t:=6) rfl (fun g6=>?_) (fun g6=>?_)
  ·
   refine nx11 ?_;exact EX.meet1e 15 rfl rfl rfl (by unfold isInput;simp only [g6];first | rfl | simp) (st1)
  refine nx ?_;refine WP .r (V1 one3 st1.b0 .r)<|nx3 ?_;refine WL.gsplit (t:=11) rfl (fun g11=>?_) (fun g11=>?_)
  ·
   refine nx6 ?_;exact EX.meet1e 16 rfl rfl rfl (by unfold isInput;simp only [g6,g11];first | rfl | simp) (st1)
  refine nx ?_;refine WP .r (V1 one3 st1.b0 .r)<|nx4 ?_;exact EX.meet1e 16 rfl rfl rfl (by unfold isInput;simp only [g6,g11];first | rfl | simp) (st1)
 intro w2 st2;refine nx2 ?_;refine EX.ret1 rfl rfl<|?_;exact ⟨rfl,(St.cg st2)⟩
theorem prule_calls {k:Key} {w:World}:Calls Tryz.prog 87 #[k.val] w fun e w'=>e=.returned (.bool (decide (k.kind=31) || decide (k.kind=32)))∧Chg [] w w':=by
 refine enter Tryz.func87 rfl Tryz.ntmps87 rfl<|?_;have st0:St w (fun _=>False) (fun _=>False) w []:=St.start (by simp);refine nx2 ?_;refine WL.go rfl (OX.box rfl rfl rfl fun b1 w1 nw1 hb1=>?_);have st1:=st0.newB nw1 hb1;refine nx4 ?_;refine WC.cut1Se (t:=2) (v:=.bool (decide (k.kind=31) || decide (k.kind=32))) st1 ?_<|?_
 ·
  refine nx2 ?_;refine WP .r (V1 one3 st1.b0 .r)<|nx2 ?_;refine WL.gsplit (t:=6) rfl (fun g6=>?_) (fun g6=>?_)
  ·
   refine nx6 ?_;exact EX.meet1e 10 rfl rfl rfl (by simp only [g6];first | rfl | simp) (st1)
  refine nx ?_;refine WP .r (V1 one3 st1.b0 .r)<|nx4 ?_;exact EX.meet1e 10 rfl rfl rfl (by simp only [g6];first | rfl | simp) (st1)
 intro w2 st2;refine nx2 ?_;refine EX.ret1 rfl rfl<|?_;exact ⟨rfl,(St.cg st2)⟩
theorem pcyclic_calls {k:Key} {w:World} (hk:notLang k):Calls Tryz.prog 56 #[k.val] w fun e w'=>e=.returned (.bool (decide (k.kind=32)))∧Chg [] w w':=by
 refine enter Tryz.func56 rfl Tryz.ntmps56 rfl<|?_;have st0:St w (fun _=>False) (fun _=>False) w []:=St.start (by simp);refine nx2 ?_;refine WL.go rfl (OX.box rfl rfl rfl fun b1 w1 nw1 hb1=>?_);have st1:=st0.newB nw1 hb1;refine nx4 ?_;refine WC.cut1Se (t:=2) (v:=.bool (decide (k.kind=32))) st1 ?_<|?_
 ·
  refine nx2 ?_;refine WP .r (V1 one3 st1.b0 .r)<|nx2 ?_;refine WL.gsplit (t:=6) rfl (fun g6=>?_) (fun g6=>?_)
  ·
   refine nx11 ?_;exact EX.meet1e 15 rfl rfl rfl (by simp only [g6];first | done | rfl | simp) (st1)
  refine nx ?_;refine WP .r (V1 one3 st1.b0 .r)<|?_;refine WL.go rfl (OX.call cf91 rfl rfl ((plang_calls (n:=k.kind)).mono ?_));rintro _ w2 ⟨rfl,s2⟩;refine ⟨_,rfl,?_⟩;rw [show (decide (1≤k.kind) && decide (k.kind≤22))=false by (rcases hk with h | h <;> simp <;> omega)];have st2:=st1.step s2;refine nx8 ?_;exact EX.meet1e 15 rfl rfl rfl (by simp only [g6];first | done | rfl | simp) (st2)
 intro w2 st2;refine nx2 ?_;refine EX.ret1 rfl rfl<|?_;exact ⟨rfl,(St.cg st2)⟩
theorem pnumber_calls {k:Key} {n:Nat} {w:World} (hk:30≤k.kind∧k.kind≤32) (ht:k.text=itoa n) (hn:n≤99):Calls Tryz.prog 89 #[k.val] w fun e w'=>e=.returned (.int .i64 (n:Int))∧Chg [] w w':=by
 obtain ⟨kd,tx⟩:=k;simp only at hk ht;subst ht;refine enter Tryz.func89 rfl Tryz.ntmps89 rfl<|?_;have st0:St w (fun _=>False) (fun _=>False) w []:=St.start (by simp);refine nx2 ?_;refine WL.go rfl (OX.box rfl rfl rfl fun b1 w1 nw1 hb1=>?_);have st1:=st0.newB nw1 hb1;refine nx7 ?_;refine WP .r (V1 one3 st1.b0 .r)<|?_;refine WL.go rfl (OX.call cf123 rfl rfl ((ptoy_calls (n:=kd)).mono ?_));rintro _ w2 ⟨rfl,s2⟩;refine ⟨_,rfl,?_⟩;rw [show (decide (30≤kd) && decide (kd≤32))=true by (simp;omega)];have st2:=st1.step s2;refine nx3 ?_;refine WC.condF rfl<|nx5 ?_;refine WP .r (V1 one9 st2.b0 .r)<|?_;refine WL.c0 (atoi_small hn w2) st2 fun w3 s3 st3=>?_;refine nx9 ?_;refine WC.cut1S (t:=31) (v:=.bool false) st3 ?_<|?_
 ·
  have hN4:=st3.fplt;refine WC.drawnS (m:=15) (E:=lookE [(12,fun v _=>v=.string (itoa n))]) st3 (lookE_st (⟨fun _ _ _ _ _ _ _ h=>h,trivial⟩)) mixed (by kernel_rfl)<|nx ?_;refine DP .r (fun _ hC=>PV.neIN nif168 rfl)<|nx ?_;refine DW.gsplit (t:=17) rfl (fun g17=>?_) (fun g17=>?_)
  ·
   refine nx12 ?_;refine DW.nil<|?_;rintro w4 ⟨hsz4,st4⟩ _;refine nx3 ?_;exact EX.meet1 18 rfl rfl rfl (tG g17) (st4)
  refine nx4 ?_;refine DW.gsplit (t:=21) rfl (fun g21=>?_) (fun g21=>?_)
  ·
   refine nx8 ?_;refine DW.nil<|?_;rintro w4 ⟨hsz4,st4⟩ _;refine nx3 ?_;exact EX.meet1 19 rfl rfl rfl (tG (aj g17 g21)) (st4)
  refine nx4 ?_;refine DW.gsplit (t:=25) rfl (fun g25=>?_) (fun g25=>?_)
  ·
   refine nx4 ?_;refine DW.nil<|?_;rintro w4 ⟨hsz4,st4⟩ _;refine nx3 ?_;exact EX.meet1 20 rfl rfl rfl (tG (aj g17<|aj g21 g25)) (st4)
  refine nx ?_;refine DW.c0 (fun wx hC hF=>itoa_small (n:=(n:Int)) (by omega) (by omega) wx)<|nx ?_;refine DP .r (fun _ hC=>V1 one9 (Blk.range (As.gb hC.2.g0)) .r)<|DW.nil<|?_;rintro w4 ⟨hsz4,st4⟩ ⟨_,_⟩;refine nx3 ?_;exact EX.meet1 20 rfl rfl rfl (tG (aj g17<|aj g21 g25)) (st4)
 intro w4 st4;refine nx ?_;refine WC.cd (fun g31=>?_) fun g31=>?_
 ·
  exact absurd g31 (by simp)
 ·
  refine nx9 ?_;refine EX.ret1 rfl rfl<|?_;exact ⟨rfl,(St.cg st4)⟩
 -- UNUSED ANNOTATIONS C8.T
theorem pvalidK_calls {k:Key} {n:Nat} {w:World} (hk:30≤k.kind∧k.kind≤32) (ht:k.text=itoa n) (hn:n≤99):Calls Tryz.prog 86 #[k.val] w fun e w'=>e=.returned (.bool true)∧Chg [] w w':=by
 refine enter Tryz.func86 rfl Tryz.ntmps86 rfl<|?_;have st0:St w (fun _=>False) (fun _=>False) w []:=St.start (by simp);refine nx2 ?_;refine WL.go rfl (OX.box rfl rfl rfl fun b1 w1 nw1 hb1=>?_);have st1:=st0.newB nw1 hb1;refine nx7 ?_;refine WP .r (V1 one3 st1.b0 .r)<|?_;refine WL.go rfl (OX.call cf123 rfl rfl ((ptoy_calls (n:=k.kind)).mono ?_));rintro _ w2 ⟨rfl,s2⟩;refine ⟨_,rfl,?_⟩;rw [show (decide (30≤k.kind) && decide (k.kind≤32))=true by (simp;omega)];have st2:=st1.step s2;refine nx2 ?_;refine WC.condT rfl<|nx2 ?_;refine WP .r (VA agg35 st2.b0 .r)<|?_;refine WL.c0 (pnumber_calls (k:=k) hk ht hn) st2 fun w3 s3 st3=>?_;refine nx6 ?_;refine EX.ret1 rfl rfl<|?_;exact ⟨by simp,(St.cg st3)⟩
theorem pof_calls {rules:List Rule} {A:Nat→Prop} {a:Option Addr} {r c:Nat} {n:Int} {w:World} (hr:Rules A w a r c rules):Calls Tryz.prog 88 #[.slice a r c,.int .i64 n] w fun e w'=>e=.returned (ofK rules n).val∧Chg [] w w':=by
 have hle:=hr.le;have hlen:=hr.len;refine enter Tryz.func88 rfl Tryz.ntmps88 rfl<|?_;have st0:St w (fun _=>False) (fun _=>False) w []:=St.start (by simp);refine nx2 ?_;refine WL.al st0 fun b4 w1 nw4 hb4 st1=>?_;refine nx4 ?_;refine WC.cut1S (t:=17) (v:=.bool (decide (n<0) || (decide ((r:Int)≤n) || decide (99<n)))) st1 ?_<|?_
 ·
  refine nx4 ?_;refine WL.gsplit (t:=8) rfl (fun g8=>?_) (fun g8=>?_)
  ·
   refine nx10 ?_;exact EX.meet1 13 rfl rfl rfl (by simp only [g8];first | rfl | simp) (st1)
  refine nx6 ?_;refine WL.gsplit (t:=14) rfl (fun g14=>?_) (fun g14=>?_)
  ·
   refine nx4 ?_;exact EX.meet1 14 rfl rfl rfl (by simp only [g8,g14];first | rfl | simp) (st1)
  refine nx4 ?_;exact EX.meet1 14 rfl rfl rfl (by simp only [g8,g14];first | rfl | simp) (st1)
 intro w2 st2;refine nx ?_;refine WC.cd (fun g17=>?_) fun g17=>?_
 ·
  have hk:ofK rules n=noKey:=by unfold ofK;rw [if_pos (by simp at g17;omega)]
  refine nx3 ?_;refine WL.go rfl (OX.stW sz35 (As.gb st2.g0) rfl rfl rfl rfl rfl fun w3 ss0 _ hs0=>?_);have st3:=st2.updB ss0 hs0;refine nx4 ?_;refine EX.retC agg35 rfl rfl st3.b0 rfl<|?_;rw [hk];exact ⟨rfl,(St.cg st3)⟩
 simp at g17
 obtain ⟨i,rfl⟩:∃i:Nat,n=i:=⟨n.toNat,by omega⟩
 have hi:i<rules.length:=by omega
 have hk:ofK rules i=⟨if ringAt rules i then 32 else 31,itoa i⟩:=by unfold ofK;rw [if_neg (by omega)];rfl
 have hri:=ringAt_get hi;refine nx9 ?_;obtain ⟨b_x,o_x,r_x,ha_x,_,⟨q1,q2,q3,rfl,_⟩,hr_x,_⟩:=(hr.ext (St.cg st2)).at (getElem_some hi);refine nx3 ?_;refine WP .r (PV.ixS sl27 ha_x rfl rfl (by omega))<|nx ?_;refine WP .r (PV.ld1 (j:=0) one4 hr_x rfl rfl)<|nx2 ?_;refine WC.cd (fun g23=>?_) fun g23=>?_
 ·
  have hk2:ofK rules i=⟨32,itoa i⟩:=by rw [hk,hri,g23];rfl
  refine nx8 ?_;refine WL.c0 (itoa_small (n:=(i:Int)) (by omega) (by omega) w2) st2 fun w3 s3 st3=>?_;refine WP .r (PV.build' (us:=_) bt35 rfl rfl rfl)<|?_;refine WL.go rfl (OX.stW sz35 (As.gb st3.g0) rfl rfl rfl rfl rfl fun w4 ss1 _ hs1=>?_);have st4:=st3.updB ss1 hs1;refine nx3 ?_;refine EX.retC agg35 rfl rfl st4.b0 rfl<|?_;rw [hk2];exact ⟨rfl,(St.cg st4)⟩
 have hk2:ofK rules i=⟨31,itoa i⟩:=by rw [hk,hri,g23];rfl
 refine nx6 ?_;refine WL.c0 (itoa_small (n:=(i:Int)) (by omega) (by omega) w2) st2 fun w3 s3 st3=>?_;refine WP .r (PV.build' (us:=_) bt35 rfl rfl rfl)<|?_;refine WL.go rfl (OX.stW sz35 (As.gb st3.g0) rfl rfl rfl rfl rfl fun w4 ss2 _ hs2=>?_);have st4:=st3.updB ss2 hs2;refine nx3 ?_;refine EX.retC agg35 rfl rfl st4.b0 rfl<|?_;rw [hk2];exact ⟨rfl,(St.cg st4)⟩
end Go.Rc

