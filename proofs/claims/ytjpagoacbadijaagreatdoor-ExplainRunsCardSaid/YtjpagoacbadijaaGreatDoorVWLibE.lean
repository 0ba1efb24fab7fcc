/- Walks over the program, part WLibE. Conditions: as each theorem says. -/
import Derived.Test.YtjpagoacbadijaaGreatDoorVFacts
import Derived.Test.YtjpagoacbadijaaGreatDoorVWK
import Derived.Test.YtjpagoacbadijaaGreatDoorVBe
import Derived.Test.YtjpagoacbadijaaGreatDoorVWB
import Derived.Test.YtjpagoacbadijaaGreatDoorVBd
import Derived.Test.YtjpagoacbadijaaGreatDoorShelf
import Derived.Test.YtjpagoacbadijaaGreatDoorVWD
import Derived.Test.YtjpagoacbadijaaGreatDoorVBf
import Derived.Test.YtjpagoacbadijaaGreatDoorVBb
set_option linter.all false
namespace Go.Rc
open Go Go.Proofs Go.Proofs.Tryz
variable {ab:List aG}{x:dP}{D:SD}{xb bb:Nat}{w:World}{M Z A:Nat→Prop}{s f:ByteArray}{E:EA}{k:Key}{s':ES}{n:Int}{t:TypeId}{p:Value}
set_option maxHeartbeats 400000
def UpC(ab:List aG) (x:dP) (D:SD) (xb bb f:Nat):Prop:=∀(w:World) (M Z:Nat→Prop) (s:ES) (E:EA) (k:Key) (s':ES),St w M Z w [As.blk xb 88 (E.cells D.s bb s),As.l3 prog 134 ab x D,As.map Key.val bb s.busy,As.os RR.key 39 2 E.a3 E.n3 E.c3 s.cP]→Rd RR.aF 4 Z w E.a1 E.n1 E.c1 s.b.ad→Rd RR.fT 8 Z w E.a2 E.n2 E.c2 s.b.ak→Good ab x.ad s→gG ab k→mb ab (valOf ab x.ad) f s k=some s'→s'.cP.length≤1000000→
 Calls prog 33 #[.pointer (some ⟨xb,0,none⟩),k.val] w fun e w'=>∃(E':EA) (Z':Nat→Prop),e=.returned (.tuple #[])∧cI w.heap.size Z Z'∧Rd RR.aF 4 Z' w' E'.a1 E'.n1 E'.c1 s'.b.ad∧Rd RR.fT 8 Z' w' E'.a2 E'.n2 E'.c2 s'.b.ak∧St w M Z' w' [As.blk xb 88 (E'.cells D.s bb s'),As.l3 prog 134 ab x D,As.map Key.val bb s'.busy,As.os RR.key 39 2 E'.a3 E'.n3 E'.c3 s'.cP]
set_option maxHeartbeats 1600000 in
theorem Hi{s:ES}{f:Nat}{r:Bool}(hR:aw ab) (bJ:St w M Z w [As.blk xb 88 (E.cells D.s bb s),As.l3 prog 134 ab x D,As.map Key.val bb s.busy,As.os RR.key 39 2 E.a3 E.n3 E.c3 s.cP]) (hi:Rd RR.aF 4 Z w E.a1 E.n1 E.c1 s.b.ad) (hr:Rd RR.fT 8 Z w E.a2 E.n2 E.c2 s.b.ak) (tm:Good ab x.ad s) (Bg:s.b.ad.length≤1000000) (mA:∀g,g<f→UpC ab x D xb bb g) (P1:dF ab (valOf ab x.ad) f s k 0=some (s',r)) (pX:s'.cP.length≤1000000):Calls prog 65 #[.pointer (some ⟨xb,0,none⟩),k.val] w fun e w'=>∃(E':EA) (Z':Nat→Prop),e=.returned (.bool r)∧cI w.heap.size Z Z'∧Rd RR.aF 4 Z' w' E'.a1 E'.n1 E'.c1 s'.b.ad∧Rd RR.fT 8 Z' w' E'.a2 E'.n2 E'.c2 s'.b.ak∧St w M Z' w' [As.blk xb 88 (E'.cells D.s bb s'),As.l3 prog 134 ab x D,As.map Key.val bb s'.busy,As.os RR.key 39 2 E'.a3 E'.n3 E'.c3 s'.cP]:=by
 refine enter func65 rfl ntmps65 rfl<|?_;have bd:=bJ;have st1:=bd.fr hi;have st2:=st1.fr hr;refine(fm) st2 fun b3 w1 iO dJ aW=>?_;refine oC ?_;refine WC.kh (σ:=Nat × ES × EA × Nat × (Nat→Prop)) (eP:=fun(fu,s1,E1,ix,Z1)=>[(0,.pointer (some ⟨xb,0,none⟩)),(3,.pointer (some ⟨b3,0,none⟩)),(5,.int .i64 (ix:Int))]) (F:=fun(fu,s1,E1,ix,Z1)=>[As.blk xb 88 (E1.cells D.s bb s1),As.map Key.val bb s1.busy,As.os RR.key 39 2 E1.a3 E1.n3 E1.c3 s1.cP,As.ro RR.aF 4 E1.a1 E1.n1 E1.c1 s1.b.ad,As.ro RR.fT 8 E1.a2 E1.n2 E1.c2 s1.b.ak]) (I:=fun(fu,s1,E1,ix,Z1)=>(dF ab (valOf ab x.ad) fu s1 k ix=some (s',r))∧(Good ab x.ad s1)∧(fu≤f)∧(cI w.heap.size Z Z1)∧True) (μ:=fun(fu,s1,E1,ix,Z1)=>fu) (Zf:=fun(fu,s1,E1,ix,Z1)=>Z1) (f,s,E,0,Z) (aW.p1.p2.p6.p6.p5) Sub.t (⟨P1,tm,Nat.le_refl _,cI.refl _ _,trivial⟩)<|?_;rintro⟨fu,s1,E1,ix,Z1⟩ w2 ba ⟨dL,pW,hfu,hZ,_⟩;simp only [CA,NA] at ba dL pW hfu hZ ⊢
 obtain⟨Nu,rfl⟩:∃g,fu=g+1:=by cases fu with | zero=>simp [dF] at dL | succ g=>exact⟨g,rfl⟩
 unfold dF at dL
 have hl4:=pW.len
 have ake:s1.b.ad.length≤1000000:=by rw [pW.aF,← tm.aF];exact Bg
 refine(bM) C3 ba.b0<|(aZ) (fun g17=>?_) fun g17=>?_
 ·
  simp at g17
  rw [if_neg (by simp [g17])] at dL;refine dV ?_;have G9:=ba.cX;have JX:=ba.ma;have JY:=ba.size;refine WC.sX (m:=11) [9] (E:=dm [(6,fun v _=>∃f1 f2 f3,v=.tuple #[.agg ((aH s1.b.ak k).row f1 f2 f3).toArray,.bool (aB s1.b.ak k).isSome]),(10,PB w2.heap.size 48 [.int .i64 0,.string ⟨#[]⟩,.string ⟨#[]⟩,.slice none 0 0,.int .i64 0,.int .i64 0,.int .i64 0,.bool false])]) ba (bK (⟨fun _ _ _ _ _ _ _ h=>h,⟨fun _ _ _ _ _ _ c h=>PB.st G9 c h,trivial⟩⟩)) mixed (by kernel_rfl) rfl ?_;refine dV ?_;refine DP .r (fun _ hC=>PV.ld1 (j:=3) fk (cV.range (As.gb hC.2.g0)) rfl rfl)<|(iX) aq St.g5<|?_;refine DW.e rfl rfl rfl rfl rfl (fun wx hC hF=>OX.call tC rfl rfl ((fw (k:=k) (As.gr hC.2.g4)).mono ?_))<|?_
  ·
   rintro _ wy ⟨f1,f2,f3,rfl,hy⟩;exact⟨_,rfl,⟨Nat.le_trans hC.1 hy.size,hC.2.step hy⟩,hy.p0,_,rfl,⟨f1,f2,f3,rfl⟩⟩
  rintro _ wz _ ⟨f1,f2,f3,rfl⟩;refine dA ?_;refine DW.e rfl rfl rfl rfl rfl (fun wx hC hF=>OX.alloc tv rfl fun b wy nw hb=>⟨⟨Nat.le_trans hC.1 nw.ext.size,hC.2.step nw.ext⟩,nw.ext.p0,_,rfl,_,rfl,Nat.le_trans hC.1 nw.ge,hb⟩)<|?_;rintro _ wz _ ⟨b6,rfl,_,_⟩;refine(eb) ?_;rintro w3 ⟨ez,bs⟩ ⟨Aw,⟨_,_⟩⟩;have bj:=bs.xN Aw G9 JX JY;refine(dB) iM bj fun w4 jV j0 bV=>?_;refine nx ?_;refine WL.nil (EX.np ?_);refine dA ?_;refine WC.fE (t:=33) (v:=.bool (!(aB s1.b.ak k).isSome || (aH s1.b.ak k).bS)) bV ?_<|?_
  ·
   refine(ed) (fun lO=>?_) (fun lO=>?_)
   ·
    exact(dp) (by simp only [lO];first | rfl | simp) (bV)
   refine(bM) fq bV.b0<|?_;exact(dp) (by simp only [lO];first | rfl | simp) (bV)
  intro w5 bT;refine(aZ) (fun jA=>?_) fun jA=>?_
  ·
   rw [if_pos jA] at dL;simp only [Option.some.injEq,Prod.mk.injEq] at dL;obtain⟨Ij,P2⟩:=dL;subst Ij;subst P2;refine(cy) ?_;exact⟨E1,_,rfl,hZ,(As.gr bT.g4),(As.gr bT.g5),bT.p3.p3.p7.p4.k4⟩
  rw [if_neg (by rw [jA];simp)] at dL;refine dV ?_;have QZ:=bT.cX;refine WC.dS (m:=7) bT mixed<|(kQ) aU St.g0<|dV ?_;refine DP .r (fun _ hC=>PV.ld1 (j:=1) aU (cV.range (As.gb hC.2.g1)) rfl rfl)<|(eb)<|?_;rintro w6 ⟨oM,cm⟩ _;refine(aZ) (fun Ab=>?_) fun Ab=>?_
  ·
   simp at Ab
   rw [if_pos Ab] at dL;simp only [Option.some.injEq,Prod.mk.injEq] at dL;obtain⟨Ij,P2⟩:=dL;subst Ij;subst P2;refine(cy) ?_;exact⟨E1,_,rfl,hZ,(As.gr cm.g4),(As.gr cm.g5),cm.p3.p3.p7.p4.k4⟩
  simp at Ab
  rw [if_neg Ab] at dL;refine dA ?_;have hN8:=cm.cX;refine WC.dS (m:=11) cm mixed<|dV ?_;refine DP .r (fun _ hC=>PV.ld1 (j:=3) fk (cV.range (As.gb hC.2.g1)) rfl rfl)<|dV ?_;refine DP .r (fun _ hC=>PV.ld1 (j:=1) aU (cV.range (As.gb hC.2.g1)) rfl rfl)<|(iX) aq St.g6<|(eb)<|?_;rintro w7 ⟨qP,aM⟩ _;have aO:=aM;refine(dh) acu (AA aO.e0 (As.gr aO.g5) (by omega)) ?_;rintro _ w8 ⟨q1,q2,q3,Z2,rfl,AD,kM⟩;have aS:=St.lv aO kM AD;have Ou:=pc s1.b.ak s1.b.ae k;have P3:=St.cH kM;have pw:=aO.size;have akf:=hZ.trans AD pw;have bC:=aS.bN (by omega);have ly:=akf.trans (cI.fc (F:=fun x=>x∈aI q1) P3) pw;refine qd ?_;refine WP .r (PV.ld1 (j:=3) fk bC.b2 rfl rfl)<|nx ?_;have br:=bC;refine(dh) acI (uN br.e0 (As.gr br.g6) (As.gr br.g0) (DJ pW (by omega))) ?_;rintro _ w9 ⟨p1,p2,p3,Z3,rfl,qQ,ny⟩;have aY:=St.lv br ny qQ;have sE:=ly.trans qQ br.size;have vo:=((As.gs aY.g0)).len;have hca:=DK pW (group:=(aC s1.b.ak s1.b.ae k)) (by omega);refine(aZ) (fun UH=>?_) fun UH=>?_
  ·
   simp at UH
   have gR:(bW s1.b.ak (aC s1.b.ak s1.b.ae k))[ix]?=none:=List.getElem?_eq_none (by omega);rw [gR] at dL;simp only [] at dL;simp only [Option.some.injEq,Prod.mk.injEq] at dL;obtain⟨Ij,P2⟩:=dL;subst Ij;subst P2;refine(kB) aP aY.b3<|nx ?_;have aQ:=aY;refine(dh) SZ (px aQ.e0 (As.gr aQ.g6) (As.gr aQ.g7) (As.gr aQ.g1) (by omega) (by omega)) ?_;rintro _ kE ⟨m1,m2,m3,m4,m5,m6,Z4,rfl,AE,jf⟩;have bB:=St.lv aQ jf AE;have AF:=sE.trans AE aQ.size;have JZ:=St.cH jf;have F0:=St.cH jf.p1;have mr:=aQ.size;refine cS ?_;refine WL.go rfl (OX.VJ fR (As.gb bB.g5) rfl rfl rfl rfl rfl fun kF sC nj=>?_);have bL:=bB.p5.Ga sC nj;refine nx ?_;have bG:=bL.Fx (B:=As.blk xb 88 (EA.cells ⟨m1,m4,E1.a3,m2,m3,m5,m6,E1.n3,E1.c3⟩ D.s bb {s1 with b:=dQ s1.b (aC s1.b.ak s1.b.ae k) false})) (rfl)
   have jD:(dQ s1.b (aC s1.b.ak s1.b.ae k) false).ak.length=s1.b.ak.length:=by simp [dQ]
   have QK:(dQ s1.b (aC s1.b.ak s1.b.ae k) false).ad=s1.b.ad:=rfl;have ck:=bG.p1.bN (by rw [QK];omega);have cw:=ck.p2.bN (by omega);have nz:=(AF.trans (cI.fc (F:=fun x=>x∈aI m1) JZ) mr).trans (cI.fc (F:=fun x=>x∈aI m4) F0) mr;refine(cy) ?_;exact⟨⟨m1,m4,E1.a3,m2,m3,m5,m6,E1.n3,E1.c3⟩,_,rfl,nz,(As.gr cw.g1),(As.gr cw.g0),cw.p7.p7.oR.p5.k4⟩
  simp at UH
  obtain⟨ch,pP⟩:∃ch,(bW s1.b.ak (aC s1.b.ak s1.b.ae k))[ix]?=some ch:=⟨_,ao (by omega)⟩;rw [pP] at dL;simp only [] at dL;have Bp:=iE pW pP;refine dA ?_;obtain⟨iz,aX⟩:=Ow.addr (As.gs aY.g0) pP;refine dA ?_;refine WP .r (PV.fO K9 aX rfl rfl (by omega))<|(bA) D3 (Ow.qq (As.gs aY.g0) (by omega) aX pP)<|(gy) aY fun iA kE kL ft aQ=>?_;refine(dB) Pd aQ fun kF BC rq bB=>?_;refine(kB) aq bB.b0<|(iu) (Hh (k:=ch.read) (sb:=D.s) (s:=s1) (E:=E1) (As.gb bB.g4) (As.gm bB.g5) pW.busy (As.gr bB.g8)) bB fun qf s12 bL=>?_;refine(aZ) (fun oj=>?_) fun oj=>?_
  ·
   simp at oj
   rw [if_pos oj] at dL;obtain⟨t,QP,qD⟩:=Option.bind_eq_some_iff.1 dL;have H7:=(df hR Nu).1 _ _ _ QP pW Bp;have hgc:=(df hR Nu).2.1 _ _ _ _ _ qD H7.1;refine(kB) aq bL.b0<|?_;have bG:=bL.p6.p6.pF.p7;refine(dh) Xx (mA Nu (by omega) _ _ _ _ _ _ _ bG.e4 (As.gr bG.g8) (As.gr bG.g9) pW Bp QP (by have:=hgc.2.cP;omega)) ?_;rintro _ tU ⟨E2,Z5,rfl,uS,Tg,hr5,P4⟩;have ck:=St.lv bG P4 uS;have nz:=sE.trans uS bG.size;have cw:=ck.fr (Tg);have cx:=cw.fr (hr5);have cU:=cx.pF.drop;have ct:=cU.pF.drop;refine eC ?_;refine fJ (Nu,t,E2,ix,Z5) ⟨ct.p6.drop.p6.drop.p6.drop.p6.drop.p6.p1.p2.p6.p6.p5,⟨qD,H7.1,by omega,nz,trivial⟩⟩
  simp at oj
  rw [if_neg (by rw [oj];simp)] at dL;refine dA ?_;have Yx:=bL.cX;have ad4:=bL.ma;have ad5:=bL.size;refine WC.sX (m:=12) [10] (E:=dm [(7,fun v _=>∃f1 f2 f3,v=.tuple #[.agg ((aH s1.b.ak ch.eY).row f1 f2 f3).toArray,.bool (aB s1.b.ak ch.eY).isSome]),(11,PB qf.heap.size 48 [.int .i64 0,.string ⟨#[]⟩,.string ⟨#[]⟩,.slice none 0 0,.int .i64 0,.int .i64 0,.int .i64 0,.bool false])]) bL (bK (⟨fun _ _ _ _ _ _ _ h=>h,⟨fun _ _ _ _ _ _ c h=>PB.st Yx c h,trivial⟩⟩)) mixed (by kernel_rfl) rfl ?_;refine dV ?_;refine DP .r (fun _ hC=>PV.ld1 (j:=3) fk (cV.range (As.gb hC.2.g4)) rfl rfl)<|(Cp) aq St.g0<|?_;refine DW.e rfl rfl rfl rfl rfl (fun wx hC hF=>OX.call tC rfl rfl ((fw (k:=ch.eY) (As.gr hC.2.g8)).mono ?_))<|?_
  ·
   rintro _ wy ⟨f1,f2,f3,rfl,hy⟩;exact⟨_,rfl,⟨Nat.le_trans hC.1 hy.size,hC.2.step hy⟩,hy.p0,_,rfl,⟨f1,f2,f3,rfl⟩⟩
  rintro _ wz _ ⟨f1,f2,f3,rfl⟩;refine dA ?_;refine DW.e rfl rfl rfl rfl rfl (fun wx hC hF=>OX.alloc tv rfl fun b wy nw hb=>⟨⟨Nat.le_trans hC.1 nw.ext.size,hC.2.step nw.ext⟩,nw.ext.p0,_,rfl,_,rfl,Nat.le_trans hC.1 nw.ge,hb⟩)<|?_;rintro _ wz _ ⟨yf,rfl,_,_⟩;refine(eb) ?_;rintro tU ⟨UR,bG⟩ ⟨akj,⟨_,_⟩⟩;have ck:=bG.xN akj Yx ad4 ad5;refine(dB) iM ck fun Ay QW vE cw=>?_;refine nx ?_;refine WL.nil (EX.np ?_);refine dA ?_;have arH:=cw.cX;refine WC.eJ (m:=13) (E:=dm [(10,fun v _=>v=.int .i64 (bp (valOf ab x.ad) s1.b ch.read))]) cw (bK (⟨fun _ _ _ _ _ _ _ h=>h,trivial⟩)) mixed (by kernel_rfl)<|(kQ) Pb St.g5<|(Cp) aP St.g5<|(Cp) aq St.g1<|?_;refine DW.e rfl rfl rfl rfl rfl (fun wx hC hF=>OX.call Uq rfl rfl ((sD (k:=ch.read) hR Bp (hC.2.one (.tail _ (.tail _ (.tail _ (.tail _ (.tail _ (.tail _ (.tail _ (.tail _ (.tail _ (.tail _ (.tail _ (.head _))))))))))))) (As.gr hC.2.g8) (As.gr hC.2.g9)).mono ?_))<|?_
  ·
   rintro _ wy ⟨rfl,hy⟩;exact⟨_,rfl,⟨Nat.le_trans hC.1 hy.cW.size,hC.2.Cw lz hy⟩,hy.cW.mono (fun _ _ hx=>Kz lz hx),_,rfl,rfl⟩
  rintro _ wz _ rfl;refine(kQ) aU St.g0<|(eb)<|?_;rintro uP ⟨ad6,cx⟩ ⟨_,_⟩;refine(aZ) (fun Th=>?_) fun Th=>?_
  ·
   simp at Th
   rw [if_pos Th] at dL;refine(bA) aq (cV.range (As.gb cx.g10))<|(iu) (ee (k:=k)) cx fun yq s16 cU=>?_;refine(aZ) (fun Yy=>?_) fun Yy=>?_
   ·
    rw [if_pos Yy] at dL;simp only [Option.some.injEq,Prod.mk.injEq] at dL;obtain⟨Ij,P2⟩:=dL;subst Ij;subst P2;refine(kB) aP cU.b5<|nx ?_;have ct:=cU;refine(dh) SZ (px ct.e0 (As.gr ct.g8) (As.gr ct.g9) (As.gr ct.g3) (by omega) (by omega)) ?_;rintro _ En ⟨m1,m2,m3,m4,m5,m6,Z4,rfl,AE,Hj⟩;have cN:=St.lv ct Hj AE;have AF:=sE.trans AE ct.size;have JZ:=St.cH Hj;have F0:=St.cH Hj.p1;have mr:=ct.size;refine cS ?_;refine WL.go rfl (OX.VJ fR (As.gb cN.g7) rfl rfl rfl rfl rfl fun De Q1 Gd=>?_);have ef:=cN.p7.Ga Q1 Gd;refine nx ?_;have dq:=ef.Fx (B:=As.blk xb 88 (EA.cells ⟨m1,m4,E1.a3,m2,m3,m5,m6,E1.n3,E1.c3⟩ D.s bb {s1 with b:=dQ s1.b (aC s1.b.ak s1.b.ae k) true})) (rfl)
    have jD:(dQ s1.b (aC s1.b.ak s1.b.ae k) true).ak.length=s1.b.ak.length:=by simp [dQ]
    have QK:(dQ s1.b (aC s1.b.ak s1.b.ae k) true).ad=s1.b.ad:=rfl;have ew:=dq.p1.bN (by rw [QK];omega);have db:=ew.p2.bN (by omega);have nz:=(AF.trans (cI.fc (F:=fun x=>x∈aI m1) JZ) mr).trans (cI.fc (F:=fun x=>x∈aI m4) F0) mr;refine(cy) ?_;exact⟨⟨m1,m4,E1.a3,m2,m3,m5,m6,E1.n3,E1.c3⟩,_,rfl,nz,(As.gr db.g1),(As.gr db.g0),db.p9.p9.xM.p5.k4⟩
   rw [if_neg (by rw [Yy];simp)] at dL;simp only [Option.some.injEq,Prod.mk.injEq] at dL;obtain⟨Ij,P2⟩:=dL;subst Ij;subst P2;refine bf ?_;refine(cy) ?_;exact⟨E1,_,rfl,sE,(As.gr cU.g8),(As.gr cU.g9),cU.p7.p7.oR.p8.k4⟩
  simp at Th
  rw [if_neg (by omega)] at dL;refine kP ?_;refine fJ (Nu,s1,E1,ix+1,Z3) ⟨cx.drop.drop.drop.drop.drop,⟨dL,pW,by omega,sE,trivial⟩⟩
 simp at g17
 rw [if_pos g17] at dL;simp only [Option.some.injEq,Prod.mk.injEq] at dL;obtain⟨Ij,P2⟩:=dL;subst Ij;subst P2;refine(cy) ?_;exact⟨E1,_,rfl,hZ,(As.gr ba.g3),(As.gr ba.g4),ba.p2.p2.p6.p3.k4⟩
set_option maxHeartbeats 1600000 in
theorem MP{s:ES}{f:Nat}(hR:aw ab) (bJ:St w M Z w [As.blk xb 88 (E.cells D.s bb s),As.l3 prog 134 ab x D,As.map Key.val bb s.busy,As.os RR.key 39 2 E.a3 E.n3 E.c3 s.cP]) (hi:Rd RR.aF 4 Z w E.a1 E.n1 E.c1 s.b.ad) (hr:Rd RR.fT 8 Z w E.a2 E.n2 E.c2 s.b.ak) (tm:Good ab x.ad s) (Bg:s.b.ad.length≤1000000) (Nl:jq ab k 0) (mA:∀g,g<f→UpC ab x D xb bb g) (P1:gW ab (valOf ab x.ad) f s k [] []=some s') (pX:s'.cP.length≤1000000):Calls prog 66 #[.pointer (some ⟨xb,0,none⟩),k.val] w fun e w'=>∃(E':EA) (Z':Nat→Prop),e=.returned (.tuple #[])∧cI w.heap.size Z Z'∧Rd RR.aF 4 Z' w' E'.a1 E'.n1 E'.c1 s'.b.ad∧Rd RR.fT 8 Z' w' E'.a2 E'.n2 E'.c2 s'.b.ak∧St w M Z' w' [As.blk xb 88 (E'.cells D.s bb s'),As.l3 prog 134 ab x D,As.map Key.val bb s'.busy,As.os RR.key 39 2 E'.a3 E'.n3 E'.c3 s'.cP]:=by
 refine enter func66 rfl ntmps66 rfl<|?_;have bd:=bJ;have st1:=bd.fr hi;have st2:=st1.fr hr;have aW:=st2.eR RR.key 39 2;have ba:=aW.eR RR.str 9 1;refine(fm) ba fun b3 w1 iO dJ bs=>?_;refine bf ?_;refine nx ?_;refine WC.kh (σ:=Nat × ES × EA × (List Key) × (List ByteArray) × (Nat→Prop) × (Option Addr) × Nat × Nat × (Option Addr) × Nat × Nat) (eP:=fun(fu,s1,E1,reads,ah,Z1,wm,wo,Et,Hk,Eu,Hl)=>[(0,.pointer (some ⟨xb,0,none⟩)),(3,.pointer (some ⟨b3,0,none⟩)),(4,.slice wm wo Et),(5,.slice Hk Eu Hl)]) (F:=fun(fu,s1,E1,reads,ah,Z1,wm,wo,Et,Hk,Eu,Hl)=>[As.os RR.key 39 2 wm wo Et (reads),As.os RR.str 9 1 Hk Eu Hl (ah),As.blk xb 88 (E1.cells D.s bb s1),As.map Key.val bb s1.busy,As.os RR.key 39 2 E1.a3 E1.n3 E1.c3 s1.cP,As.ro RR.aF 4 E1.a1 E1.n1 E1.c1 s1.b.ad,As.ro RR.fT 8 E1.a2 E1.n2 E1.c2 s1.b.ak]) (I:=fun(fu,s1,E1,reads,ah,Z1,wm,wo,Et,Hk,Eu,Hl)=>(gW ab (valOf ab x.ad) fu s1 k reads ah=some s')∧(Good ab x.ad s1)∧(fu≤f)∧(cI w.heap.size Z Z1)∧(jq ab k ah.length)∧(reads.length=ah.length)∧(∀a∈reads,gG ab a)∧(∀y∈aI wm,w.heap.size≤y)∧True) (μ:=fun(fu,s1,E1,reads,ah,Z1,wm,wo,Et,Hk,Eu,Hl)=>fu) (Zf:=fun(fu,s1,E1,reads,ah,Z1,wm,wo,Et,Hk,Eu,Hl)=>Z1) (f,s,E,[],[],Z,none,0,0,none,0,0) (bs.p3.p4.p8.p8.p7.p6.p7) Sub.t (⟨P1,tm,Nat.le_refl _,cI.refl _ _,Nl,rfl,(fun a ha=>by cases ha),(by simp [aI]),trivial⟩)<|?_;rintro⟨fu,s1,E1,reads,ah,Z1,wm,wo,Et,Hk,Eu,Hl⟩ w2 bj ⟨dL,pW,hfu,hZ,MQ,hlen,hrk,ky,_⟩;simp only [CA,NA] at bj dL pW hfu hZ MQ hlen hrk ky ⊢
 obtain⟨Nu,rfl⟩:∃g,fu=g+1:=by cases fu with | zero=>simp [gW] at dL | succ g=>exact⟨g,rfl⟩
 unfold gW at dL
 have hl4:=pW.len
 have ake:s1.b.ad.length≤1000000:=by rw [pW.aF,← tm.aF];exact Bg
 have h6:=MQ.le hR;have Nh:=((As.gs bj.g0)).len;have td:=((As.gs bj.g1)).len;have vo:=((As.gr bj.g6)).len;refine(bM) C3 bj.b2<|(aZ) (fun g13=>?_) fun g13=>?_
 ·
  simp at g13
  rw [if_neg (by simp [g13])] at dL;refine dV ?_;obtain⟨tt,sR⟩:∃t,aN ab k ah=t:=⟨_,rfl⟩;rw [sR] at dL;have ad7:=@jq.next ab k hR ah MQ;rw [sR] at ad7;have UO:=bj.cX;have akk:=bj.ma;have akl:=bj.size;refine WC.eJ (m:=11) (E:=dm [(9,fun v _=>v=tt.val),(10,PB w2.heap.size 144 [.bool false,.string ⟨#[]⟩,.int .i64 0,.string ⟨#[]⟩])]) bj (bK (⟨fun _ _ _ _ _ _ _ h=>h,⟨fun _ _ _ _ _ _ c h=>PB.st UO c h,trivial⟩⟩)) mixed (by kernel_rfl)<|dA ?_;refine DP .r (fun _ hC=>PV.pA Pb (cV.range (As.gb hC.2.g2)) rfl rfl)<|cS ?_;refine DP .r (fun _ hC=>V1 me (cV.range (As.gvb (hC.2.g8))) .r)<|(iX) aq St.g7<|nx ?_;refine DW.c1 (fun wx hC hF=>gL (k:=k) (SD.ht (As.gv (hC.2.g8))) (SD.hu (As.gv (hC.2.g8))) (Ow.rd (As.gs hC.2.g1) (by omega)) hR.hb (MQ.not hR).1) (by rw [sR])<|?_;refine DW.e rfl rfl rfl rfl rfl (fun wx hC hF=>OX.alloc uI rfl fun b wy nw hb=>⟨⟨Nat.le_trans hC.1 nw.ext.size,hC.2.step nw.ext⟩,nw.ext.p0,_,rfl,_,rfl,Nat.le_trans hC.1 nw.ge,hb⟩)<|?_;rintro _ wz _ ⟨b6,rfl,_,_⟩;refine(eb) ?_;rintro w3 ⟨mr,bV⟩ ⟨Aw,⟨_,_⟩⟩;have bT:=bV.xN Aw UO akk akl;refine(dB) iS bT fun w4 jV j0 cm=>?_;refine(bM) fq cm.b0<|(aZ) (fun eZ=>?_) fun eZ=>?_
  ·
   rw [if_pos eZ] at dL;refine cS ?_;have QZ:=cm.cX;have akm:=cm.ma;have akn:=cm.size;refine WC.sX (m:=11) [9] (E:=dm [(6,fun v _=>∃f1 f2 f3,v=.tuple #[.agg ((aH s1.b.ak k).row f1 f2 f3).toArray,.bool (aB s1.b.ak k).isSome]),(10,PB w4.heap.size 48 [.int .i64 0,.string ⟨#[]⟩,.string ⟨#[]⟩,.slice none 0 0,.int .i64 0,.int .i64 0,.int .i64 0,.bool false])]) cm (bK (⟨fun _ _ _ _ _ _ _ h=>h,⟨fun _ _ _ _ _ _ c h=>PB.st QZ c h,trivial⟩⟩)) mixed (by kernel_rfl) rfl ?_;refine dV ?_;refine DP .r (fun _ hC=>PV.ld1 (j:=3) fk (cV.range (As.gb hC.2.g3)) rfl rfl)<|(iX) aq St.g8<|?_;refine DW.e rfl rfl rfl rfl rfl (fun wx hC hF=>OX.call tC rfl rfl ((fw (k:=k) (As.gr hC.2.g7)).mono ?_))<|?_
   ·
    rintro _ wy ⟨f1,f2,f3,rfl,hy⟩;exact⟨_,rfl,⟨Nat.le_trans hC.1 hy.size,hC.2.step hy⟩,hy.p0,_,rfl,⟨f1,f2,f3,rfl⟩⟩
   rintro _ wz _ ⟨f1,f2,f3,rfl⟩;refine dA ?_;refine DW.e rfl rfl rfl rfl rfl (fun wx hC hF=>OX.alloc tv rfl fun b wy nw hb=>⟨⟨Nat.le_trans hC.1 nw.ext.size,hC.2.step nw.ext⟩,nw.ext.p0,_,rfl,_,rfl,Nat.le_trans hC.1 nw.ge,hb⟩)<|?_;rintro _ wz _ ⟨b7,rfl,_,_⟩;refine(eb) ?_;rintro w5 ⟨oM,aM⟩ ⟨Aw,⟨_,_⟩⟩;have aO:=aM.xN Aw QZ akm akn;refine(dB) iM aO fun w6 sC nj aS=>?_;refine nx ?_;refine WL.nil (EX.np ?_);refine cS ?_;refine WC.fE (t:=46) (v:=.bool (!(aB s1.b.ak k).isSome && decide (4000≤s1.b.ak.length))) aS ?_<|?_
   ·
    refine(ed) (fun wt=>?_) (fun wt=>?_)
    ·
     refine dV ?_;refine WP .r (PV.ld1 (j:=3) fk aS.b4 rfl rfl)<|?_;exact(dp) (by simp only [wt];first | rfl | (simp [vo];done) | (simp;omega)) (aS)
    exact(dp) (by simp only [wt];first | rfl | (simp [vo];done) | (simp;omega)) (aS)
   intro w7 bC;refine(aZ) (fun Ib=>?_) fun Ib=>?_
   ·
    rw [if_pos Ib] at dL;simp only [Option.some.injEq] at dL;subst dL;refine eC ?_;refine WL.s1 bC.p4 fun w8 _ br=>?_;refine nx ?_;have aY:=br.Fx (B:=As.blk xb 88 (EA.cells E1 D.s bb {s1 with e:=45})) (rfl);refine gM ?_;refine EX.yw (.inl rfl) rfl<|?_;exact⟨E1,_,rfl,hZ,(As.gr aY.g7),(As.gr aY.g8),aY.p6.p6.pF.p3.k4⟩
   rw [if_neg (by rw [Ib];simp)] at dL;simp only [Option.some.injEq] at dL;subst dL
   have KS:s1.cP.length+1≤1000000:=by simpa using pX
   refine dA ?_;have br:=bC.p2.bN (by omega);have sE:=hZ.trans (cI.fc (F:=fun x=>x∈aI wm) ky) (Nat.le_refl _);have hN9:=br.cX;refine WC.sX (m:=15) [0] (E:=dm [(14,fun v _=>v=.agg ((dI s1.b k tt.value reads).row wm wo Et).toArray)]) br (bK (⟨fun _ _ _ _ _ _ _ h=>h,trivial⟩)) mixed (by kernel_rfl) rfl ?_;refine eC ?_;refine DP .r (fun _ hC=>PV.ld1 (j:=3) fk (cV.range (As.gb hC.2.g4)) rfl rfl)<|(Cp) aP St.g4<|(iX) aq St.g9<|(kQ) iF St.g2<|nx ?_;refine DW.c0 (fun wx hC hF=>Ak (k:=k) (v:=tt.value) (As.gr hC.2.g7) (As.gr hC.2.g8) (As.gr hC.2.g0))<|(eb) ?_;rintro w8 ⟨Tc,aY⟩ ⟨_,_⟩;have aQ:=aY;refine(dh) Ur (Ag (x:=(dI s1.b k tt.value reads)) aQ.e0 (As.gr aQ.g8) (by omega) (As.gr aQ.g0) (by show reads.length≤4000;omega)) ?_;rintro _ w9 ⟨p1,p2,p3,Z4,rfl,AE,ny⟩;have bB:=St.lv aQ ny AE;have UL:(fP s1.b.ak (dI s1.b k tt.value reads)).length≤s1.b.ak.length+1:=vx (dI s1.b k tt.value reads) s1.b.ak false;have Ll:=St.cH ny;have mr:=aQ.size;have AF:=sE.trans AE mr;have bL:=bB.bN (by omega);have nz:=AF.trans (cI.fc (F:=fun x=>x∈aI p1) Ll) mr;refine dA ?_;refine WL.s1 (j:=3) bL.p5 fun kE _ bG=>?_;refine WL.nil (EX.np ?_);have ck:=bG.Fx (B:=As.blk xb 88 (EA.cells ⟨E1.a1,p1,E1.a3,E1.n1,E1.c1,p2,p3,E1.n3,E1.c3⟩ D.s bb {s1 with b:={s1.b with ak:=fP s1.b.ak (dI s1.b k tt.value reads)}})) (rfl);refine cS ?_;have hnr:=((As.gs ck.g7)).len;have BE:=ck.cX;have Ha:=ck.ma;have Hb:=ck.size;refine WC.sX (m:=7) [0] (E:=dm [(6,PS kE.heap.size 39 1 k.cells)]) ck (bK (⟨fun _ _ _ _ _ _ c h=>PS.st BE c h,trivial⟩)) mixed (by kernel_rfl) rfl ?_;refine(kQ) gJ St.g0<|(iX) aq St.g10<|?_;refine DW.e rfl rfl rfl rfl rfl (fun wx hC hF=>OX.aR (us:=k.cells) eM rfl rfl rfl rfl fun b wy nw hb=>⟨⟨Nat.le_trans hC.1 nw.ext.size,hC.2.step nw.ext⟩,nw.ext.p0,_,rfl,_,rfl,Nat.le_trans hC.1 nw.ge,hb⟩)<|?_;rintro _ wz _ ⟨b75,rfl,_,_⟩;refine(eb) ?_;rintro kF ⟨Dd,cw⟩ ⟨Ys,_⟩;have cx:=cw.xN (PS.pb Ys) BE Ha Hb;refine WL.go rfl (OX.ox rU rfl rfl rfl (As.gs cx.g8) (SR.ek (A:=fun _=>True) (x:=k) (As.gb cx.g0) trivial rfl (by simp [Key.cells,Value.oneCell']) rfl) (by show(E1.n3+1)*_≤_;omega) (by show E1.n3+1≤_;omega) (Nat.zero_le _) fun a76 MR qf Yz s76 YA ako=>?_);have cU:=cx.p8.jk s76 Yz YA;refine cS ?_;refine WL.s1 cU.p2 fun tU _ ct=>?_;refine WL.nil (EX.np ?_);have cN:=ct.Fx (B:=As.blk xb 88 (EA.cells ⟨E1.a1,p1,a76,E1.n1,E1.c1,p2,p3,(E1.n3+1),MR⟩ D.s bb {s1 with b:={s1.b with ak:=fP s1.b.ak (dI s1.b k tt.value reads)},cP:=s1.cP++[k]})) (rfl);refine jo ?_;refine EX.yw (.inl rfl) rfl<|?_;exact⟨⟨E1.a1,p1,a76,E1.n1,E1.c1,p2,p3,(E1.n3+1),MR⟩,_,rfl,nz,(As.gr cN.g9),(As.gr cN.g3),cN.p1.p8.Ko.p3.k4⟩
  rw [if_neg (by rw [eZ];simp)] at dL;obtain⟨t,QP,qD⟩:=Option.bind_eq_some_iff.1 dL;have MO:=ad7 eZ;have H7:=(df hR Nu).1 _ _ _ QP pW MO.2;refine(kB) aq cm.b0<|?_
  have hrt:t.cP.length≤1000000:=by
   split at qD
   ·
    have:=((df hR Nu).2.2 _ _ _ _ _ qD H7.1 (by simpa using MO.1) (by simp [hlen]) (fun a ha=>by rcases List.mem_append.1 ha with ha | ha;exact hrk a ha;simp at ha;subst ha;exact MO.2)).2.cP
    omega
   have:=((df hR Nu).2.2 _ _ _ _ _ qD H7.1 MQ hlen hrk).2.cP
   omega
  have aM:=cm.p5.p5.p9.p6;refine(dh) Xx (mA Nu (by omega) _ _ _ _ _ _ _ aM.e4 (As.gr aM.g7) (As.gr aM.g8) pW MO.2 QP hrt) ?_;rintro _ w5 ⟨E2,Z5,rfl,uS,Tg,hr5,jB⟩;have aO:=St.lv aM jB uS;have nz:=hZ.trans uS aM.size;have aS:=aO.fr (Tg);have bC:=aS.fr (hr5);have br:=bC.p9.drop;have aY:=br.p9.drop;refine(bM) C3 aY.b2<|(aZ) (fun P5=>?_) fun P5=>?_
  ·
   simp at P5
   rw [if_pos P5] at qD;have aQ:=aY.p7;have Ti:=aQ.cX;have ad8:=aQ.ma;have ad9:=aQ.size;refine WC.Rr (m:=16) [5] (fun j w w'=>match j with | 4=>ja (fun x=>x∈aI wm) w w' | _=>ja (fun _=>False) w w') (E:=dm [(3,PS w5.heap.size 39 1 tt.ask.cells),(4,fun v w'=>∃a c,v=.slice a (wo+1) c∧(∀x∈aI a,x∈aI wm∨w5.heap.size≤x)∧Ow RR.key 39 2 Z5 w' a (wo+1) c (reads++[tt.ask]))]) aQ (ov (⟨⟨trivial,⟨fun _ _ _ _ _ c h=>PS.st (fun x hx=>Ti x ⟨_,.head _,hx⟩) c h,trivial⟩⟩,⟨⟨trivial,⟨trivial,trivial⟩⟩,trivial⟩⟩)) mixed (by kernel_rfl) rfl ?_;refine(Cp) aq St.g7<|?_;refine DW.e rfl rfl rfl rfl rfl (fun wx hC hF=>OX.aR (us:=tt.ask.cells) eM rfl rfl rfl rfl fun b wy nw hb=>⟨⟨Nat.le_trans hC.1 nw.ext.size,hC.2.step nw.ext⟩,nw.ext.p0,_,rfl,_,rfl,Nat.le_trans hC.1 nw.ge,hb⟩)<|?_;rintro _ wz _ ⟨b91,rfl,_,_⟩
   refine DW.e rfl rfl rfl rfl rfl (fun wx hC hF=>by
    obtain⟨⟨b',dK,fl,dJ⟩,_⟩:=hF;simp only [Value.slice.injEq,Option.some.injEq,Addr.mk.injEq,and_true,true_and] at dK;subst dK;exact OX.ahj rU rfl rfl rfl (As.gs hC.2.g0) (fun x hx=>hC.2.o5 _ M0 x hx) (SR.ek (A:=fun _=>True) (x:=tt.ask) dJ trivial rfl (by simp [Key.cells,Value.oneCell']) rfl) (by omega) (by omega) fun a' c' wy h1 h2 h3 h4=>⟨⟨Nat.le_trans hC.1 h3.size,hC.2.same M0 h3.p h2⟩,h3.p,_,rfl,a',c',rfl,(fun x hx=>by rcases h4 x hx with h | h;exact .inl h;exact .inr (Nat.le_trans hC.1 h)),h1⟩) ?_
   rintro _ wz _ ⟨a4,c4,rfl,_,_⟩;refine dV ?_;refine DP .r (fun _ hC=>PV.pA Pb (cV.range (As.gb hC.2.g3)) rfl rfl)<|(Cp) aP St.g3<|(Cp) aq St.g7<|(eb)<|?_;rintro w6 ⟨Hm,bB⟩ ⟨hF4,⟨hF3,_⟩⟩;obtain⟨_,_,he4,aea,ho4⟩:=hF4;simp only [Value.slice.injEq,true_and] at he4;obtain⟨rfl,rfl⟩:=he4;have bL:=bB;have bG:=bL.swap (B:=As.os RR.key 39 2 a4 (wo+1) c4 (reads++[tt.ask])) ho4 aea Ti ad8 ad9;refine(dh) Ut (uR (k:=tt.ask) hR MO.2 (bG.one (.tail _ (.tail _ (.tail _ (.tail _ (.head _)))))) (As.gr bG.g2) (As.gr bG.g1)) ?_;rintro _ w7 ⟨rfl,n9⟩;have ck:=bG.Cw M4 n9;refine WL.go rfl (OX.aR (us:=[.string (dz (valOf ab x.ad) t.b tt.ask)]) mn rfl rfl rfl rfl fun arL w8 aeb aec=>?_);have cw:=ck.eI aeb aec;refine WL.ap rfl rfl cw.p9 (SR.ek (A:=fun _=>True) (x:=dz (valOf ab x.ad) t.b tt.ask) (As.gb cw.g0) trivial rfl (by simp [Value.oneCell']) rfl) fun akp aed w9 anT anU cx=>?_;refine cS ?_;refine WL.nil (EX.np ?_);refine nx ?_;refine fJ (Nu,t,E2,reads++[tt.ask],ah++[dz (valOf ab x.ad) t.b tt.ask],Z5,a4,(wo+1),c4,akp,(Eu+1),aed) ⟨cx.p1.drop.p8.drop.p8.p3.p4.p8.p8.p7.p6.p7,⟨qD,H7.1,by omega,nz,by simpa using MO.1,by simp [hlen],(fun a ha=>by rcases List.mem_append.1 ha with ha | ha;exact hrk a ha;simp at ha;subst ha;exact MO.2),(fun y hy=>by rcases aea y hy with h | h;exact ky y h;omega),trivial⟩⟩
  simp at P5
  rw [if_neg P5] at qD;refine cS ?_;refine fJ (Nu,t,E2,reads,ah,Z5,wm,wo,Et,Hk,Eu,Hl) ⟨aY.p6.drop.p8.p1.p2.p6.p6.p5.p8.p8,⟨qD,H7.1,by omega,nz,MQ,hlen,hrk,ky,trivial⟩⟩
 simp at g13
 rw [if_pos g13] at dL;simp only [Option.some.injEq] at dL;subst dL;refine dV ?_;refine EX.yw (.inr rfl) rfl<|?_;exact⟨E1,_,rfl,hZ,(As.gr bj.g5),(As.gr bj.g6),bj.p4.p4.p8.p5.k4⟩
set_option maxHeartbeats 1600000 in
theorem P6{s:ES}{f:Nat}(hR:aw ab) (bJ:St w M Z w [As.blk xb 88 (E.cells D.s bb s),As.l3 prog 134 ab x D,As.map Key.val bb s.busy,As.os RR.key 39 2 E.a3 E.n3 E.c3 s.cP]) (hi:Rd RR.aF 4 Z w E.a1 E.n1 E.c1 s.b.ad) (hr:Rd RR.fT 8 Z w E.a2 E.n2 E.c2 s.b.ak) (tm:Good ab x.ad s) (Bg:s.b.ad.length≤1000000) (hk:gG ab k) (mA:∀g,g<f→UpC ab x D xb bb g) (dL:mb ab (valOf ab x.ad) (f+1) s k=some s') (pX:s'.cP.length≤1000000):Calls prog 33 #[.pointer (some ⟨xb,0,none⟩),k.val] w fun e w'=>∃(E':EA) (Z':Nat→Prop),e=.returned (.tuple #[])∧cI w.heap.size Z Z'∧Rd RR.aF 4 Z' w' E'.a1 E'.n1 E'.c1 s'.b.ad∧Rd RR.fT 8 Z' w' E'.a2 E'.n2 E'.c2 s'.b.ak∧St w M Z' w' [As.blk xb 88 (E'.cells D.s bb s'),As.l3 prog 134 ab x D,As.map Key.val bb s'.busy,As.os RR.key 39 2 E'.a3 E'.n3 E'.c3 s'.cP]:=by
 unfold mb at dL
 have hbk:(bX s.busy k).getD (.bool false)=.bool (s.on k):=by unfold ES.on;rcases tm.busy k with h | h <;> rw [h] <;> rfl
 refine enter func33 rfl ntmps33 rfl<|?_;have bd:=bJ;have st1:=bd.fr hi;have st2:=st1.fr hr;refine(fm) st2 fun b3 w1 iO dJ aW=>?_;refine dV ?_;refine WC.fE (t:=14) (v:=.bool (decide (s.e≠0) || az k)) aW ?_<|?_
 ·
  refine(bM) C3 aW.b3<|(ed) (fun g11=>?_) (fun g11=>?_)
  ·
   exact(dp) (by simp only [g11];first | rfl | simp) (aW)
  refine(bA) aq aW.b0<|(iu) (fD (k:=k)) aW fun w2 s2 ba=>?_;exact(dp) (by simp only [g11];first | rfl | simp) (ba)
 intro w2 ba;refine(aZ) (fun g14=>?_) fun g14=>?_
 ·
  rw [if_pos (by simpa using g14)] at dL;simp only [Option.some.injEq] at dL;subst dL;refine cS ?_;refine EX.yw (.inl rfl) rfl<|?_;exact⟨E,Z,rfl,cI.refl _ _,(As.gr ba.g2),(As.gr ba.g1),ba.p6.p6.p6.p6.k4⟩
 have qt:az k=false:=by simp at g14;exact g14.2
 rw [if_neg (by simpa using g14)] at dL;refine dV ?_;have QU:=ba.cX;have akq:=ba.ma;have akr:=ba.size;refine WC.sX (m:=11) [9] (E:=dm [(6,fun v _=>∃f1 f2 f3,v=.tuple #[.agg ((aH s.b.ak k).row f1 f2 f3).toArray,.bool (aB s.b.ak k).isSome]),(10,PB w2.heap.size 48 [.int .i64 0,.string ⟨#[]⟩,.string ⟨#[]⟩,.slice none 0 0,.int .i64 0,.int .i64 0,.int .i64 0,.bool false])]) ba (bK (⟨fun _ _ _ _ _ _ _ h=>h,⟨fun _ _ _ _ _ _ c h=>PB.st QU c h,trivial⟩⟩)) mixed (by kernel_rfl) rfl ?_;refine dV ?_;refine DP .r (fun _ hC=>PV.ld1 (j:=3) fk (cV.range (As.gb hC.2.g3)) rfl rfl)<|(iX) aq St.g0<|?_;refine DW.e rfl rfl rfl rfl rfl (fun wx hC hF=>OX.call tC rfl rfl ((fw (k:=k) (As.gr hC.2.g1)).mono ?_))<|?_
 ·
  rintro _ wy ⟨f1,f2,f3,rfl,hy⟩;exact⟨_,rfl,⟨Nat.le_trans hC.1 hy.size,hC.2.step hy⟩,hy.p0,_,rfl,⟨f1,f2,f3,rfl⟩⟩
 rintro _ wz _ ⟨f1,f2,f3,rfl⟩;refine dA ?_;refine DW.e rfl rfl rfl rfl rfl (fun wx hC hF=>OX.alloc tv rfl fun b wy nw hb=>⟨⟨Nat.le_trans hC.1 nw.ext.size,hC.2.step nw.ext⟩,nw.ext.p0,_,rfl,_,rfl,Nat.le_trans hC.1 nw.ge,hb⟩)<|?_;rintro _ wz _ ⟨b4,rfl,_,_⟩;refine(eb) ?_;rintro w3 ⟨pw,bs⟩ ⟨Aw,⟨_,_⟩⟩;have bj:=bs.xN Aw QU akq akr;refine(dB) iM bj fun w4 jV j0 bV=>?_;refine nx ?_;refine WL.nil (EX.np ?_);refine cS ?_;refine WC.fE (t:=35) (v:=.bool (aJ s.b k)) bV ?_<|?_
 ·
  have G9:=bV.cX;refine WC.dS (m:=9) bV mixed<|(qe) (fun kq=>?_) (fun kq=>?_)
  ·
   refine(kQ) aU St.g0<|dV ?_;refine DP .r (fun _ hC=>PV.ld1 (j:=1) aU (cV.range (As.gb hC.2.g4)) rfl rfl)<|(eb)<|?_;rintro w5 ⟨ez,bT⟩ _;exact(dp) (by unfold aJ;simp only [kq];first | rfl | simp) (bT)
  refine(eb) ?_;rintro w5 ⟨ez,bT⟩ _;exact(dp) (by unfold aJ;simp only [kq];first | rfl | simp) (bT)
 intro w5 bT;refine(aZ) (fun H9=>?_) fun H9=>?_
 ·
  rw [if_pos H9] at dL;simp only [Option.some.injEq] at dL;subst dL;refine cS ?_;refine EX.yw (.inl rfl) rfl<|?_;exact⟨E,Z,rfl,cI.refl _ _,(As.gr bT.g3),(As.gr bT.g2),bT.p7.p7.p7.p7.k4⟩
 rw [if_neg (by rw [H9];simp)] at dL;refine dV ?_;have UO:=bT.cX;refine WC.dS (m:=5) bT mixed<|(kQ) xe St.g4<|(iX) aq St.g1<|(eb)<|?_;rintro w6 ⟨mr,cm⟩ _;refine WP .r (PV.mL eG kS GV (As.gm cm.g6) (hbk) rfl rfl)<|(aZ) (fun Ab=>?_) fun Ab=>?_
 ·
  rw [if_pos Ab] at dL;refine(bA) aq cm.b1<|(iu) (ee (k:=k)) cm fun w7 s7 aM=>?_;refine(aZ) (fun g44=>?_) fun g44=>?_
  ·
   simp at g44
   rw [if_neg (by rw [g44];simp)] at dL;simp only [Option.some.injEq] at dL;subst dL;refine dV ?_;refine WL.s1 aM.p4 fun w8 _ aO=>?_;refine nx ?_;have aS:=aO.Fx (B:=As.blk xb 88 (EA.cells E D.s bb {s with e:=43})) (rfl);refine dA ?_;refine EX.yw (.inl rfl) rfl<|?_;exact⟨E,Z,rfl,cI.refl _ _,(As.gr aS.g4),(As.gr aS.g3),aS.p7.p7.p7.p3.k4⟩
  simp at g44
  rw [if_pos g44] at dL;simp only [Option.some.injEq] at dL;subst dL;refine dV ?_;refine EX.yw (.inl rfl) rfl<|?_;exact⟨E,Z,rfl,cI.refl _ _,(As.gr aM.g3),(As.gr aM.g2),aM.p7.p7.p7.p7.k4⟩
 rw [if_neg (by rw [Ab];simp)] at dL;refine dA ?_;have hN7:=cm.cX;refine WC.dS (m:=5) cm mixed<|(kQ) xe St.g4<|(iX) aq St.g1<|(eb)<|?_;rintro w7 ⟨Tj,aM⟩ _;refine WL.go rfl (OX.put eG kS (As.gm aM.g6) rfl rfl rfl fun w8 PN JM=>?_);have aO:=aM.p6.nq PN JM;refine nx ?_;obtain⟨⟨s2,r2⟩,hp,dL⟩:=Option.bind_eq_some_iff.1 dL;obtain⟨s3,vE,dL⟩:=Option.bind_eq_some_iff.1 dL;simp only [Option.some.injEq] at dL;subst dL;have FB:=(df hR f).2.1 _ _ _ _ _ hp (tm.on k);have Nl:=hk.jE qt;have P7:s3.cP.length≤1000000:=pX
 have aef:s2.cP.length≤1000000:=by
  split at vE
  ·
   have:=((df hR f).2.2 _ _ _ _ _ vE FB.1 Nl rfl (fun a ha=>by cases ha)).2.cP
   exact Nat.le_trans this P7
  simp only [Option.some.injEq] at vE;subst vE;exact P7
 have aks:s2.b.ad.length≤1000000:=by rw [FB.1.aF,← tm.aF];exact Bg
 refine(bA) aq aO.b2<|?_;have aS:=aO.p7.p1.p7.p7;refine(dh) aiM (Hi (s:={s with busy:=dC s.busy k (.bool true)}) (E:=E) hR aS.e4 (As.gr aS.g7) (As.gr aS.g6) (tm.on k) Bg mA hp aef) ?_;rintro _ w9 ⟨E2,Z2,rfl,AD,akt,aku,ny⟩;have bC:=St.lv aS ny AD;have ly:=(cI.refl w.heap.size Z).trans AD aS.size;have br:=bC.fr (akt);have aY:=br.fr (aku);have aQ:=aY.p9.drop;have bB:=aQ.p8.drop;refine(aZ) (fun zX=>?_) fun zX=>?_
 ·
  rw [if_pos zX] at vE;refine(bA) aq (cV.range (As.gb bB.g7))<|?_;have bL:=bB.p5.p5.p5.p5;refine(dh) aiN (MP (s:=s2) (E:=E2) hR bL.e4 (As.gr bL.g5) (As.gr bL.g4) FB.1 aks Nl mA vE P7) ?_;rintro _ kE ⟨E3,Z3,rfl,qQ,akv,akw,jf⟩;have bG:=St.lv bL jf qQ;have hZe:=ly.trans qQ bL.size;have ck:=bG.fr (akv);have cw:=ck.fr (akw);have cx:=cw.p7.drop;have cU:=cx.p6.drop;refine cS ?_;have BE:=cU.cX;refine WC.dS (m:=5) cU mixed<|(kQ) xe St.g2<|(iX) aq St.g7<|(eb)<|?_;rintro kF ⟨Dd,ct⟩ _;refine WL.go rfl (OX.del eG kS (As.gm ct.g4) rfl rfl fun qf Ep Er=>?_);have cN:=ct.p4.nq Ep Er;refine nx ?_;refine EX.yw (.inr rfl) rfl<|?_;exact⟨_,_,rfl,hZe,(As.gr cN.g2),(As.gr cN.g1),cN.p5.p1.p5.p5.k4⟩
 rw [if_neg (by rw [zX];simp)] at vE;simp only [Option.some.injEq] at vE;subst vE;have hZe:=ly;refine cS ?_;have BE:=bB.cX;refine WC.dS (m:=5) bB mixed<|(kQ) xe St.g2<|(iX) aq St.g7<|(eb)<|?_;rintro kE ⟨Dd,bL⟩ _;refine WL.go rfl (OX.del eG kS (As.gm bL.g4) rfl rfl fun kF YB YC=>?_);have bG:=bL.p4.nq YB YC;refine nx ?_;refine EX.yw (.inr rfl) rfl<|?_;exact⟨_,_,rfl,hZe,(As.gr bG.g2),(As.gr bG.g1),bG.p5.p1.p5.p5.k4⟩
theorem YD(hR:aw ab) (Bg:x.ad.length≤1000000):∀f,UpC ab x D xb bb f:=by
 intro f
 induction f using Nat.strongRecOn with
 | _ f ih=>
  intro w M Z s E k s' bJ hi hr tm hk dL pX
  cases f with
  | zero=>simp [mb] at dL
  | succ f=>exact P6 hR bJ hi hr tm (by rw [tm.aF];exact Bg) hk (fun g hg=>ih g (by omega)) dL pX
theorem Hn(hs:s.size≤1000) (w:World):Calls prog 202 #[.string s] w fun e w'=>∃(v:Int) (ok:Bool) (ev:Value),e=.returned (.tuple #[.int .i64 v,ev])∧(-9223372036854775808≤v∧v≤9223372036854775807)∧((ok=true∧ev=.nilIface)∨(ok=false∧∃t y,ev=.iface t y))∧(ok=false→ev=.iface 386 (.int .i64 2)∨ev=.iface 386 (.int .i64 1))∧aV [] w w':=by
 refine(Any.internal_strconv_Atoi_all {laysC172 with} s (by omega) w).mono fun e w' ⟨he,hw⟩=>?_
 have hc:aV [] w w':=by
  rcases hw with rfl | ⟨t,rfl⟩
  ·
   exact aV.refl _ _
  exact C4 _ _ _
 cases h:Lib.atoiAll s.data.toList
 ·
  rename_i v
  rw [h] at he;exact⟨v,true,.nilIface,he,Lib.atoiAll_bounds h,.inl ⟨rfl,rfl⟩,(fun e=>by cases e),hc⟩
 ·
  rw [h] at he;exact⟨0,false,_,he,by decide,.inr ⟨rfl,_,_,rfl⟩,fun _=>.inl rfl,hc⟩
 rw [h] at he;exact⟨Lib.atoiSat s.data.toList,false,_,he,Lib.atoiSat_bounds _,.inr ⟨rfl,_,_,rfl⟩,fun _=>.inr rfl,hc⟩
set_option maxHeartbeats 400000
theorem AG :CR prog 152 #[.int .i64 n] w (.bool (decide (30≤n) && decide (n≤32))):=by
 refine enter func152 rfl ntmps152 rfl<|?_;have bd:=St.s0 w;refine jo ?_;refine WC.nP (t:=2) (v:=.bool (decide (30≤n) && decide (n≤32))) bd ?_<|?_
 ·
  refine(ed) (fun g5=>?_) (fun g5=>?_)
  ·
   exact(iH) (by simp only [g5];first | rfl | simp) (bd)
  exact(iH) (by simp only [g5];first | rfl | simp) (bd)
 intro w1 st1;refine(cy) ?_;exact⟨rfl,(St.cg st1)⟩
theorem Ho :CR prog 153 #[.int .i64 n] w (.bool (decide (1≤n) && decide (n≤22))):=by
 refine enter func153 rfl ntmps153 rfl<|?_;have bd:=St.s0 w;refine jo ?_;refine WC.nP (t:=2) (v:=.bool (decide (1≤n) && decide (n≤22))) bd ?_<|?_
 ·
  refine(ed) (fun g5=>?_) (fun g5=>?_)
  ·
   exact(iH) (by simp only [g5];first | rfl | simp) (bd)
  exact(iH) (by simp only [g5];first | rfl | simp) (bd)
 intro w1 st1;refine(cy) ?_;exact⟨rfl,(St.cg st1)⟩
theorem eU :CR prog 89 #[k.val] w (.bool (az k)):=by
 refine enter func89 rfl ntmps89 rfl<|?_;have bd:=St.s0 w;refine(fm) bd fun b1 w1 oU dK st1=>?_;refine dV ?_;refine WC.nP (t:=2) (v:=.bool (az k)) st1 ?_<|?_
 ·
  refine(bM) aU st1.b0<|(ed) (fun g6=>?_) (fun g6=>?_)
  ·
   exact(iH) (by unfold az;simp only [g6];first | rfl | simp) (st1)
  refine(bM) aU st1.b0<|(ed) (fun g11=>?_) (fun g11=>?_)
  ·
   exact(iH) (by unfold az;simp only [g6,g11];first | rfl | simp) (st1)
  refine(bM) aU st1.b0<|?_;exact(iH) (by unfold az;simp only [g6,g11];first | rfl | simp) (st1)
 intro w2 st2;refine(cy) ?_;exact⟨rfl,(St.cg st2)⟩
theorem qR :CR prog 125 #[k.val] w (.bool (decide (k.kind=31) || decide (k.kind=32))):=by
 refine enter func125 rfl ntmps125 rfl<|?_;have bd:=St.s0 w;refine(fm) bd fun b1 w1 oU dK st1=>?_;refine dV ?_;refine WC.nP (t:=2) (v:=.bool (decide (k.kind=31) || decide (k.kind=32))) st1 ?_<|?_
 ·
  refine(bM) aU st1.b0<|(ed) (fun g6=>?_) (fun g6=>?_)
  ·
   exact(iH) (by simp only [g6];first | rfl | simp) (st1)
  refine(bM) aU st1.b0<|?_;exact(iH) (by simp only [g6];first | rfl | simp) (st1)
 intro w2 st2;refine(cy) ?_;exact⟨rfl,(St.cg st2)⟩
theorem oe(hk:gT k):CR prog 131 #[k.val] w (.bool (decide (k.kind=32))):=by
 refine enter func131 rfl ntmps131 rfl<|?_;have bd:=St.s0 w;refine(fm) bd fun b1 w1 oU dK st1=>?_;refine dV ?_;refine WC.nP (t:=2) (v:=.bool (decide (k.kind=32))) st1 ?_<|?_
 ·
  refine(bM) aU st1.b0<|(ed) (fun g6=>?_) (fun g6=>?_)
  ·
   exact(iH) (by simp only [g6];first | done | rfl | simp) (st1)
  refine(bM) aU st1.b0<|(dh) adg (Ho (n:=k.kind)) ?_;rintro _ w2 ⟨rfl,s2⟩;rw [show(decide (1≤k.kind) && decide (k.kind≤22))=false by(rcases hk with h | h <;> simp <;> omega)];have st2:=st1.step s2;exact(iH) (by simp only [g6];first | done | rfl | simp) (st2)
 intro w2 st2;refine(cy) ?_;exact⟨rfl,(St.cg st2)⟩
theorem og{n:Nat}(hk:30≤k.kind∧k.kind≤32) (ht:k.text=itoa n) (hn:n≤99):CR prog 127 #[k.val] w (.int .i64 (n:Int)):=by
 obtain⟨kd,tx⟩:=k;simp only at hk ht;subst ht;refine enter func127 rfl ntmps127 rfl<|?_;have bd:=St.s0 w;refine(fm) bd fun b1 w1 oU dK st1=>?_;refine(bM) aU st1.b0<|(dh) UA (AG (n:=kd)) ?_;rintro _ w2 ⟨rfl,s2⟩;rw [show(decide (30≤kd) && decide (kd≤32))=true by(simp;omega)];have st2:=st1.step s2;refine dA ?_;refine WC.ke rfl<|(bM) iF st2.b0<|(iu) (Jx hn w2) st2 fun w3 s3 aW=>?_;refine qd ?_;refine WC.fE (t:=31) (v:=.bool false) aW ?_<|?_
 ·
  have UO:=aW.cX;refine WC.eJ (m:=15) (E:=dm [(12,fun v _=>v=.string (itoa n))]) aW (bK (⟨fun _ _ _ _ _ _ _ h=>h,trivial⟩)) mixed (by kernel_rfl)<|nx ?_;refine DP .r (fun _ hC=>PV.VS D5 rfl)<|nx ?_;refine DW.iZ (t:=17) rfl (fun g17=>?_) (fun g17=>?_)
  ·
   refine(eb) ?_;rintro w4 ⟨mr,ba⟩ _;exact(dp) (tG g17) (ba)
  refine dV ?_;refine DW.iZ (t:=21) rfl (fun g21=>?_) (fun g21=>?_)
  ·
   refine(eb) ?_;rintro w4 ⟨mr,ba⟩ _;exact(dp) (tG (aj g17 g21)) (ba)
  refine dV ?_;refine DW.iZ (t:=25) rfl (fun eZ=>?_) (fun eZ=>?_)
  ·
   refine(eb) ?_;rintro w4 ⟨mr,ba⟩ _;exact(dp) (tG (aj g17<|aj g21 eZ)) (ba)
  refine nx ?_;refine DW.c0 (fun wx hC hF=>lq (n:=(n:Int)) (by omega) (by omega) wx)<|(kQ) iF St.g0<|(eb)<|?_;rintro w4 ⟨mr,ba⟩ ⟨_,_⟩;exact(dp) (tG (aj g17<|aj g21 eZ)) (ba)
 intro w4 ba;refine(aZ) (fun rV=>?_) fun rV=>?_
 ·
  exact absurd rV (by simp)
 ·
  refine(cy) ?_;exact⟨rfl,(St.cg ba)⟩
 -- tJ je C8.T
theorem jC{n:Nat}(hk:30≤k.kind∧k.kind≤32) (ht:k.text=itoa n) (hn:n≤99):CR prog 124 #[k.val] w (.bool true):=by
 refine enter func124 rfl ntmps124 rfl<|?_;have bd:=St.s0 w;refine(fm) bd fun b1 w1 oU dK st1=>?_;refine(bM) aU st1.b0<|(dh) UA (AG (n:=k.kind)) ?_;rintro _ w2 ⟨rfl,s2⟩;rw [show(decide (30≤k.kind) && decide (k.kind≤32))=true by(simp;omega)];have st2:=st1.step s2;refine cS ?_;refine WC.Cb rfl<|(bA) aq st2.b0<|(iu) (og (k:=k) hk ht hn) st2 fun w3 s3 aW=>?_;refine(cy) ?_;exact⟨by simp,(St.cg aW)⟩
theorem rJ{a:Option Addr}{r c:Nat}(hr:ik A w a r c ab):CR prog 126 #[.slice a r c,.int .i64 n] w ((aL ab n).val):=by
 have hle:=hr.le;have hlen:=hr.len;refine enter func126 rfl ntmps126 rfl<|?_;have bd:=St.s0 w;refine(gy) bd fun b4 w1 jG bE st1=>?_;refine dV ?_;refine WC.fE (t:=17) (v:=.bool (decide (n<0) || (decide ((r:Int)≤n) || decide (99<n)))) st1 ?_<|?_
 ·
  refine(ed) (fun g8=>?_) (fun g8=>?_)
  ·
   exact(dp) (by simp only [g8];first | rfl | simp) (st1)
  refine(ed) (fun g14=>?_) (fun g14=>?_)
  ·
   exact(dp) (by simp only [g8,g14];first | rfl | simp) (st1)
  exact(dp) (by simp only [g8,g14];first | rfl | simp) (st1)
 intro w2 st2;refine(aZ) (fun g17=>?_) fun g17=>?_
 ·
  have hk:aL ab n=dn:=by unfold aL;rw [if_pos (by simp at g17;omega)]
  refine(dB) jz st2 fun w3 jV j0 aW=>?_;refine(my) aq aW.b0<|?_;rw [hk];exact⟨rfl,(St.cg aW)⟩
 simp at g17
 obtain⟨i,rfl⟩:∃i:Nat,n=i:=⟨n.toNat,by omega⟩
 have hi:i<ab.length:=by omega
 have hk:aL ab i=⟨if aD ab i then 32 else 31,itoa i⟩:=by unfold aL;rw [if_neg (by omega)];rfl
 have lC:=cM hi;refine qd ?_;obtain⟨Tk,Tl,Tm,lT,_,⟨q1,q2,q3,rfl,_⟩,oh,_⟩:=(hr.ext (St.cg st2)).at (ao hi);refine dA ?_;refine WP .r (PV.fO ll lT rfl rfl (by omega))<|nx ?_;refine WP .r (PV.ld1 (j:=0) fq oh rfl rfl)<|(aZ) (fun g23=>?_) fun g23=>?_
 ·
  have nc:aL ab i=⟨32,itoa i⟩:=by rw [hk,lC,g23];rfl
  refine(iu) (lq (n:=(i:Int)) (by omega) (by omega) w2) st2 fun w3 s3 aW=>?_;refine WP .r (PV.bU (us:=_) D4 rfl rfl rfl)<|(dB) jz aW fun w4 sC nj ba=>?_;refine(my) aq ba.b0<|?_;rw [nc];exact⟨rfl,(St.cg ba)⟩
 have nc:aL ab i=⟨31,itoa i⟩:=by rw [hk,lC,g23];rfl
 refine(iu) (lq (n:=(i:Int)) (by omega) (by omega) w2) st2 fun w3 s3 aW=>?_;refine WP .r (PV.bU (us:=_) D4 rfl rfl rfl)<|(dB) jz aW fun w4 BC rq ba=>?_;refine(my) aq ba.b0<|?_;rw [nc];exact⟨rfl,(St.cg ba)⟩
set_option maxHeartbeats 400000
set_option maxRecDepth 1000000 in
theorem nM(hs:s.size≤1000):CR prog 373 #[.string s] w (.string s):=by
 refine enter func373 rfl ntmps373 rfl<|?_;have bd:=St.s0 w;refine bf ?_;refine(aZ) (fun g6=>?_) fun g6=>?_
 ·
  refine(cy) ?_;exact⟨by rw [show s=⟨#[]⟩ from ByteArray.ext (Array.eq_empty_of_size_eq_zero (show s.size=0 by have:=of_decide_eq_true g6;omega))],(St.cg bd)⟩
 have h0:s.size≠0:=by have:=of_decide_eq_false g6;omega
 obtain⟨i,hi,hq⟩:=Option.map_eq_some_iff.1 (show(prog.info? 5).map (fun i=>(i.zero,i.size,i.bytes))=some (some (.int .u8 0),1,1) by kernel_rfl);simp only [Prod.mk.injEq] at hq;obtain⟨hz,h1,hb⟩:=hq;obtain⟨u1,u2,u3,k1,k2,k3,hc⟩:=DC (S:=9) (it:=3) (ty1:=3) (ty2:=9) underlying191 hi hz h1 hb underlying576 h0 hs w;refine jo ?_;refine WL.go rfl (OX.abj rfl rfl rfl k1 ?_);refine gM ?_;refine WL.go rfl (OX.abk rfl rfl rfl k2 ?_);refine eC ?_;refine WP .r (PV.Kk Ui 0 (show some (⟨w.heap.size,0,none⟩:Addr)=some ⟨w.heap.size,0,none⟩ from rfl) rfl rfl rfl (by omega))<|cS ?_;refine WL.go rfl (OX.ahr rfl rfl rfl k3 ?_);refine(cy) ?_;exact⟨rfl,hc⟩
theorem BF(hs:s.size≤1000) (hv:w.cell? ⟨4,0,none⟩=some .nilIface):Calls prog 286 #[.string f,.string s] w fun e w'=>∃b,e=.returned (.pointer (some ⟨b,0,none⟩))∧aV [] w w':=by
 have hr:w.rangeAt 4 0 [.nilIface]:=fun j v hj=>by
  cases j with
  | zero=>simp at hj;subst hj;exact hv
  | succ j=>simp at hj
 refine enter func286 rfl ntmps286 rfl<|?_;have bd:=St.s0 w;refine jo ?_;have Au:=bd.cX;refine WC.eJ (m:=4) (E:=dm [(2,fun v _=>v=.string s)]) bd (bK (⟨fun _ _ _ _ _ _ _ h=>h,trivial⟩)) mixed (by kernel_rfl)<|cS ?_;refine DW.c0 (fun wx hC hF=>nM hs)<|?_;refine DP .r (fun _ hC=>PV.pA D7 (bH hr (St.cg hC.2) (by simp)) rfl rfl)<|(eb)<|?_;rintro w1 ⟨fx,st1⟩ ⟨_,_⟩;refine WP .r (PV.bU (us:=[.string f,.string s,.nilIface]) K8 rfl rfl rfl)<|(fm) st1 fun iA w2 kL ft st2=>?_;refine(cy) ?_;exact⟨_,rfl,(St.cg st2)⟩
theorem BG(hs:s.size≤1000) (hv:w.cell? ⟨4,0,none⟩=some (.iface t p)):Calls prog 286 #[.string f,.string s] w fun e w'=>∃b,e=.returned (.pointer (some ⟨b,0,none⟩))∧aV [] w w':=by
 have hr:w.rangeAt 4 0 [(.iface t p)]:=fun j v hj=>by
  cases j with
  | zero=>simp at hj;subst hj;exact hv
  | succ j=>simp at hj
 refine enter func286 rfl ntmps286 rfl<|?_;have bd:=St.s0 w;refine jo ?_;have Au:=bd.cX;refine WC.eJ (m:=4) (E:=dm [(2,fun v _=>v=.string s)]) bd (bK (⟨fun _ _ _ _ _ _ _ h=>h,trivial⟩)) mixed (by kernel_rfl)<|cS ?_;refine DW.c0 (fun wx hC hF=>nM hs)<|?_;refine DP .r (fun _ hC=>PV.pA D7 (bH hr (St.cg hC.2) (by simp)) rfl rfl)<|(eb)<|?_;rintro w1 ⟨fx,st1⟩ ⟨_,_⟩;refine WP .r (PV.bU (us:=[.string f,.string s,(.iface t p)]) K8 rfl rfl rfl)<|(fm) st1 fun iA w2 kL ft st2=>?_;refine(cy) ?_;exact⟨_,rfl,(St.cg st2)⟩
theorem aky:prog.globalNamed "strconv.ErrSyntax" = some 4:=by kernel_rfl
theorem Ew(ht:nO prog A w) (hs:s.size≤1000):Calls prog 286 #[.string f,.string s] w fun e w'=>∃b,e=.returned (.pointer (some ⟨b,0,none⟩))∧aV [] w w':=by
 obtain⟨ev,hv,dL⟩:=ht.err (.inl rfl) aky
 rcases dL with rfl | ⟨t,p,rfl⟩
 ·
  exact BF hs hv
 exact BG hs hv
theorem BH(hs:s.size≤1000) (hv:w.cell? ⟨5,0,none⟩=some .nilIface):Calls prog 287 #[.string f,.string s] w fun e w'=>∃b,e=.returned (.pointer (some ⟨b,0,none⟩))∧aV [] w w':=by
 have hr:w.rangeAt 5 0 [.nilIface]:=fun j v hj=>by
  cases j with
  | zero=>simp at hj;subst hj;exact hv
  | succ j=>simp at hj
 refine enter func287 rfl ntmps287 rfl<|?_;have bd:=St.s0 w;refine jo ?_;have Au:=bd.cX;refine WC.eJ (m:=4) (E:=dm [(2,fun v _=>v=.string s)]) bd (bK (⟨fun _ _ _ _ _ _ _ h=>h,trivial⟩)) mixed (by kernel_rfl)<|cS ?_;refine DW.c0 (fun wx hC hF=>nM hs)<|?_;refine DP .r (fun _ hC=>PV.pA D7 (bH hr (St.cg hC.2) (by simp)) rfl rfl)<|(eb)<|?_;rintro w1 ⟨fx,st1⟩ ⟨_,_⟩;refine WP .r (PV.bU (us:=[.string f,.string s,.nilIface]) K8 rfl rfl rfl)<|(fm) st1 fun iA w2 kL ft st2=>?_;refine(cy) ?_;exact⟨_,rfl,(St.cg st2)⟩
theorem BI(hs:s.size≤1000) (hv:w.cell? ⟨5,0,none⟩=some (.iface t p)):Calls prog 287 #[.string f,.string s] w fun e w'=>∃b,e=.returned (.pointer (some ⟨b,0,none⟩))∧aV [] w w':=by
 have hr:w.rangeAt 5 0 [(.iface t p)]:=fun j v hj=>by
  cases j with
  | zero=>simp at hj;subst hj;exact hv
  | succ j=>simp at hj
 refine enter func287 rfl ntmps287 rfl<|?_;have bd:=St.s0 w;refine jo ?_;have Au:=bd.cX;refine WC.eJ (m:=4) (E:=dm [(2,fun v _=>v=.string s)]) bd (bK (⟨fun _ _ _ _ _ _ _ h=>h,trivial⟩)) mixed (by kernel_rfl)<|cS ?_;refine DW.c0 (fun wx hC hF=>nM hs)<|?_;refine DP .r (fun _ hC=>PV.pA D7 (bH hr (St.cg hC.2) (by simp)) rfl rfl)<|(eb)<|?_;rintro w1 ⟨fx,st1⟩ ⟨_,_⟩;refine WP .r (PV.bU (us:=[.string f,.string s,(.iface t p)]) K8 rfl rfl rfl)<|(fm) st1 fun iA w2 kL ft st2=>?_;refine(cy) ?_;exact⟨_,rfl,(St.cg st2)⟩
theorem akz:prog.globalNamed "strconv.ErrRange" = some 5:=by kernel_rfl
theorem Ex(ht:nO prog A w) (hs:s.size≤1000):Calls prog 287 #[.string f,.string s] w fun e w'=>∃b,e=.returned (.pointer (some ⟨b,0,none⟩))∧aV [] w w':=by
 obtain⟨ev,hv,dL⟩:=ht.err (.inr rfl) akz
 rcases dL with rfl | ⟨t,p,rfl⟩
 ·
  exact BH hs hv
 exact BI hs hv
theorem Hp(ht:nO prog A w) (hs:s.size≤1000):Calls prog 203 #[.string f,.string s,.int .i64 0,.int .i64 0,.iface 386 (.int .i64 2)] w fun e w'=>∃b,e=.returned (.iface 389 (.pointer (some ⟨b,0,none⟩)))∧aV [] w w':=by
 refine enter func203 rfl ntmps203 rfl<|?_;have bd:=St.s0 w;refine bf ?_;refine cS ?_;refine WP .r (PV.Oe underlying386 (by intro ms h;cases h) rfl)<|WP .r (PV.VU underlying205 (by kernel_rfl) underlying386 rfl rfl)<|(aZ) (fun g12=>?_) fun g12=>?_
 ·
  refine(dh) adA (Ew (ht.ext (St.cg bd)) hs) ?_;rintro _ w1 ⟨b,rfl,s1⟩;have st1:=bd.step s1;refine WP .r (PV.Oe underlying389 (by intro ms h;cases h) rfl)<|(cy) ?_;exact⟨_,rfl,(St.cg st1)⟩
 ·
  exact ic g12
 -- tJ je C19 R4.0 R4.1 R5.2 R5.3 X1
theorem Hq(ht:nO prog A w) (hs:s.size≤1000):Calls prog 203 #[.string f,.string s,.int .i64 0,.int .i64 0,.iface 386 (.int .i64 1)] w fun e w'=>∃b,e=.returned (.iface 389 (.pointer (some ⟨b,0,none⟩)))∧aV [] w w':=by
 refine enter func203 rfl ntmps203 rfl<|?_;have bd:=St.s0 w;refine bf ?_;refine cS ?_;refine WP .r (PV.Oe underlying386 (by intro ms h;cases h) rfl)<|WP .r (PV.VU underlying205 (by kernel_rfl) underlying386 rfl rfl)<|(aZ) (fun g12=>?_) fun g12=>?_
 ·
  exact ic g12
 ·
  refine cS ?_;refine WP .r (PV.Oe underlying386 (by intro ms h;cases h) rfl)<|WP .r (PV.VU underlying205 (by kernel_rfl) underlying386 rfl rfl)<|(aZ) (fun g19=>?_) fun g19=>?_
  ·
   refine(dh) adB (Ex (ht.ext (St.cg bd)) hs) ?_;rintro _ w1 ⟨b,rfl,s1⟩;have st1:=bd.step s1;refine WP .r (PV.Oe underlying389 (by intro ms h;cases h) rfl)<|(cy) ?_;exact⟨_,rfl,(St.cg st1)⟩
  exact ic g19
 -- tJ je R3.2 R3.3 X1
theorem Hr{ev:Value}(ht:nO prog A w) (hs:s.size≤1000) (he:ev=.iface 386 (.int .i64 2)∨ev=.iface 386 (.int .i64 1)):Calls prog 203 #[.string f,.string s,.int .i64 0,.int .i64 0,ev] w fun e w'=>∃b,e=.returned (.iface 389 (.pointer (some ⟨b,0,none⟩)))∧aV [] w w':=by
 rcases he with rfl | rfl
 ·
  exact Hp ht hs
 exact Hq ht hs
theorem P8(ht:nO prog A w) (hs:s.size≤1000):Calls prog 154 #[.string s] w fun e w'=>∃(v:Int) (ok:Bool) (ev:Value),e=.returned (.tuple #[.int .i64 v,ev])∧(-9223372036854775808≤v∧v≤9223372036854775807)∧((ok=true∧ev=.nilIface)∨(ok=false∧∃t y,ev=.iface t y))∧aV [] w w':=by
 refine enter func154 rfl ntmps154 rfl<|?_;have bd:=St.s0 w;refine(dh) adr (Hn hs w) ?_;rintro _ w1 ⟨v,ok,ev,rfl,hv,eV,dL,s1⟩;have st1:=bd.step s1;refine uj ?_;refine WP .r (PV.abh D5 rfl eV)<|(aZ) (fun g12=>?_) fun g12=>?_
 ·
  refine(dh) ads (Hr (ht.ext (St.cg st1)) hs (dL (by simpa using g12))) ?_;rintro _ w2 ⟨b,rfl,s2⟩;have st2:=st1.step s2;refine(Fy) ?_;exact⟨v,false,_,rfl,hv,.inr ⟨rfl,_,_,rfl⟩,(St.cg st2)⟩
 refine(Fy) ?_;exact⟨v,true,.nilIface,rfl,hv,.inl ⟨rfl,rfl⟩,(St.cg st1)⟩
end Go.Rc

