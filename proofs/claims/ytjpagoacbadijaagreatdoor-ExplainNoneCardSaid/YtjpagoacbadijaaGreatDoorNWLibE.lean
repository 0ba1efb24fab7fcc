/- Walks over the program, part WLibE. Conditions: as each theorem says. -/
import Derived.Test.YtjpagoacbadijaaGreatDoorNFacts
import Derived.Test.YtjpagoacbadijaaGreatDoorNWK
import Derived.Test.YtjpagoacbadijaaGreatDoorNBe
import Derived.Test.YtjpagoacbadijaaGreatDoorNWB
import Derived.Test.YtjpagoacbadijaaGreatDoorNBd
import Derived.Test.YtjpagoacbadijaaGreatDoorShelf
import Derived.Test.YtjpagoacbadijaaGreatDoorNWD
import Derived.Test.YtjpagoacbadijaaGreatDoorNBf
import Derived.Test.YtjpagoacbadijaaGreatDoorNBb
set_option linter.all false
namespace Go.Rc
open Go Go.Proofs Go.Proofs.Tryz
variable {ab:List aG}{x:dQ}{D:SD}{xb bb:Nat}{w:World}{M Z A:Nat→Prop}{s f:ByteArray}{E:EA}{k:Key}{s':ES}{n:Int}{t:TypeId}{p:Value}
set_option maxHeartbeats 400000
def UpC(ab:List aG) (x:dQ) (D:SD) (xb bb f:Nat):Prop:=∀(w:World) (M Z:Nat→Prop) (s:ES) (E:EA) (k:Key) (s':ES),St w M Z w [As.blk xb 88 (E.cells D.s bb s),As.l3 prog 134 ab x D,As.map Key.val bb s.busy,As.os RR.key 39 2 E.a3 E.n3 E.c3 s.cU]→Rd RR.aF 4 Z w E.a1 E.n1 E.c1 s.b.ae→Rd RR.fV 8 Z w E.a2 E.n2 E.c2 s.b.ak→Good ab x.ae s→gA ab k→mc ab (valOf ab x.ae) f s k=some s'→s'.cU.length≤1000000→
 Calls prog 33 #[.pointer (some ⟨xb,0,none⟩),k.val] w fun e w'=>∃(E':EA) (Z':Nat→Prop),e=.returned (.tuple #[])∧cN w.heap.size Z Z'∧Rd RR.aF 4 Z' w' E'.a1 E'.n1 E'.c1 s'.b.ae∧Rd RR.fV 8 Z' w' E'.a2 E'.n2 E'.c2 s'.b.ak∧St w M Z' w' [As.blk xb 88 (E'.cells D.s bb s'),As.l3 prog 134 ab x D,As.map Key.val bb s'.busy,As.os RR.key 39 2 E'.a3 E'.n3 E'.c3 s'.cU]
set_option maxHeartbeats 1600000 in
theorem Hr{s:ES}{f:Nat}{r:Bool}(hR:aw ab) (bJ:St w M Z w [As.blk xb 88 (E.cells D.s bb s),As.l3 prog 134 ab x D,As.map Key.val bb s.busy,As.os RR.key 39 2 E.a3 E.n3 E.c3 s.cU]) (hi:Rd RR.aF 4 Z w E.a1 E.n1 E.c1 s.b.ae) (hr:Rd RR.fV 8 Z w E.a2 E.n2 E.c2 s.b.ak) (tr:Good ab x.ae s) (Bs:s.b.ae.length≤1000000) (mB:∀g,g<f→UpC ab x D xb bb g) (P3:dI ab (valOf ab x.ae) f s k 0=some (s',r)) (qa:s'.cU.length≤1000000):Calls prog 65 #[.pointer (some ⟨xb,0,none⟩),k.val] w fun e w'=>∃(E':EA) (Z':Nat→Prop),e=.returned (.bool r)∧cN w.heap.size Z Z'∧Rd RR.aF 4 Z' w' E'.a1 E'.n1 E'.c1 s'.b.ae∧Rd RR.fV 8 Z' w' E'.a2 E'.n2 E'.c2 s'.b.ak∧St w M Z' w' [As.blk xb 88 (E'.cells D.s bb s'),As.l3 prog 134 ab x D,As.map Key.val bb s'.busy,As.os RR.key 39 2 E'.a3 E'.n3 E'.c3 s'.cU]:=by
 refine enter func65 rfl ntmps65 rfl<|?_;have bd:=bJ;have st1:=bd.fr hi;have st2:=st1.fr hr;refine(fo) st2 fun b3 w1 iR dL aW=>?_;refine nT ?_;refine WC.jC (σ:=Nat × ES × EA × Nat × (Nat→Prop)) (eJ:=fun(fu,s1,E1,ix,Z1)=>[(0,.pointer (some ⟨xb,0,none⟩)),(3,.pointer (some ⟨b3,0,none⟩)),(5,.int .i64 (ix:Int))]) (F:=fun(fu,s1,E1,ix,Z1)=>[As.blk xb 88 (E1.cells D.s bb s1),As.map Key.val bb s1.busy,As.os RR.key 39 2 E1.a3 E1.n3 E1.c3 s1.cU,As.ro RR.aF 4 E1.a1 E1.n1 E1.c1 s1.b.ae,As.ro RR.fV 8 E1.a2 E1.n2 E1.c2 s1.b.ak]) (I:=fun(fu,s1,E1,ix,Z1)=>(dI ab (valOf ab x.ae) fu s1 k ix=some (s',r))∧(Good ab x.ae s1)∧(fu≤f)∧(cN w.heap.size Z Z1)∧True) (μ:=fun(fu,s1,E1,ix,Z1)=>fu) (Zf:=fun(fu,s1,E1,ix,Z1)=>Z1) (f,s,E,0,Z) (aW.p1.p2.p6.p6.p5) Sub.t (⟨P3,tr,Nat.le_refl _,cN.refl _ _,trivial⟩)<|?_;rintro⟨fu,s1,E1,ix,Z1⟩ w2 ba ⟨dO,pj,hfu,hZ,_⟩;simp only [CA,NA] at ba dO pj hfu hZ ⊢
 obtain⟨NB,rfl⟩:∃g,fu=g+1:=by cases fu with | zero=>simp [dI] at dO | succ g=>exact⟨g,rfl⟩
 unfold dI at dO
 have hl4:=pj.len
 have akl:s1.b.ae.length≤1000000:=by rw [pj.aF,← tr.aF];exact Bs
 refine(bL) Dd ba.b0<|(aZ) (fun g17=>?_) fun g17=>?_
 ·
  simp at g17
  rw [if_neg (by simp [g17])] at dO;refine dW ?_;have Hi:=ba.cY;have J1:=ba.ma;have J2:=ba.size;refine WC.td (m:=11) [9] (E:=dr [(6,fun v _=>∃f1 f2 f3,v=.tuple #[.agg ((aH s1.b.ak k).row f1 f2 f3).toArray,.bool (aC s1.b.ak k).isSome]),(10,PB w2.heap.size 48 [.int .i64 0,.string ⟨#[]⟩,.string ⟨#[]⟩,.slice none 0 0,.int .i64 0,.int .i64 0,.int .i64 0,.bool false])]) ba (bM (⟨fun _ _ _ _ _ _ _ h=>h,⟨fun _ _ _ _ _ _ c h=>PB.st Hi c h,trivial⟩⟩)) mixed (by kernel_rfl) rfl ?_;refine dW ?_;refine DP .r (fun _ hC=>PV.ld1 (j:=3) eW (cW.range (As.gb hC.2.g0)) rfl rfl)<|(jj) aq St.g5<|?_;refine DW.e rfl rfl rfl rfl rfl (fun wx hC hF=>OX.call tH rfl rfl ((fw (k:=k) (As.gr hC.2.g4)).mono ?_))<|?_
  ·
   rintro _ wy ⟨f1,f2,f3,rfl,hy⟩;exact⟨_,rfl,⟨Nat.le_trans hC.1 hy.size,hC.2.step hy⟩,hy.p0,_,rfl,⟨f1,f2,f3,rfl⟩⟩
  rintro _ wz _ ⟨f1,f2,f3,rfl⟩;refine dE ?_;refine DW.e rfl rfl rfl rfl rfl (fun wx hC hF=>OX.alloc tB rfl fun b wy nw hb=>⟨⟨Nat.le_trans hC.1 nw.ext.size,hC.2.step nw.ext⟩,nw.ext.p0,_,rfl,_,rfl,Nat.le_trans hC.1 nw.ge,hb⟩)<|?_;rintro _ wz _ ⟨b6,rfl,_,_⟩;refine(eh) ?_;rintro w3 ⟨eB,bw⟩ ⟨AD,⟨_,_⟩⟩;have bj:=bw.xW AD Hi J1 J2;refine(dD) iH bj fun w4 jY j7 bX=>?_;refine nx ?_;refine WL.nil (EX.np ?_);refine dE ?_;refine WC.fL (t:=33) (v:=.bool (!(aC s1.b.ak k).isSome || (aH s1.b.ak k).bU)) bX ?_<|?_
  ·
   refine(dY) (fun lQ=>?_) (fun lQ=>?_)
   ·
    exact(dt) (by simp only [lQ];first | rfl | simp) (bX)
   refine(bL) ft bX.b0<|?_;exact(dt) (by simp only [lQ];first | rfl | simp) (bX)
  intro w5 bV;refine(aZ) (fun jD=>?_) fun jD=>?_
  ·
   rw [if_pos jD] at dO;simp only [Option.some.injEq,Prod.mk.injEq] at dO;obtain⟨Is,P4⟩:=dO;subst Is;subst P4;refine(cA) ?_;exact⟨E1,_,rfl,hZ,(As.gr bV.g4),(As.gr bV.g5),bV.p3.p3.p7.p4.k4⟩
  rw [if_neg (by rw [jD];simp)] at dO;refine dW ?_;have Q8:=bV.cY;refine WC.dS (m:=7) bV mixed<|(lI) aT St.g0<|dW ?_;refine DP .r (fun _ hC=>PV.ld1 (j:=1) aT (cW.range (As.gb hC.2.g1)) rfl rfl)<|(eh)<|?_;rintro w6 ⟨oQ,cq⟩ _;refine(aZ) (fun Ak=>?_) fun Ak=>?_
  ·
   simp at Ak
   rw [if_pos Ak] at dO;simp only [Option.some.injEq,Prod.mk.injEq] at dO;obtain⟨Is,P4⟩:=dO;subst Is;subst P4;refine(cA) ?_;exact⟨E1,_,rfl,hZ,(As.gr cq.g4),(As.gr cq.g5),cq.p3.p3.p7.p4.k4⟩
  simp at Ak
  rw [if_neg Ak] at dO;refine dE ?_;have hN8:=cq.cY;refine WC.dS (m:=11) cq mixed<|dW ?_;refine DP .r (fun _ hC=>PV.ld1 (j:=3) eW (cW.range (As.gb hC.2.g1)) rfl rfl)<|dW ?_;refine DP .r (fun _ hC=>PV.ld1 (j:=1) aT (cW.range (As.gb hC.2.g1)) rfl rfl)<|(jj) aq St.g6<|(eh)<|?_;rintro w7 ⟨qR,aL⟩ _;have aO:=aL;refine(dj) XG (tW aO.e0 (As.gr aO.g5) (by omega)) ?_;rintro _ w8 ⟨q1,q2,q3,Z2,rfl,AH,jZ⟩;have aS:=St.lv aO jZ AH;have Ns:=mS s1.b.ak s1.b.ad k;have P5:=St.cH jZ;have pA:=aO.size;have akm:=hZ.trans AH pA;have bE:=aS.bN (by omega);have lA:=akm.trans (cN.fh (F:=fun x=>x∈aI q1) P5) pA;refine qi ?_;refine WP .r (PV.ld1 (j:=3) eW bE.b2 rfl rfl)<|nx ?_;have bs:=bE;refine(dj) acR (uS bs.e0 (As.gr bs.g6) (As.gr bs.g0) (DS pj (by omega))) ?_;rintro _ w9 ⟨p1,p2,p3,Z3,rfl,qS,mu⟩;have aY:=St.lv bs mu qS;have sF:=lA.trans qS bs.size;have vt:=((As.gs aY.g0)).len;have hca:=DT pj (group:=(aB s1.b.ak s1.b.ad k)) (by omega);refine(aZ) (fun UZ=>?_) fun UZ=>?_
  ·
   simp at UZ
   have gV:(bP s1.b.ak (aB s1.b.ak s1.b.ad k))[ix]?=none:=List.getElem?_eq_none (by omega);rw [gV] at dO;simp only [] at dO;simp only [Option.some.injEq,Prod.mk.injEq] at dO;obtain⟨Is,P4⟩:=dO;subst Is;subst P4;refine(j3) aP aY.b3<|nx ?_;have aQ:=aY;refine(dj) S7 (pB aQ.e0 (As.gr aQ.g6) (As.gr aQ.g7) (As.gr aQ.g1) (by omega) (by omega)) ?_;rintro _ kB ⟨m1,m2,m3,m4,m5,m6,Z4,rfl,AJ,iq⟩;have bF:=St.lv aQ iq AJ;have AK:=sF.trans AJ aQ.size;have J3:=St.cH iq;have F7:=St.cH iq.p1;have mr:=aQ.size;refine cS ?_;refine WL.go rfl (OX.VX fT (As.gb bF.g5) rfl rfl rfl rfl rfl fun kC sC nt=>?_);have bK:=bF.p5.Gh sC nt;refine nx ?_;have br:=bK.FK (B:=As.blk xb 88 (EA.cells ⟨m1,m4,E1.a3,m2,m3,m5,m6,E1.n3,E1.c3⟩ D.s bb {s1 with b:=dT s1.b (aB s1.b.ak s1.b.ad k) false})) (rfl)
   have jH:(dT s1.b (aB s1.b.ak s1.b.ad k) false).ak.length=s1.b.ak.length:=by simp [dT]
   have QQ:(dT s1.b (aB s1.b.ak s1.b.ad k) false).ae=s1.b.ae:=rfl;have bT:=br.p1.bN (by rw [QQ];omega);have cz:=bT.p2.bN (by omega);have nA:=(AK.trans (cN.fh (F:=fun x=>x∈aI m1) J3) mr).trans (cN.fh (F:=fun x=>x∈aI m4) F7) mr;refine(cA) ?_;exact⟨⟨m1,m4,E1.a3,m2,m3,m5,m6,E1.n3,E1.c3⟩,_,rfl,nA,(As.gr cz.g1),(As.gr cz.g0),cz.p7.p7.oW.p5.k4⟩
  simp at UZ
  obtain⟨ch,pU⟩:∃ch,(bP s1.b.ak (aB s1.b.ak s1.b.ad k))[ix]?=some ch:=⟨_,ao (by omega)⟩;rw [pU] at dO;simp only [] at dO;have yy:=iF pj pU;refine dE ?_;obtain⟨ik,aU⟩:=Ow.addr (As.gs aY.g0) pU;refine dE ?_;refine WP .r (PV.fI La aU rfl rfl (by omega))<|(bz) Ec (Ow.qu (As.gs aY.g0) (by omega) aU pU)<|(gu) aY fun iJ kB lz fE aQ=>?_;refine(dD) Ph aQ fun kC BO ry bF=>?_;refine(j3) aq bF.b0<|(iz) (Hq (k:=ch.read) (sb:=D.s) (s:=s1) (E:=E1) (As.gb bF.g4) (As.gm bF.g5) pj.busy (As.gr bF.g8)) bF fun qb s12 bK=>?_;refine(aZ) (fun ov=>?_) fun ov=>?_
  ·
   simp at ov
   rw [if_pos ov] at dO;obtain⟨t,QV,qF⟩:=Option.bind_eq_some_iff.1 dO;have Ig:=(dm hR NB).1 _ _ _ QV pj yy;have hgc:=(dm hR NB).2.1 _ _ _ _ _ qF Ig.1;refine(j3) aq bK.b0<|?_;have br:=bK.p6.p6.pK.p7;refine(dj) XM (mB NB (by omega) _ _ _ _ _ _ _ br.e4 (As.gr br.g8) (As.gr br.g9) pj yy QV (by have:=hgc.2.cU;omega)) ?_;rintro _ tU ⟨E2,Z5,rfl,uW,Tq,hr5,Hs⟩;have bT:=St.lv br Hs uW;have nA:=sF.trans uW br.size;have cz:=bT.fr (Tq);have cv:=cz.fr (hr5);have cR:=cv.pK.drop;have bY:=cR.pK.drop;refine ek ?_;refine fH (NB,t,E2,ix,Z5) ⟨bY.p6.drop.p6.drop.p6.drop.p6.drop.p6.p1.p2.p6.p6.p5,⟨qF,Ig.1,by omega,nA,trivial⟩⟩
  simp at ov
  rw [if_neg (by rw [ov];simp)] at dO;refine dE ?_;have YM:=bK.cY;have aej:=bK.ma;have aek:=bK.size;refine WC.td (m:=12) [10] (E:=dr [(7,fun v _=>∃f1 f2 f3,v=.tuple #[.agg ((aH s1.b.ak ch.eR).row f1 f2 f3).toArray,.bool (aC s1.b.ak ch.eR).isSome]),(11,PB qb.heap.size 48 [.int .i64 0,.string ⟨#[]⟩,.string ⟨#[]⟩,.slice none 0 0,.int .i64 0,.int .i64 0,.int .i64 0,.bool false])]) bK (bM (⟨fun _ _ _ _ _ _ _ h=>h,⟨fun _ _ _ _ _ _ c h=>PB.st YM c h,trivial⟩⟩)) mixed (by kernel_rfl) rfl ?_;refine dW ?_;refine DP .r (fun _ hC=>PV.ld1 (j:=3) eW (cW.range (As.gb hC.2.g4)) rfl rfl)<|(Cy) aq St.g0<|?_;refine DW.e rfl rfl rfl rfl rfl (fun wx hC hF=>OX.call tH rfl rfl ((fw (k:=ch.eR) (As.gr hC.2.g8)).mono ?_))<|?_
  ·
   rintro _ wy ⟨f1,f2,f3,rfl,hy⟩;exact⟨_,rfl,⟨Nat.le_trans hC.1 hy.size,hC.2.step hy⟩,hy.p0,_,rfl,⟨f1,f2,f3,rfl⟩⟩
  rintro _ wz _ ⟨f1,f2,f3,rfl⟩;refine dE ?_;refine DW.e rfl rfl rfl rfl rfl (fun wx hC hF=>OX.alloc tB rfl fun b wy nw hb=>⟨⟨Nat.le_trans hC.1 nw.ext.size,hC.2.step nw.ext⟩,nw.ext.p0,_,rfl,_,rfl,Nat.le_trans hC.1 nw.ge,hb⟩)<|?_;rintro _ wz _ ⟨xQ,rfl,_,_⟩;refine(eh) ?_;rintro tU ⟨Vb,br⟩ ⟨akq,⟨_,_⟩⟩;have bT:=br.xW akq YM aej aek;refine(dD) iH bT fun yB Q5 vJ cz=>?_;refine nx ?_;refine WL.nil (EX.np ?_);refine dE ?_;have arO:=cz.cY;refine WC.eQ (m:=13) (E:=dr [(10,fun v _=>v=.int .i64 (bp (valOf ab x.ae) s1.b ch.read))]) cz (bM (⟨fun _ _ _ _ _ _ _ h=>h,trivial⟩)) mixed (by kernel_rfl)<|(lI) Pf St.g5<|(Cy) aP St.g5<|(Cy) aq St.g1<|?_;refine DW.e rfl rfl rfl rfl rfl (fun wx hC hF=>OX.call UH rfl rfl ((sE (k:=ch.read) hR yy (hC.2.one (.tail _ (.tail _ (.tail _ (.tail _ (.tail _ (.tail _ (.tail _ (.tail _ (.tail _ (.tail _ (.tail _ (.head _))))))))))))) (As.gr hC.2.g8) (As.gr hC.2.g9)).mono ?_))<|?_
  ·
   rintro _ wy ⟨rfl,hy⟩;exact⟨_,rfl,⟨Nat.le_trans hC.1 hy.cT.size,hC.2.CI kK hy⟩,hy.cT.mono (fun _ _ hx=>KD kK hx),_,rfl,rfl⟩
  rintro _ wz _ rfl;refine(lI) aT St.g0<|(eh)<|?_;rintro tV ⟨ael,cv⟩ ⟨_,_⟩;refine(aZ) (fun J4=>?_) fun J4=>?_
  ·
   simp at J4
   rw [if_pos J4] at dO;refine(bz) aq (cW.range (As.gb cv.g10))<|(iz) (ef (k:=k)) cv fun xE Yu cR=>?_;refine(aZ) (fun YN=>?_) fun YN=>?_
   ·
    rw [if_pos YN] at dO;simp only [Option.some.injEq,Prod.mk.injEq] at dO;obtain⟨Is,P4⟩:=dO;subst Is;subst P4;refine(j3) aP cR.b5<|nx ?_;have bY:=cR;refine(dj) S7 (pB bY.e0 (As.gr bY.g8) (As.gr bY.g9) (As.gr bY.g3) (by omega) (by omega)) ?_;rintro _ BR ⟨m1,m2,m3,m4,m5,m6,Z4,rfl,AJ,AL⟩;have cM:=St.lv bY AL AJ;have AK:=sF.trans AJ bY.size;have J3:=St.cH AL;have F7:=St.cH AL.p1;have mr:=bY.size;refine cS ?_;refine WL.go rfl (OX.VX fT (As.gb cM.g7) rfl rfl rfl rfl rfl fun Bw Ra Gk=>?_);have dR:=cM.p7.Gh Ra Gk;refine nx ?_;have dz:=dR.FK (B:=As.blk xb 88 (EA.cells ⟨m1,m4,E1.a3,m2,m3,m5,m6,E1.n3,E1.c3⟩ D.s bb {s1 with b:=dT s1.b (aB s1.b.ak s1.b.ad k) true})) (rfl)
    have jH:(dT s1.b (aB s1.b.ak s1.b.ad k) true).ak.length=s1.b.ak.length:=by simp [dT]
    have QQ:(dT s1.b (aB s1.b.ak s1.b.ad k) true).ae=s1.b.ae:=rfl;have dX:=dz.p1.bN (by rw [QQ];omega);have cX:=dX.p2.bN (by omega);have nA:=(AK.trans (cN.fh (F:=fun x=>x∈aI m1) J3) mr).trans (cN.fh (F:=fun x=>x∈aI m4) F7) mr;refine(cA) ?_;exact⟨⟨m1,m4,E1.a3,m2,m3,m5,m6,E1.n3,E1.c3⟩,_,rfl,nA,(As.gr cX.g1),(As.gr cX.g0),cX.p9.p9.xV.p5.k4⟩
   rw [if_neg (by rw [YN];simp)] at dO;simp only [Option.some.injEq,Prod.mk.injEq] at dO;obtain⟨Is,P4⟩:=dO;subst Is;subst P4;refine bf ?_;refine(cA) ?_;exact⟨E1,_,rfl,sF,(As.gr cR.g8),(As.gr cR.g9),cR.p7.p7.oW.p8.k4⟩
  simp at J4
  rw [if_neg (by omega)] at dO;refine kQ ?_;refine fH (NB,s1,E1,ix+1,Z3) ⟨cv.drop.drop.drop.drop.drop,⟨dO,pj,by omega,sF,trivial⟩⟩
 simp at g17
 rw [if_pos g17] at dO;simp only [Option.some.injEq,Prod.mk.injEq] at dO;obtain⟨Is,P4⟩:=dO;subst Is;subst P4;refine(cA) ?_;exact⟨E1,_,rfl,hZ,(As.gr ba.g3),(As.gr ba.g4),ba.p2.p2.p6.p3.k4⟩
set_option maxHeartbeats 1600000 in
theorem MT{s:ES}{f:Nat}(hR:aw ab) (bJ:St w M Z w [As.blk xb 88 (E.cells D.s bb s),As.l3 prog 134 ab x D,As.map Key.val bb s.busy,As.os RR.key 39 2 E.a3 E.n3 E.c3 s.cU]) (hi:Rd RR.aF 4 Z w E.a1 E.n1 E.c1 s.b.ae) (hr:Rd RR.fV 8 Z w E.a2 E.n2 E.c2 s.b.ak) (tr:Good ab x.ae s) (Bs:s.b.ae.length≤1000000) (Nt:jr ab k 0) (mB:∀g,g<f→UpC ab x D xb bb g) (P3:ib ab (valOf ab x.ae) f s k [] []=some s') (qa:s'.cU.length≤1000000):Calls prog 66 #[.pointer (some ⟨xb,0,none⟩),k.val] w fun e w'=>∃(E':EA) (Z':Nat→Prop),e=.returned (.tuple #[])∧cN w.heap.size Z Z'∧Rd RR.aF 4 Z' w' E'.a1 E'.n1 E'.c1 s'.b.ae∧Rd RR.fV 8 Z' w' E'.a2 E'.n2 E'.c2 s'.b.ak∧St w M Z' w' [As.blk xb 88 (E'.cells D.s bb s'),As.l3 prog 134 ab x D,As.map Key.val bb s'.busy,As.os RR.key 39 2 E'.a3 E'.n3 E'.c3 s'.cU]:=by
 refine enter func66 rfl ntmps66 rfl<|?_;have bd:=bJ;have st1:=bd.fr hi;have st2:=st1.fr hr;have aW:=st2.eP RR.key 39 2;have ba:=aW.eP RR.str 9 1;refine(fo) ba fun b3 w1 iR dL bw=>?_;refine bf ?_;refine nx ?_;refine WC.jC (σ:=Nat × ES × EA × (List Key) × (List ByteArray) × (Nat→Prop) × (Option Addr) × Nat × Nat × (Option Addr) × Nat × Nat) (eJ:=fun(fu,s1,E1,reads,ah,Z1,wB,wC,EC,Ht,ED,Hu)=>[(0,.pointer (some ⟨xb,0,none⟩)),(3,.pointer (some ⟨b3,0,none⟩)),(4,.slice wB wC EC),(5,.slice Ht ED Hu)]) (F:=fun(fu,s1,E1,reads,ah,Z1,wB,wC,EC,Ht,ED,Hu)=>[As.os RR.key 39 2 wB wC EC (reads),As.os RR.str 9 1 Ht ED Hu (ah),As.blk xb 88 (E1.cells D.s bb s1),As.map Key.val bb s1.busy,As.os RR.key 39 2 E1.a3 E1.n3 E1.c3 s1.cU,As.ro RR.aF 4 E1.a1 E1.n1 E1.c1 s1.b.ae,As.ro RR.fV 8 E1.a2 E1.n2 E1.c2 s1.b.ak]) (I:=fun(fu,s1,E1,reads,ah,Z1,wB,wC,EC,Ht,ED,Hu)=>(ib ab (valOf ab x.ae) fu s1 k reads ah=some s')∧(Good ab x.ae s1)∧(fu≤f)∧(cN w.heap.size Z Z1)∧(jr ab k ah.length)∧(reads.length=ah.length)∧(∀a∈reads,gA ab a)∧(∀y∈aI wB,w.heap.size≤y)∧True) (μ:=fun(fu,s1,E1,reads,ah,Z1,wB,wC,EC,Ht,ED,Hu)=>fu) (Zf:=fun(fu,s1,E1,reads,ah,Z1,wB,wC,EC,Ht,ED,Hu)=>Z1) (f,s,E,[],[],Z,none,0,0,none,0,0) (bw.p3.p4.p8.p8.p7.p6.p7) Sub.t (⟨P3,tr,Nat.le_refl _,cN.refl _ _,Nt,rfl,(fun a ha=>by cases ha),(by simp [aI]),trivial⟩)<|?_;rintro⟨fu,s1,E1,reads,ah,Z1,wB,wC,EC,Ht,ED,Hu⟩ w2 bj ⟨dO,pj,hfu,hZ,MU,hlen,hrk,kF,_⟩;simp only [CA,NA] at bj dO pj hfu hZ MU hlen hrk kF ⊢
 obtain⟨NB,rfl⟩:∃g,fu=g+1:=by cases fu with | zero=>simp [ib] at dO | succ g=>exact⟨g,rfl⟩
 unfold ib at dO
 have hl4:=pj.len
 have akl:s1.b.ae.length≤1000000:=by rw [pj.aF,← tr.aF];exact Bs
 have h6:=MU.le hR;have Nn:=((As.gs bj.g0)).len;have th:=((As.gs bj.g1)).len;have vt:=((As.gr bj.g6)).len;refine(bL) Dd bj.b2<|(aZ) (fun g13=>?_) fun g13=>?_
 ·
  simp at g13
  rw [if_neg (by simp [g13])] at dO;refine dW ?_;obtain⟨tt,sU⟩:∃t,aM ab k ah=t:=⟨_,rfl⟩;rw [sU] at dO;have aem:=@jr.next ab k hR ah MU;rw [sU] at aem;have U8:=bj.cY;have akr:=bj.ma;have aks:=bj.size;refine WC.eQ (m:=11) (E:=dr [(9,fun v _=>v=tt.val),(10,PB w2.heap.size 144 [.bool false,.string ⟨#[]⟩,.int .i64 0,.string ⟨#[]⟩])]) bj (bM (⟨fun _ _ _ _ _ _ _ h=>h,⟨fun _ _ _ _ _ _ c h=>PB.st U8 c h,trivial⟩⟩)) mixed (by kernel_rfl)<|dE ?_;refine DP .r (fun _ hC=>PV.pF Pf (cW.range (As.gb hC.2.g2)) rfl rfl)<|cS ?_;refine DP .r (fun _ hC=>V1 mf (cW.range (As.gvb (hC.2.g8))) .r)<|(jj) aq St.g7<|nx ?_;refine DW.c1 (fun wx hC hF=>gM (k:=k) (SD.ht (As.gv (hC.2.g8))) (SD.hu (As.gv (hC.2.g8))) (Ow.rd (As.gs hC.2.g1) (by omega)) hR.hb (MU.not hR).1) (by rw [sU])<|?_;refine DW.e rfl rfl rfl rfl rfl (fun wx hC hF=>OX.alloc uN rfl fun b wy nw hb=>⟨⟨Nat.le_trans hC.1 nw.ext.size,hC.2.step nw.ext⟩,nw.ext.p0,_,rfl,_,rfl,Nat.le_trans hC.1 nw.ge,hb⟩)<|?_;rintro _ wz _ ⟨b6,rfl,_,_⟩;refine(eh) ?_;rintro w3 ⟨mr,bX⟩ ⟨AD,⟨_,_⟩⟩;have bV:=bX.xW AD U8 akr aks;refine(dD) iU bV fun w4 jY j7 cq=>?_;refine(bL) ft cq.b0<|(aZ) (fun fb=>?_) fun fb=>?_
  ·
   rw [if_pos fb] at dO;refine cS ?_;have Q8:=cq.cY;have akt:=cq.ma;have aku:=cq.size;refine WC.td (m:=11) [9] (E:=dr [(6,fun v _=>∃f1 f2 f3,v=.tuple #[.agg ((aH s1.b.ak k).row f1 f2 f3).toArray,.bool (aC s1.b.ak k).isSome]),(10,PB w4.heap.size 48 [.int .i64 0,.string ⟨#[]⟩,.string ⟨#[]⟩,.slice none 0 0,.int .i64 0,.int .i64 0,.int .i64 0,.bool false])]) cq (bM (⟨fun _ _ _ _ _ _ _ h=>h,⟨fun _ _ _ _ _ _ c h=>PB.st Q8 c h,trivial⟩⟩)) mixed (by kernel_rfl) rfl ?_;refine dW ?_;refine DP .r (fun _ hC=>PV.ld1 (j:=3) eW (cW.range (As.gb hC.2.g3)) rfl rfl)<|(jj) aq St.g8<|?_;refine DW.e rfl rfl rfl rfl rfl (fun wx hC hF=>OX.call tH rfl rfl ((fw (k:=k) (As.gr hC.2.g7)).mono ?_))<|?_
   ·
    rintro _ wy ⟨f1,f2,f3,rfl,hy⟩;exact⟨_,rfl,⟨Nat.le_trans hC.1 hy.size,hC.2.step hy⟩,hy.p0,_,rfl,⟨f1,f2,f3,rfl⟩⟩
   rintro _ wz _ ⟨f1,f2,f3,rfl⟩;refine dE ?_;refine DW.e rfl rfl rfl rfl rfl (fun wx hC hF=>OX.alloc tB rfl fun b wy nw hb=>⟨⟨Nat.le_trans hC.1 nw.ext.size,hC.2.step nw.ext⟩,nw.ext.p0,_,rfl,_,rfl,Nat.le_trans hC.1 nw.ge,hb⟩)<|?_;rintro _ wz _ ⟨b7,rfl,_,_⟩;refine(eh) ?_;rintro w5 ⟨oQ,aL⟩ ⟨AD,⟨_,_⟩⟩;have aO:=aL.xW AD Q8 akt aku;refine(dD) iH aO fun w6 sC nt aS=>?_;refine nx ?_;refine WL.nil (EX.np ?_);refine cS ?_;refine WC.fL (t:=46) (v:=.bool (!(aC s1.b.ak k).isSome && decide (4000≤s1.b.ak.length))) aS ?_<|?_
   ·
    refine(dY) (fun wD=>?_) (fun wD=>?_)
    ·
     refine dW ?_;refine WP .r (PV.ld1 (j:=3) eW aS.b4 rfl rfl)<|?_;exact(dt) (by simp only [wD];first | rfl | (simp [vt];done) | (simp;omega)) (aS)
    exact(dt) (by simp only [wD];first | rfl | (simp [vt];done) | (simp;omega)) (aS)
   intro w7 bE;refine(aZ) (fun Ik=>?_) fun Ik=>?_
   ·
    rw [if_pos Ik] at dO;simp only [Option.some.injEq] at dO;subst dO;refine ek ?_;refine WL.s1 bE.p4 fun w8 _ bs=>?_;refine nx ?_;have aY:=bs.FK (B:=As.blk xb 88 (EA.cells E1 D.s bb {s1 with e:=45})) (rfl);refine gN ?_;refine EX.yF (.inl rfl) rfl<|?_;exact⟨E1,_,rfl,hZ,(As.gr aY.g7),(As.gr aY.g8),aY.p6.p6.pK.p3.k4⟩
   rw [if_neg (by rw [Ik];simp)] at dO;simp only [Option.some.injEq] at dO;subst dO
   have Mf:s1.cU.length+1≤1000000:=by simpa using qa
   refine dE ?_;have bs:=bE.p2.bN (by omega);have sF:=hZ.trans (cN.fh (F:=fun x=>x∈aI wB) kF) (Nat.le_refl _);have hN9:=bs.cY;refine WC.td (m:=15) [0] (E:=dr [(14,fun v _=>v=.agg ((dK s1.b k tt.value reads).row wB wC EC).toArray)]) bs (bM (⟨fun _ _ _ _ _ _ _ h=>h,trivial⟩)) mixed (by kernel_rfl) rfl ?_;refine ek ?_;refine DP .r (fun _ hC=>PV.ld1 (j:=3) eW (cW.range (As.gb hC.2.g4)) rfl rfl)<|(Cy) aP St.g4<|(jj) aq St.g9<|(lI) iG St.g2<|nx ?_;refine DW.c0 (fun wx hC hF=>Au (k:=k) (v:=tt.value) (As.gr hC.2.g7) (As.gr hC.2.g8) (As.gr hC.2.g0))<|(eh) ?_;rintro w8 ⟨Tm,aY⟩ ⟨_,_⟩;have aQ:=aY;refine(dj) UI (Ao (x:=(dK s1.b k tt.value reads)) aQ.e0 (As.gr aQ.g8) (by omega) (As.gr aQ.g0) (by show reads.length≤4000;omega)) ?_;rintro _ w9 ⟨p1,p2,p3,Z4,rfl,AJ,mu⟩;have bF:=St.lv aQ mu AJ;have U5:(fR s1.b.ak (dK s1.b k tt.value reads)).length≤s1.b.ak.length+1:=vA (dK s1.b k tt.value reads) s1.b.ak false;have Lm:=St.cH mu;have mr:=aQ.size;have AK:=sF.trans AJ mr;have bK:=bF.bN (by omega);have nA:=AK.trans (cN.fh (F:=fun x=>x∈aI p1) Lm) mr;refine dE ?_;refine WL.s1 (j:=3) bK.p5 fun kB _ br=>?_;refine WL.nil (EX.np ?_);have bT:=br.FK (B:=As.blk xb 88 (EA.cells ⟨E1.a1,p1,E1.a3,E1.n1,E1.c1,p2,p3,E1.n3,E1.c3⟩ D.s bb {s1 with b:={s1.b with ak:=fR s1.b.ak (dK s1.b k tt.value reads)}})) (rfl);refine cS ?_;have hnr:=((As.gs bT.g7)).len;have BQ:=bT.cY;have Hj:=bT.ma;have Hk:=bT.size;refine WC.td (m:=7) [0] (E:=dr [(6,PS kB.heap.size 39 1 k.cells)]) bT (bM (⟨fun _ _ _ _ _ _ c h=>PS.st BQ c h,trivial⟩)) mixed (by kernel_rfl) rfl ?_;refine(lI) gK St.g0<|(jj) aq St.g10<|?_;refine DW.e rfl rfl rfl rfl rfl (fun wx hC hF=>OX.aR (us:=k.cells) eT rfl rfl rfl rfl fun b wy nw hb=>⟨⟨Nat.le_trans hC.1 nw.ext.size,hC.2.step nw.ext⟩,nw.ext.p0,_,rfl,_,rfl,Nat.le_trans hC.1 nw.ge,hb⟩)<|?_;rintro _ wz _ ⟨b75,rfl,_,_⟩;refine(eh) ?_;rintro kC ⟨Dl,cz⟩ ⟨YH,_⟩;have cv:=cz.xW (PS.pb YH) BQ Hj Hk;refine WL.go rfl (OX.oC rV rfl rfl rfl (As.gs cv.g8) (SR.ew (A:=fun _=>True) (x:=k) (As.gb cv.g0) trivial rfl (by simp [Key.cells,Value.oneCell']) rfl) (by show(E1.n3+1)*_≤_;omega) (by show E1.n3+1≤_;omega) (Nat.zero_le _) fun a76 MV qb YO s76 YP akv=>?_);have cR:=cv.p8.jm s76 YO YP;refine cS ?_;refine WL.s1 cR.p2 fun tU _ bY=>?_;refine WL.nil (EX.np ?_);have cM:=bY.FK (B:=As.blk xb 88 (EA.cells ⟨E1.a1,p1,a76,E1.n1,E1.c1,p2,p3,(E1.n3+1),MV⟩ D.s bb {s1 with b:={s1.b with ak:=fR s1.b.ak (dK s1.b k tt.value reads)},cU:=s1.cU++[k]})) (rfl);refine ji ?_;refine EX.yF (.inl rfl) rfl<|?_;exact⟨⟨E1.a1,p1,a76,E1.n1,E1.c1,p2,p3,(E1.n3+1),MV⟩,_,rfl,nA,(As.gr cM.g9),(As.gr cM.g3),cM.p1.p8.Ks.p3.k4⟩
  rw [if_neg (by rw [fb];simp)] at dO;obtain⟨t,QV,qF⟩:=Option.bind_eq_some_iff.1 dO;have MS:=aem fb;have Ig:=(dm hR NB).1 _ _ _ QV pj MS.2;refine(j3) aq cq.b0<|?_
  have hrt:t.cU.length≤1000000:=by
   split at qF
   ·
    have:=((dm hR NB).2.2 _ _ _ _ _ qF Ig.1 (by simpa using MS.1) (by simp [hlen]) (fun a ha=>by rcases List.mem_append.1 ha with ha | ha;exact hrk a ha;simp at ha;subst ha;exact MS.2)).2.cU
    omega
   have:=((dm hR NB).2.2 _ _ _ _ _ qF Ig.1 MU hlen hrk).2.cU
   omega
  have aL:=cq.p5.p5.p9.p6;refine(dj) XM (mB NB (by omega) _ _ _ _ _ _ _ aL.e4 (As.gr aL.g7) (As.gr aL.g8) pj MS.2 QV hrt) ?_;rintro _ w5 ⟨E2,Z5,rfl,uW,Tq,hr5,jF⟩;have aO:=St.lv aL jF uW;have nA:=hZ.trans uW aL.size;have aS:=aO.fr (Tq);have bE:=aS.fr (hr5);have bs:=bE.p9.drop;have aY:=bs.p9.drop;refine(bL) Dd aY.b2<|(aZ) (fun P6=>?_) fun P6=>?_
  ·
   simp at P6
   rw [if_pos P6] at qF;have aQ:=aY.p7;have Tr:=aQ.cY;have aen:=aQ.ma;have aeo:=aQ.size;refine WC.RB (m:=16) [5] (fun j w w'=>match j with | 4=>jb (fun x=>x∈aI wB) w w' | _=>jb (fun _=>False) w w') (E:=dr [(3,PS w5.heap.size 39 1 tt.ask.cells),(4,fun v w'=>∃a c,v=.slice a (wC+1) c∧(∀x∈aI a,x∈aI wB∨w5.heap.size≤x)∧Ow RR.key 39 2 Z5 w' a (wC+1) c (reads++[tt.ask]))]) aQ (oB (⟨⟨trivial,⟨fun _ _ _ _ _ c h=>PS.st (fun x hx=>Tr x ⟨_,.head _,hx⟩) c h,trivial⟩⟩,⟨⟨trivial,⟨trivial,trivial⟩⟩,trivial⟩⟩)) mixed (by kernel_rfl) rfl ?_;refine(Cy) aq St.g7<|?_;refine DW.e rfl rfl rfl rfl rfl (fun wx hC hF=>OX.aR (us:=tt.ask.cells) eT rfl rfl rfl rfl fun b wy nw hb=>⟨⟨Nat.le_trans hC.1 nw.ext.size,hC.2.step nw.ext⟩,nw.ext.p0,_,rfl,_,rfl,Nat.le_trans hC.1 nw.ge,hb⟩)<|?_;rintro _ wz _ ⟨b91,rfl,_,_⟩
   refine DW.e rfl rfl rfl rfl rfl (fun wx hC hF=>by
    obtain⟨⟨b',dN,fm,dL⟩,_⟩:=hF;simp only [Value.slice.injEq,Option.some.injEq,Addr.mk.injEq,and_true,true_and] at dN;subst dN;exact OX.ahu rV rfl rfl rfl (As.gs hC.2.g0) (fun x hx=>hC.2.o9 _ M0 x hx) (SR.ew (A:=fun _=>True) (x:=tt.ask) dL trivial rfl (by simp [Key.cells,Value.oneCell']) rfl) (by omega) (by omega) fun a' c' wy h1 h2 h3 h4=>⟨⟨Nat.le_trans hC.1 h3.size,hC.2.same M0 h3.p h2⟩,h3.p,_,rfl,a',c',rfl,(fun x hx=>by rcases h4 x hx with h | h;exact .inl h;exact .inr (Nat.le_trans hC.1 h)),h1⟩) ?_
   rintro _ wz _ ⟨a4,c4,rfl,_,_⟩;refine dW ?_;refine DP .r (fun _ hC=>PV.pF Pf (cW.range (As.gb hC.2.g3)) rfl rfl)<|(Cy) aP St.g3<|(Cy) aq St.g7<|(eh)<|?_;rintro w6 ⟨Hv,bF⟩ ⟨hF4,⟨hF3,_⟩⟩;obtain⟨_,_,he4,aep,ho4⟩:=hF4;simp only [Value.slice.injEq,true_and] at he4;obtain⟨rfl,rfl⟩:=he4;have bK:=bF;have br:=bK.swap (B:=As.os RR.key 39 2 a4 (wC+1) c4 (reads++[tt.ask])) ho4 aep Tr aen aeo;refine(dj) UK (uV (k:=tt.ask) hR MS.2 (br.one (.tail _ (.tail _ (.tail _ (.tail _ (.head _)))))) (As.gr br.g2) (As.gr br.g1)) ?_;rintro _ w7 ⟨rfl,oh⟩;have bT:=br.CI M4 oh;refine WL.go rfl (OX.aR (us:=[.string (dC (valOf ab x.ae) t.b tt.ask)]) mn rfl rfl rfl rfl fun arS w8 aeq aer=>?_);have cz:=bT.eF aeq aer;refine WL.ap rfl rfl cz.p9 (SR.ew (A:=fun _=>True) (x:=dC (valOf ab x.ae) t.b tt.ask) (As.gb cz.g0) trivial rfl (by simp [Value.oneCell']) rfl) fun akw aes w9 an0 an1 cv=>?_;refine cS ?_;refine WL.nil (EX.np ?_);refine nx ?_;refine fH (NB,t,E2,reads++[tt.ask],ah++[dC (valOf ab x.ae) t.b tt.ask],Z5,a4,(wC+1),c4,akw,(ED+1),aes) ⟨cv.p1.drop.p8.drop.p8.p3.p4.p8.p8.p7.p6.p7,⟨qF,Ig.1,by omega,nA,by simpa using MS.1,by simp [hlen],(fun a ha=>by rcases List.mem_append.1 ha with ha | ha;exact hrk a ha;simp at ha;subst ha;exact MS.2),(fun y hy=>by rcases aep y hy with h | h;exact kF y h;omega),trivial⟩⟩
  simp at P6
  rw [if_neg P6] at qF;refine cS ?_;refine fH (NB,t,E2,reads,ah,Z5,wB,wC,EC,Ht,ED,Hu) ⟨aY.p6.drop.p8.p1.p2.p6.p6.p5.p8.p8,⟨qF,Ig.1,by omega,nA,MU,hlen,hrk,kF,trivial⟩⟩
 simp at g13
 rw [if_pos g13] at dO;simp only [Option.some.injEq] at dO;subst dO;refine dW ?_;refine EX.yF (.inr rfl) rfl<|?_;exact⟨E1,_,rfl,hZ,(As.gr bj.g5),(As.gr bj.g6),bj.p4.p4.p8.p5.k4⟩
set_option maxHeartbeats 1600000 in
theorem P7{s:ES}{f:Nat}(hR:aw ab) (bJ:St w M Z w [As.blk xb 88 (E.cells D.s bb s),As.l3 prog 134 ab x D,As.map Key.val bb s.busy,As.os RR.key 39 2 E.a3 E.n3 E.c3 s.cU]) (hi:Rd RR.aF 4 Z w E.a1 E.n1 E.c1 s.b.ae) (hr:Rd RR.fV 8 Z w E.a2 E.n2 E.c2 s.b.ak) (tr:Good ab x.ae s) (Bs:s.b.ae.length≤1000000) (hk:gA ab k) (mB:∀g,g<f→UpC ab x D xb bb g) (dO:mc ab (valOf ab x.ae) (f+1) s k=some s') (qa:s'.cU.length≤1000000):Calls prog 33 #[.pointer (some ⟨xb,0,none⟩),k.val] w fun e w'=>∃(E':EA) (Z':Nat→Prop),e=.returned (.tuple #[])∧cN w.heap.size Z Z'∧Rd RR.aF 4 Z' w' E'.a1 E'.n1 E'.c1 s'.b.ae∧Rd RR.fV 8 Z' w' E'.a2 E'.n2 E'.c2 s'.b.ak∧St w M Z' w' [As.blk xb 88 (E'.cells D.s bb s'),As.l3 prog 134 ab x D,As.map Key.val bb s'.busy,As.os RR.key 39 2 E'.a3 E'.n3 E'.c3 s'.cU]:=by
 unfold mc at dO
 have hbk:(bZ s.busy k).getD (.bool false)=.bool (s.on k):=by unfold ES.on;rcases tr.busy k with h | h <;> rw [h] <;> rfl
 refine enter func33 rfl ntmps33 rfl<|?_;have bd:=bJ;have st1:=bd.fr hi;have st2:=st1.fr hr;refine(fo) st2 fun b3 w1 iR dL aW=>?_;refine dW ?_;refine WC.fL (t:=14) (v:=.bool (decide (s.e≠0) || az k)) aW ?_<|?_
 ·
  refine(bL) Dd aW.b3<|(dY) (fun g11=>?_) (fun g11=>?_)
  ·
   exact(dt) (by simp only [g11];first | rfl | simp) (aW)
  refine(bz) aq aW.b0<|(iz) (fD (k:=k)) aW fun w2 s2 ba=>?_;exact(dt) (by simp only [g11];first | rfl | simp) (ba)
 intro w2 ba;refine(aZ) (fun g14=>?_) fun g14=>?_
 ·
  rw [if_pos (by simpa using g14)] at dO;simp only [Option.some.injEq] at dO;subst dO;refine cS ?_;refine EX.yF (.inl rfl) rfl<|?_;exact⟨E,Z,rfl,cN.refl _ _,(As.gr ba.g2),(As.gr ba.g1),ba.p6.p6.p6.p6.k4⟩
 have qv:az k=false:=by simp at g14;exact g14.2
 rw [if_neg (by simpa using g14)] at dO;refine dW ?_;have Q3:=ba.cY;have akx:=ba.ma;have aky:=ba.size;refine WC.td (m:=11) [9] (E:=dr [(6,fun v _=>∃f1 f2 f3,v=.tuple #[.agg ((aH s.b.ak k).row f1 f2 f3).toArray,.bool (aC s.b.ak k).isSome]),(10,PB w2.heap.size 48 [.int .i64 0,.string ⟨#[]⟩,.string ⟨#[]⟩,.slice none 0 0,.int .i64 0,.int .i64 0,.int .i64 0,.bool false])]) ba (bM (⟨fun _ _ _ _ _ _ _ h=>h,⟨fun _ _ _ _ _ _ c h=>PB.st Q3 c h,trivial⟩⟩)) mixed (by kernel_rfl) rfl ?_;refine dW ?_;refine DP .r (fun _ hC=>PV.ld1 (j:=3) eW (cW.range (As.gb hC.2.g3)) rfl rfl)<|(jj) aq St.g0<|?_;refine DW.e rfl rfl rfl rfl rfl (fun wx hC hF=>OX.call tH rfl rfl ((fw (k:=k) (As.gr hC.2.g1)).mono ?_))<|?_
 ·
  rintro _ wy ⟨f1,f2,f3,rfl,hy⟩;exact⟨_,rfl,⟨Nat.le_trans hC.1 hy.size,hC.2.step hy⟩,hy.p0,_,rfl,⟨f1,f2,f3,rfl⟩⟩
 rintro _ wz _ ⟨f1,f2,f3,rfl⟩;refine dE ?_;refine DW.e rfl rfl rfl rfl rfl (fun wx hC hF=>OX.alloc tB rfl fun b wy nw hb=>⟨⟨Nat.le_trans hC.1 nw.ext.size,hC.2.step nw.ext⟩,nw.ext.p0,_,rfl,_,rfl,Nat.le_trans hC.1 nw.ge,hb⟩)<|?_;rintro _ wz _ ⟨b4,rfl,_,_⟩;refine(eh) ?_;rintro w3 ⟨pA,bw⟩ ⟨AD,⟨_,_⟩⟩;have bj:=bw.xW AD Q3 akx aky;refine(dD) iH bj fun w4 jY j7 bX=>?_;refine nx ?_;refine WL.nil (EX.np ?_);refine cS ?_;refine WC.fL (t:=35) (v:=.bool (aK s.b k)) bX ?_<|?_
 ·
  have Hi:=bX.cY;refine WC.dS (m:=9) bX mixed<|(rS) (fun kz=>?_) (fun kz=>?_)
  ·
   refine(lI) aT St.g0<|dW ?_;refine DP .r (fun _ hC=>PV.ld1 (j:=1) aT (cW.range (As.gb hC.2.g4)) rfl rfl)<|(eh)<|?_;rintro w5 ⟨eB,bV⟩ _;exact(dt) (by unfold aK;simp only [kz];first | rfl | simp) (bV)
  refine(eh) ?_;rintro w5 ⟨eB,bV⟩ _;exact(dt) (by unfold aK;simp only [kz];first | rfl | simp) (bV)
 intro w5 bV;refine(aZ) (fun MJ=>?_) fun MJ=>?_
 ·
  rw [if_pos MJ] at dO;simp only [Option.some.injEq] at dO;subst dO;refine cS ?_;refine EX.yF (.inl rfl) rfl<|?_;exact⟨E,Z,rfl,cN.refl _ _,(As.gr bV.g3),(As.gr bV.g2),bV.p7.p7.p7.p7.k4⟩
 rw [if_neg (by rw [MJ];simp)] at dO;refine dW ?_;have U8:=bV.cY;refine WC.dS (m:=5) bV mixed<|(lI) xp St.g4<|(jj) aq St.g1<|(eh)<|?_;rintro w6 ⟨mr,cq⟩ _;refine WP .r (PV.mM eI kS G2 (As.gm cq.g6) (hbk) rfl rfl)<|(aZ) (fun Ak=>?_) fun Ak=>?_
 ·
  rw [if_pos Ak] at dO;refine(bz) aq cq.b1<|(iz) (ef (k:=k)) cq fun w7 s7 aL=>?_;refine(aZ) (fun g44=>?_) fun g44=>?_
  ·
   simp at g44
   rw [if_neg (by rw [g44];simp)] at dO;simp only [Option.some.injEq] at dO;subst dO;refine dW ?_;refine WL.s1 aL.p4 fun w8 _ aO=>?_;refine nx ?_;have aS:=aO.FK (B:=As.blk xb 88 (EA.cells E D.s bb {s with e:=43})) (rfl);refine dE ?_;refine EX.yF (.inl rfl) rfl<|?_;exact⟨E,Z,rfl,cN.refl _ _,(As.gr aS.g4),(As.gr aS.g3),aS.p7.p7.p7.p3.k4⟩
  simp at g44
  rw [if_pos g44] at dO;simp only [Option.some.injEq] at dO;subst dO;refine dW ?_;refine EX.yF (.inl rfl) rfl<|?_;exact⟨E,Z,rfl,cN.refl _ _,(As.gr aL.g3),(As.gr aL.g2),aL.p7.p7.p7.p7.k4⟩
 rw [if_neg (by rw [Ak];simp)] at dO;refine dE ?_;have hN7:=cq.cY;refine WC.dS (m:=5) cq mixed<|(lI) xp St.g4<|(jj) aq St.g1<|(eh)<|?_;rintro w7 ⟨Ts,aL⟩ _;refine WL.go rfl (OX.put eI kS (As.gm aL.g6) rfl rfl rfl fun w8 PR JR=>?_);have aO:=aL.p6.nv PR JR;refine nx ?_;obtain⟨⟨s2,r2⟩,hp,dO⟩:=Option.bind_eq_some_iff.1 dO;obtain⟨s3,vJ,dO⟩:=Option.bind_eq_some_iff.1 dO;simp only [Option.some.injEq] at dO;subst dO;have CK:=(dm hR f).2.1 _ _ _ _ _ hp (tr.on k);have Nt:=hk.jI qv;have P8:s3.cU.length≤1000000:=qa
 have aeu:s2.cU.length≤1000000:=by
  split at vJ
  ·
   have:=((dm hR f).2.2 _ _ _ _ _ vJ CK.1 Nt rfl (fun a ha=>by cases ha)).2.cU
   exact Nat.le_trans this P8
  simp only [Option.some.injEq] at vJ;subst vJ;exact P8
 have akz:s2.b.ae.length≤1000000:=by rw [CK.1.aF,← tr.aF];exact Bs
 refine(bz) aq aO.b2<|?_;have aS:=aO.p7.p1.p7.p7;refine(dj) aiX (Hr (s:={s with busy:=dF s.busy k (.bool true)}) (E:=E) hR aS.e4 (As.gr aS.g7) (As.gr aS.g6) (tr.on k) Bs mB hp aeu) ?_;rintro _ w9 ⟨E2,Z2,rfl,AH,akA,akB,mu⟩;have bE:=St.lv aS mu AH;have lA:=(cN.refl w.heap.size Z).trans AH aS.size;have bs:=bE.fr (akA);have aY:=bs.fr (akB);have aQ:=aY.p9.drop;have bF:=aQ.p8.drop;refine(aZ) (fun Ag=>?_) fun Ag=>?_
 ·
  rw [if_pos Ag] at vJ;refine(bz) aq (cW.range (As.gb bF.g7))<|?_;have bK:=bF.p5.p5.p5.p5;refine(dj) aiY (MT (s:=s2) (E:=E2) hR bK.e4 (As.gr bK.g5) (As.gr bK.g4) CK.1 akz Nt mB vJ P8) ?_;rintro _ kB ⟨E3,Z3,rfl,qS,akC,akD,iq⟩;have br:=St.lv bK iq qS;have hZe:=lA.trans qS bK.size;have bT:=br.fr (akC);have cz:=bT.fr (akD);have cv:=cz.p7.drop;have cR:=cv.p6.drop;refine cS ?_;have BQ:=cR.cY;refine WC.dS (m:=5) cR mixed<|(lI) xp St.g2<|(jj) aq St.g7<|(eh)<|?_;rintro kC ⟨Dl,bY⟩ _;refine WL.go rfl (OX.del eI kS (As.gm bY.g4) rfl rfl fun qb Ey Ez=>?_);have cM:=bY.p4.nv Ey Ez;refine nx ?_;refine EX.yF (.inr rfl) rfl<|?_;exact⟨_,_,rfl,hZe,(As.gr cM.g2),(As.gr cM.g1),cM.p5.p1.p5.p5.k4⟩
 rw [if_neg (by rw [Ag];simp)] at vJ;simp only [Option.some.injEq] at vJ;subst vJ;have hZe:=lA;refine cS ?_;have BQ:=bF.cY;refine WC.dS (m:=5) bF mixed<|(lI) xp St.g2<|(jj) aq St.g7<|(eh)<|?_;rintro kB ⟨Dl,bK⟩ _;refine WL.go rfl (OX.del eI kS (As.gm bK.g4) rfl rfl fun kC YQ YR=>?_);have br:=bK.p4.nv YQ YR;refine nx ?_;refine EX.yF (.inr rfl) rfl<|?_;exact⟨_,_,rfl,hZe,(As.gr br.g2),(As.gr br.g1),br.p5.p1.p5.p5.k4⟩
theorem YS(hR:aw ab) (Bs:x.ae.length≤1000000):∀f,UpC ab x D xb bb f:=by
 intro f
 induction f using Nat.strongRecOn with
 | _ f ih=>
  intro w M Z s E k s' bJ hi hr tr hk dO qa
  cases f with
  | zero=>simp [mc] at dO
  | succ f=>exact P7 hR bJ hi hr tr (by rw [tr.aF];exact Bs) hk (fun g hg=>ih g (by omega)) dO qa
theorem Hw(hs:s.size≤1000) (w:World):Calls prog 202 #[.string s] w fun e w'=>∃(v:Int) (ok:Bool) (ev:Value),e=.returned (.tuple #[.int .i64 v,ev])∧(-9223372036854775808≤v∧v≤9223372036854775807)∧((ok=true∧ev=.nilIface)∨(ok=false∧∃t y,ev=.iface t y))∧(ok=false→ev=.iface 386 (.int .i64 2)∨ev=.iface 386 (.int .i64 1))∧aV [] w w':=by
 refine(Any.internal_strconv_Atoi_all {laysC172 with} s (by omega) w).mono fun e w' ⟨he,hw⟩=>?_
 have hc:aV [] w w':=by
  rcases hw with rfl | ⟨t,rfl⟩
  ·
   exact aV.refl _ _
  exact De _ _ _
 cases h:Lib.atoiAll s.data.toList
 ·
  rename_i v
  rw [h] at he;exact⟨v,true,.nilIface,he,Lib.atoiAll_bounds h,.inl ⟨rfl,rfl⟩,(fun e=>by cases e),hc⟩
 ·
  rw [h] at he;exact⟨0,false,_,he,by decide,.inr ⟨rfl,_,_,rfl⟩,fun _=>.inl rfl,hc⟩
 rw [h] at he;exact⟨Lib.atoiSat s.data.toList,false,_,he,Lib.atoiSat_bounds _,.inr ⟨rfl,_,_,rfl⟩,fun _=>.inr rfl,hc⟩
set_option maxHeartbeats 400000
theorem AM :CR prog 152 #[.int .i64 n] w (.bool (decide (30≤n) && decide (n≤32))):=by
 refine enter func152 rfl ntmps152 rfl<|?_;have bd:=St.s0 w;refine ji ?_;refine WC.nS (t:=2) (v:=.bool (decide (30≤n) && decide (n≤32))) bd ?_<|?_
 ·
  refine(dY) (fun g5=>?_) (fun g5=>?_)
  ·
   exact(iK) (by simp only [g5];first | rfl | simp) (bd)
  exact(iK) (by simp only [g5];first | rfl | simp) (bd)
 intro w1 st1;refine(cA) ?_;exact⟨rfl,(St.cg st1)⟩
theorem Hx :CR prog 153 #[.int .i64 n] w (.bool (decide (1≤n) && decide (n≤22))):=by
 refine enter func153 rfl ntmps153 rfl<|?_;have bd:=St.s0 w;refine ji ?_;refine WC.nS (t:=2) (v:=.bool (decide (1≤n) && decide (n≤22))) bd ?_<|?_
 ·
  refine(dY) (fun g5=>?_) (fun g5=>?_)
  ·
   exact(iK) (by simp only [g5];first | rfl | simp) (bd)
  exact(iK) (by simp only [g5];first | rfl | simp) (bd)
 intro w1 st1;refine(cA) ?_;exact⟨rfl,(St.cg st1)⟩
theorem eV :CR prog 89 #[k.val] w (.bool (az k)):=by
 refine enter func89 rfl ntmps89 rfl<|?_;have bd:=St.s0 w;refine(fo) bd fun b1 w1 oY dN st1=>?_;refine dW ?_;refine WC.nS (t:=2) (v:=.bool (az k)) st1 ?_<|?_
 ·
  refine(bL) aT st1.b0<|(dY) (fun g6=>?_) (fun g6=>?_)
  ·
   exact(iK) (by unfold az;simp only [g6];first | rfl | simp) (st1)
  refine(bL) aT st1.b0<|(dY) (fun g11=>?_) (fun g11=>?_)
  ·
   exact(iK) (by unfold az;simp only [g6,g11];first | rfl | simp) (st1)
  refine(bL) aT st1.b0<|?_;exact(iK) (by unfold az;simp only [g6,g11];first | rfl | simp) (st1)
 intro w2 st2;refine(cA) ?_;exact⟨rfl,(St.cg st2)⟩
theorem qT :CR prog 125 #[k.val] w (.bool (decide (k.kind=31) || decide (k.kind=32))):=by
 refine enter func125 rfl ntmps125 rfl<|?_;have bd:=St.s0 w;refine(fo) bd fun b1 w1 oY dN st1=>?_;refine dW ?_;refine WC.nS (t:=2) (v:=.bool (decide (k.kind=31) || decide (k.kind=32))) st1 ?_<|?_
 ·
  refine(bL) aT st1.b0<|(dY) (fun g6=>?_) (fun g6=>?_)
  ·
   exact(iK) (by simp only [g6];first | rfl | simp) (st1)
  refine(bL) aT st1.b0<|?_;exact(iK) (by simp only [g6];first | rfl | simp) (st1)
 intro w2 st2;refine(cA) ?_;exact⟨rfl,(St.cg st2)⟩
theorem oo(hk:gY k):CR prog 131 #[k.val] w (.bool (decide (k.kind=32))):=by
 refine enter func131 rfl ntmps131 rfl<|?_;have bd:=St.s0 w;refine(fo) bd fun b1 w1 oY dN st1=>?_;refine dW ?_;refine WC.nS (t:=2) (v:=.bool (decide (k.kind=32))) st1 ?_<|?_
 ·
  refine(bL) aT st1.b0<|(dY) (fun g6=>?_) (fun g6=>?_)
  ·
   exact(iK) (by simp only [g6];first | done | rfl | simp) (st1)
  refine(bL) aT st1.b0<|(dj) adp (Hx (n:=k.kind)) ?_;rintro _ w2 ⟨rfl,s2⟩;rw [show(decide (1≤k.kind) && decide (k.kind≤22))=false by(rcases hk with h | h <;> simp <;> omega)];have st2:=st1.step s2;exact(iK) (by simp only [g6];first | done | rfl | simp) (st2)
 intro w2 st2;refine(cA) ?_;exact⟨rfl,(St.cg st2)⟩
theorem oq{n:Nat}(hk:30≤k.kind∧k.kind≤32) (ht:k.text=itoa n) (hn:n≤99):CR prog 127 #[k.val] w (.int .i64 (n:Int)):=by
 obtain⟨kd,tx⟩:=k;simp only at hk ht;subst ht;refine enter func127 rfl ntmps127 rfl<|?_;have bd:=St.s0 w;refine(fo) bd fun b1 w1 oY dN st1=>?_;refine(bL) aT st1.b0<|(dj) UR (AM (n:=kd)) ?_;rintro _ w2 ⟨rfl,s2⟩;rw [show(decide (30≤kd) && decide (kd≤32))=true by(simp;omega)];have st2:=st1.step s2;refine dE ?_;refine WC.j0 rfl<|(bL) iG st2.b0<|(iz) (JC hn w2) st2 fun w3 s3 aW=>?_;refine qi ?_;refine WC.fL (t:=31) (v:=.bool false) aW ?_<|?_
 ·
  have U8:=aW.cY;refine WC.eQ (m:=15) (E:=dr [(12,fun v _=>v=.string (itoa n))]) aW (bM (⟨fun _ _ _ _ _ _ _ h=>h,trivial⟩)) mixed (by kernel_rfl)<|nx ?_;refine DP .r (fun _ hC=>PV.V7 Ee rfl)<|nx ?_;refine DW.i6 (t:=17) rfl (fun g17=>?_) (fun g17=>?_)
  ·
   refine(eh) ?_;rintro w4 ⟨mr,ba⟩ _;exact(dt) (tG g17) (ba)
  refine dW ?_;refine DW.i6 (t:=21) rfl (fun g21=>?_) (fun g21=>?_)
  ·
   refine(eh) ?_;rintro w4 ⟨mr,ba⟩ _;exact(dt) (tG (aj g17 g21)) (ba)
  refine dW ?_;refine DW.i6 (t:=25) rfl (fun fb=>?_) (fun fb=>?_)
  ·
   refine(eh) ?_;rintro w4 ⟨mr,ba⟩ _;exact(dt) (tG (aj g17<|aj g21 fb)) (ba)
  refine nx ?_;refine DW.c0 (fun wx hC hF=>lx (n:=(n:Int)) (by omega) (by omega) wx)<|(lI) iG St.g0<|(eh)<|?_;rintro w4 ⟨mr,ba⟩ ⟨_,_⟩;exact(dt) (tG (aj g17<|aj g21 fb)) (ba)
 intro w4 ba;refine(aZ) (fun rW=>?_) fun rW=>?_
 ·
  exact absurd rW (by simp)
 ·
  refine(cA) ?_;exact⟨rfl,(St.cg ba)⟩
 -- tN jf C8.T
theorem jG{n:Nat}(hk:30≤k.kind∧k.kind≤32) (ht:k.text=itoa n) (hn:n≤99):CR prog 124 #[k.val] w (.bool true):=by
 refine enter func124 rfl ntmps124 rfl<|?_;have bd:=St.s0 w;refine(fo) bd fun b1 w1 oY dN st1=>?_;refine(bL) aT st1.b0<|(dj) UR (AM (n:=k.kind)) ?_;rintro _ w2 ⟨rfl,s2⟩;rw [show(decide (30≤k.kind) && decide (k.kind≤32))=true by(simp;omega)];have st2:=st1.step s2;refine cS ?_;refine WC.Ck rfl<|(bz) aq st2.b0<|(iz) (oq (k:=k) hk ht hn) st2 fun w3 s3 aW=>?_;refine(cA) ?_;exact⟨by simp,(St.cg aW)⟩
theorem rK{a:Option Addr}{r c:Nat}(hr:il A w a r c ab):CR prog 126 #[.slice a r c,.int .i64 n] w ((aN ab n).val):=by
 have hle:=hr.le;have hlen:=hr.len;refine enter func126 rfl ntmps126 rfl<|?_;have bd:=St.s0 w;refine(gu) bd fun b4 w1 jK bG st1=>?_;refine dW ?_;refine WC.fL (t:=17) (v:=.bool (decide (n<0) || (decide ((r:Int)≤n) || decide (99<n)))) st1 ?_<|?_
 ·
  refine(dY) (fun g8=>?_) (fun g8=>?_)
  ·
   exact(dt) (by simp only [g8];first | rfl | simp) (st1)
  refine(dY) (fun g14=>?_) (fun g14=>?_)
  ·
   exact(dt) (by simp only [g8,g14];first | rfl | simp) (st1)
  exact(dt) (by simp only [g8,g14];first | rfl | simp) (st1)
 intro w2 st2;refine(aZ) (fun g17=>?_) fun g17=>?_
 ·
  have hk:aN ab n=da:=by unfold aN;rw [if_pos (by simp at g17;omega)]
  refine(dD) jx st2 fun w3 jY j7 aW=>?_;refine(mz) aq aW.b0<|?_;rw [hk];exact⟨rfl,(St.cg aW)⟩
 simp at g17
 obtain⟨i,rfl⟩:∃i:Nat,n=i:=⟨n.toNat,by omega⟩
 have hi:i<ab.length:=by omega
 have hk:aN ab i=⟨if aD ab i then 32 else 31,itoa i⟩:=by unfold aN;rw [if_neg (by omega)];rfl
 have lD:=cQ hi;refine qi ?_;obtain⟨Tt,Tu,Tv,lU,_,⟨q1,q2,q3,rfl,_⟩,ot,_⟩:=(hr.ext (St.cg st2)).at (ao hi);refine dE ?_;refine WP .r (PV.fI lq lU rfl rfl (by omega))<|nx ?_;refine WP .r (PV.ld1 (j:=0) ft ot rfl rfl)<|(aZ) (fun g23=>?_) fun g23=>?_
 ·
  have nj:aN ab i=⟨32,itoa i⟩:=by rw [hk,lD,g23];rfl
  refine(iz) (lx (n:=(i:Int)) (by omega) (by omega) w2) st2 fun w3 s3 aW=>?_;refine WP .r (PV.bW (us:=_) Ed rfl rfl rfl)<|(dD) jx aW fun w4 sC nt ba=>?_;refine(mz) aq ba.b0<|?_;rw [nj];exact⟨rfl,(St.cg ba)⟩
 have nj:aN ab i=⟨31,itoa i⟩:=by rw [hk,lD,g23];rfl
 refine(iz) (lx (n:=(i:Int)) (by omega) (by omega) w2) st2 fun w3 s3 aW=>?_;refine WP .r (PV.bW (us:=_) Ed rfl rfl rfl)<|(dD) jx aW fun w4 BO ry ba=>?_;refine(mz) aq ba.b0<|?_;rw [nj];exact⟨rfl,(St.cg ba)⟩
set_option maxHeartbeats 400000
set_option maxRecDepth 1000000 in
theorem nO(hs:s.size≤1000):CR prog 373 #[.string s] w (.string s):=by
 refine enter func373 rfl ntmps373 rfl<|?_;have bd:=St.s0 w;refine bf ?_;refine(aZ) (fun g6=>?_) fun g6=>?_
 ·
  refine(cA) ?_;exact⟨by rw [show s=⟨#[]⟩ from ByteArray.ext (Array.eq_empty_of_size_eq_zero (show s.size=0 by have:=of_decide_eq_true g6;omega))],(St.cg bd)⟩
 have h0:s.size≠0:=by have:=of_decide_eq_false g6;omega
 obtain⟨i,hi,hq⟩:=Option.map_eq_some_iff.1 (show(prog.info? 5).map (fun i=>(i.zero,i.size,i.bytes))=some (some (.int .u8 0),1,1) by kernel_rfl);simp only [Prod.mk.injEq] at hq;obtain⟨hz,h1,hb⟩:=hq;obtain⟨u1,u2,u3,k1,k2,k3,hc⟩:=DK (S:=9) (it:=3) (ty1:=3) (ty2:=9) underlying191 hi hz h1 hb underlying576 h0 hs w;refine ji ?_;refine WL.go rfl (OX.abt rfl rfl rfl k1 ?_);refine gN ?_;refine WL.go rfl (OX.abu rfl rfl rfl k2 ?_);refine ek ?_;refine WP .r (PV.Ko Uz 0 (show some (⟨w.heap.size,0,none⟩:Addr)=some ⟨w.heap.size,0,none⟩ from rfl) rfl rfl rfl (by omega))<|cS ?_;refine WL.go rfl (OX.ahC rfl rfl rfl k3 ?_);refine(cA) ?_;exact⟨rfl,hc⟩
theorem BU(hs:s.size≤1000) (hv:w.cell? ⟨4,0,none⟩=some .nilIface):Calls prog 286 #[.string f,.string s] w fun e w'=>∃b,e=.returned (.pointer (some ⟨b,0,none⟩))∧aV [] w w':=by
 have hr:w.rangeAt 4 0 [.nilIface]:=fun j v hj=>by
  cases j with
  | zero=>simp at hj;subst hj;exact hv
  | succ j=>simp at hj
 refine enter func286 rfl ntmps286 rfl<|?_;have bd:=St.s0 w;refine ji ?_;have AA:=bd.cY;refine WC.eQ (m:=4) (E:=dr [(2,fun v _=>v=.string s)]) bd (bM (⟨fun _ _ _ _ _ _ _ h=>h,trivial⟩)) mixed (by kernel_rfl)<|cS ?_;refine DW.c0 (fun wx hC hF=>nO hs)<|?_;refine DP .r (fun _ hC=>PV.pF Eg (bH hr (St.cg hC.2) (by simp)) rfl rfl)<|(eh)<|?_;rintro w1 ⟨fx,st1⟩ ⟨_,_⟩;refine WP .r (PV.bW (us:=[.string f,.string s,.nilIface]) K9 rfl rfl rfl)<|(fo) st1 fun iJ w2 lz fE st2=>?_;refine(cA) ?_;exact⟨_,rfl,(St.cg st2)⟩
theorem BV(hs:s.size≤1000) (hv:w.cell? ⟨4,0,none⟩=some (.iface t p)):Calls prog 286 #[.string f,.string s] w fun e w'=>∃b,e=.returned (.pointer (some ⟨b,0,none⟩))∧aV [] w w':=by
 have hr:w.rangeAt 4 0 [(.iface t p)]:=fun j v hj=>by
  cases j with
  | zero=>simp at hj;subst hj;exact hv
  | succ j=>simp at hj
 refine enter func286 rfl ntmps286 rfl<|?_;have bd:=St.s0 w;refine ji ?_;have AA:=bd.cY;refine WC.eQ (m:=4) (E:=dr [(2,fun v _=>v=.string s)]) bd (bM (⟨fun _ _ _ _ _ _ _ h=>h,trivial⟩)) mixed (by kernel_rfl)<|cS ?_;refine DW.c0 (fun wx hC hF=>nO hs)<|?_;refine DP .r (fun _ hC=>PV.pF Eg (bH hr (St.cg hC.2) (by simp)) rfl rfl)<|(eh)<|?_;rintro w1 ⟨fx,st1⟩ ⟨_,_⟩;refine WP .r (PV.bW (us:=[.string f,.string s,(.iface t p)]) K9 rfl rfl rfl)<|(fo) st1 fun iJ w2 lz fE st2=>?_;refine(cA) ?_;exact⟨_,rfl,(St.cg st2)⟩
theorem akF:prog.globalNamed "strconv.ErrSyntax" = some 4:=by kernel_rfl
theorem EE(ht:nQ prog A w) (hs:s.size≤1000):Calls prog 286 #[.string f,.string s] w fun e w'=>∃b,e=.returned (.pointer (some ⟨b,0,none⟩))∧aV [] w w':=by
 obtain⟨ev,hv,dO⟩:=ht.err (.inl rfl) akF
 rcases dO with rfl | ⟨t,p,rfl⟩
 ·
  exact BU hs hv
 exact BV hs hv
theorem BW(hs:s.size≤1000) (hv:w.cell? ⟨5,0,none⟩=some .nilIface):Calls prog 287 #[.string f,.string s] w fun e w'=>∃b,e=.returned (.pointer (some ⟨b,0,none⟩))∧aV [] w w':=by
 have hr:w.rangeAt 5 0 [.nilIface]:=fun j v hj=>by
  cases j with
  | zero=>simp at hj;subst hj;exact hv
  | succ j=>simp at hj
 refine enter func287 rfl ntmps287 rfl<|?_;have bd:=St.s0 w;refine ji ?_;have AA:=bd.cY;refine WC.eQ (m:=4) (E:=dr [(2,fun v _=>v=.string s)]) bd (bM (⟨fun _ _ _ _ _ _ _ h=>h,trivial⟩)) mixed (by kernel_rfl)<|cS ?_;refine DW.c0 (fun wx hC hF=>nO hs)<|?_;refine DP .r (fun _ hC=>PV.pF Eg (bH hr (St.cg hC.2) (by simp)) rfl rfl)<|(eh)<|?_;rintro w1 ⟨fx,st1⟩ ⟨_,_⟩;refine WP .r (PV.bW (us:=[.string f,.string s,.nilIface]) K9 rfl rfl rfl)<|(fo) st1 fun iJ w2 lz fE st2=>?_;refine(cA) ?_;exact⟨_,rfl,(St.cg st2)⟩
theorem BX(hs:s.size≤1000) (hv:w.cell? ⟨5,0,none⟩=some (.iface t p)):Calls prog 287 #[.string f,.string s] w fun e w'=>∃b,e=.returned (.pointer (some ⟨b,0,none⟩))∧aV [] w w':=by
 have hr:w.rangeAt 5 0 [(.iface t p)]:=fun j v hj=>by
  cases j with
  | zero=>simp at hj;subst hj;exact hv
  | succ j=>simp at hj
 refine enter func287 rfl ntmps287 rfl<|?_;have bd:=St.s0 w;refine ji ?_;have AA:=bd.cY;refine WC.eQ (m:=4) (E:=dr [(2,fun v _=>v=.string s)]) bd (bM (⟨fun _ _ _ _ _ _ _ h=>h,trivial⟩)) mixed (by kernel_rfl)<|cS ?_;refine DW.c0 (fun wx hC hF=>nO hs)<|?_;refine DP .r (fun _ hC=>PV.pF Eg (bH hr (St.cg hC.2) (by simp)) rfl rfl)<|(eh)<|?_;rintro w1 ⟨fx,st1⟩ ⟨_,_⟩;refine WP .r (PV.bW (us:=[.string f,.string s,(.iface t p)]) K9 rfl rfl rfl)<|(fo) st1 fun iJ w2 lz fE st2=>?_;refine(cA) ?_;exact⟨_,rfl,(St.cg st2)⟩
theorem akG:prog.globalNamed "strconv.ErrRange" = some 5:=by kernel_rfl
theorem EG(ht:nQ prog A w) (hs:s.size≤1000):Calls prog 287 #[.string f,.string s] w fun e w'=>∃b,e=.returned (.pointer (some ⟨b,0,none⟩))∧aV [] w w':=by
 obtain⟨ev,hv,dO⟩:=ht.err (.inr rfl) akG
 rcases dO with rfl | ⟨t,p,rfl⟩
 ·
  exact BW hs hv
 exact BX hs hv
theorem Hy(ht:nQ prog A w) (hs:s.size≤1000):Calls prog 203 #[.string f,.string s,.int .i64 0,.int .i64 0,.iface 386 (.int .i64 2)] w fun e w'=>∃b,e=.returned (.iface 389 (.pointer (some ⟨b,0,none⟩)))∧aV [] w w':=by
 refine enter func203 rfl ntmps203 rfl<|?_;have bd:=St.s0 w;refine bf ?_;refine cS ?_;refine WP .r (PV.Oi underlying386 (by intro ms h;cases h) rfl)<|WP .r (PV.V9 underlying205 (by kernel_rfl) underlying386 rfl rfl)<|(aZ) (fun g12=>?_) fun g12=>?_
 ·
  refine(dj) adJ (EE (ht.ext (St.cg bd)) hs) ?_;rintro _ w1 ⟨b,rfl,s1⟩;have st1:=bd.step s1;refine WP .r (PV.Oi underlying389 (by intro ms h;cases h) rfl)<|(cA) ?_;exact⟨_,rfl,(St.cg st1)⟩
 ·
  exact gW g12
 -- tN jf C19 R4.0 R4.1 R5.2 R5.3 X1
theorem Hz(ht:nQ prog A w) (hs:s.size≤1000):Calls prog 203 #[.string f,.string s,.int .i64 0,.int .i64 0,.iface 386 (.int .i64 1)] w fun e w'=>∃b,e=.returned (.iface 389 (.pointer (some ⟨b,0,none⟩)))∧aV [] w w':=by
 refine enter func203 rfl ntmps203 rfl<|?_;have bd:=St.s0 w;refine bf ?_;refine cS ?_;refine WP .r (PV.Oi underlying386 (by intro ms h;cases h) rfl)<|WP .r (PV.V9 underlying205 (by kernel_rfl) underlying386 rfl rfl)<|(aZ) (fun g12=>?_) fun g12=>?_
 ·
  exact gW g12
 ·
  refine cS ?_;refine WP .r (PV.Oi underlying386 (by intro ms h;cases h) rfl)<|WP .r (PV.V9 underlying205 (by kernel_rfl) underlying386 rfl rfl)<|(aZ) (fun g19=>?_) fun g19=>?_
  ·
   refine(dj) adK (EG (ht.ext (St.cg bd)) hs) ?_;rintro _ w1 ⟨b,rfl,s1⟩;have st1:=bd.step s1;refine WP .r (PV.Oi underlying389 (by intro ms h;cases h) rfl)<|(cA) ?_;exact⟨_,rfl,(St.cg st1)⟩
  exact gW g19
 -- tN jf R3.2 R3.3 X1
theorem HA{ev:Value}(ht:nQ prog A w) (hs:s.size≤1000) (he:ev=.iface 386 (.int .i64 2)∨ev=.iface 386 (.int .i64 1)):Calls prog 203 #[.string f,.string s,.int .i64 0,.int .i64 0,ev] w fun e w'=>∃b,e=.returned (.iface 389 (.pointer (some ⟨b,0,none⟩)))∧aV [] w w':=by
 rcases he with rfl | rfl
 ·
  exact Hy ht hs
 exact Hz ht hs
theorem P9(ht:nQ prog A w) (hs:s.size≤1000):Calls prog 154 #[.string s] w fun e w'=>∃(v:Int) (ok:Bool) (ev:Value),e=.returned (.tuple #[.int .i64 v,ev])∧(-9223372036854775808≤v∧v≤9223372036854775807)∧((ok=true∧ev=.nilIface)∨(ok=false∧∃t y,ev=.iface t y))∧aV [] w w':=by
 refine enter func154 rfl ntmps154 rfl<|?_;have bd:=St.s0 w;refine(dj) adB (Hw hs w) ?_;rintro _ w1 ⟨v,ok,ev,rfl,hv,eX,dO,s1⟩;have st1:=bd.step s1;refine vE ?_;refine WP .r (PV.abr Ee rfl eX)<|(aZ) (fun g12=>?_) fun g12=>?_
 ·
  refine(dj) adC (HA (ht.ext (St.cg st1)) hs (dO (by simpa using g12))) ?_;rintro _ w2 ⟨b,rfl,s2⟩;have st2:=st1.step s2;refine(FL) ?_;exact⟨v,false,_,rfl,hv,.inr ⟨rfl,_,_,rfl⟩,(St.cg st2)⟩
 refine(FL) ?_;exact⟨v,true,.nilIface,rfl,hv,.inl ⟨rfl,rfl⟩,(St.cg st1)⟩
end Go.Rc

