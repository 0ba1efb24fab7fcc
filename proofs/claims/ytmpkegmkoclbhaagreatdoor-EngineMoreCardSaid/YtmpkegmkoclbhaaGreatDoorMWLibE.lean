/- Walks over the program, part WLibE. Conditions: as each theorem says. -/
import Derived.Test.YtmpkegmkoclbhaaGreatDoorMFacts
import Derived.Test.YtmpkegmkoclbhaaGreatDoorMWK
import Derived.Test.YtmpkegmkoclbhaaGreatDoorMBe
import Derived.Test.YtmpkegmkoclbhaaGreatDoorMWB
import Derived.Test.YtmpkegmkoclbhaaGreatDoorMBd
import Derived.Test.YtmpkegmkoclbhaaGreatDoorShelf
import Derived.Test.YtmpkegmkoclbhaaGreatDoorMWD
import Derived.Test.YtmpkegmkoclbhaaGreatDoorMBf
import Derived.Test.YtmpkegmkoclbhaaGreatDoorMBb
set_option linter.all false
namespace Go.Rc
open Go Go.Proofs Go.Proofs.Tryz
variable {aa:List aG}{x:cm}{D:SD}{xb bb:Nat}{w:World}{M Z A:Nat→Prop}{s f:ByteArray}{E:EA}{k:Key}{s':ES}{n:Int}{t:TypeId}{p:Value}
set_option maxHeartbeats 400000
def UpC(aa:List aG) (x:cm) (D:SD) (xb bb f:Nat):Prop:=∀(w:World) (M Z:Nat→Prop) (s:ES) (E:EA) (k:Key) (s':ES),St w M Z w [As.blk xb 140 (E.cells D.s bb s),As.jM prog 176 aa x D,As.map Key.val bb s.busy,As.os RR.key 40 2 E.a3 E.n3 E.c3 s.bj]→Rd RR.aC 4 Z w E.a1 E.n1 E.c1 s.b.ab→Rd RR.ei 8 Z w E.a2 E.n2 E.c2 s.b.ah→Good aa x.ab s→dX aa k→kV aa (valOf aa x.ab) f s k=some s'→s'.bj.length≤1000000→
 Calls prog 91 #[.pointer (some ⟨xb,0,none⟩),k.val] w fun e w'=>∃(E':EA) (Z':Nat→Prop),e=.returned (.tuple #[])∧bH w.heap.size Z Z'∧Rd RR.aC 4 Z' w' E'.a1 E'.n1 E'.c1 s'.b.ab∧Rd RR.ei 8 Z' w' E'.a2 E'.n2 E'.c2 s'.b.ah∧St w M Z' w' [As.blk xb 140 (E'.cells D.s bb s'),As.jM prog 176 aa x D,As.map Key.val bb s'.busy,As.os RR.key 40 2 E'.a3 E'.n3 E'.c3 s'.bj]
set_option maxHeartbeats 1600000 in
theorem CD{s:ES}{f:Nat}{r:Bool}(hR:aq aa) (gE:St w M Z w [As.blk xb 140 (E.cells D.s bb s),As.jM prog 176 aa x D,As.map Key.val bb s.busy,As.os RR.key 40 2 E.a3 E.n3 E.c3 s.bj]) (hi:Rd RR.aC 4 Z w E.a1 E.n1 E.c1 s.b.ab) (hr:Rd RR.ei 8 Z w E.a2 E.n2 E.c2 s.b.ah) (FL:Good aa x.ab s) (LL:s.b.ab.length≤1000000) (wH:∀g,g<f→UpC aa x D xb bb g) (KQ:cP aa (valOf aa x.ab) f s k 0=some (s',r)) (zM:s'.bj.length≤1000000):Calls prog 136 #[.pointer (some ⟨xb,0,none⟩),k.val] w fun e w'=>∃(q:EA) (Z':Nat→Prop),e=.returned (.bool r)∧bH w.heap.size Z Z'∧Rd RR.aC 4 Z' w' q.a1 q.n1 q.c1 s'.b.ab∧Rd RR.ei 8 Z' w' q.a2 q.n2 q.c2 s'.b.ah∧St w M Z' w' [As.blk xb 140 (q.cells D.s bb s'),As.jM prog 176 aa x D,As.map Key.val bb s'.busy,As.os RR.key 40 2 q.a3 q.n3 q.c3 s'.bj]:=by
 refine enter func136 rfl ntmps136 rfl<|?_;have aP:=gE;have st1:=aP.fr hi;have st2:=st1.fr hr;refine(dy) st2 fun b3 w1 H5 wK iV=>?_;refine jL ?_;refine WC.ia (σ:=Nat × ES × EA × Nat × (Nat→Prop)) (dn:=fun(u,s1,a,ix,O)=>[(0,.pointer (some ⟨xb,0,none⟩)),(3,.pointer (some ⟨b3,0,none⟩)),(5,.int .i64 (ix:Int))]) (F:=fun(u,s1,a,ix,O)=>[As.blk xb 140 (a.cells D.s bb s1),As.map Key.val bb s1.busy,As.os RR.key 40 2 a.a3 a.n3 a.c3 s1.bj,As.ro RR.aC 4 a.a1 a.n1 a.c1 s1.b.ab,As.ro RR.ei 8 a.a2 a.n2 a.c2 s1.b.ah]) (I:=fun(u,s1,a,ix,O)=>(cP aa (valOf aa x.ab) u s1 k ix=some (s',r))∧(Good aa x.ab s1)∧(u≤f)∧(bH w.heap.size Z O)∧True) (μ:=fun(u,s1,a,ix,O)=>u) (Zf:=fun(u,s1,a,ix,O)=>O) (f,s,E,0,Z) (iV.p1.p2.p6.p6.p5) Sub.t (⟨KQ,FL,Nat.le_refl _,bH.refl _ _,trivial⟩)<|?_;rintro⟨u,s1,a,ix,O⟩ w2 z ⟨d,y,hfu,R,_⟩;simp only [CA,NA] at z d y hfu R ⊢
 obtain⟨S,rfl⟩:∃g,u=g+1:=by cases u with | zero=>simp [cP] at d | succ g=>exact⟨g,rfl⟩
 unfold cP at d
 have hl4:=y.len
 have afA:s1.b.ab.length≤1000000:=by rw [y.aC,← FL.aC];exact LL
 refine(a8) ye z.b0<|(aT) (fun g17=>?_) fun g17=>?_
 ·
  simp at g17
  rw [if_neg (by simp [g17])] at d;refine cj ?_;have DI:=z.bO;have KS:=z.jK;have KT:=z.size;refine WC.pg (m:=11) [9] (E:=cB [(6,fun v _=>∃f1 f2 f3,v=.tuple #[.agg ((aD s1.b.ah k).row f1 f2 f3).toArray,.bool (aA s1.b.ah k).isSome]),(10,PB w2.heap.size 88 [.int .i64 0,.string ⟨#[]⟩,.string ⟨#[]⟩,.slice none 0 0,.int .i64 0,.int .i64 0,.int .i64 0,.bool false])]) z (bm (⟨fun _ _ _ _ _ _ _ h=>h,⟨fun _ _ _ _ _ _ c h=>PB.st DI c h,trivial⟩⟩)) mixed (by kernel_rfl) rfl ?_;refine cj ?_;refine DP .r (fun _ i=>PV.ld1 (j:=3) dD (bT.range (As.gb i.2.g0)) rfl rfl)<|(gM) ao St.g5<|?_;refine DW.e rfl rfl rfl rfl rfl (fun wx i hF=>OX.call kM rfl rfl ((dZ (k:=k) (As.gr i.2.g4)).mono ?_))<|?_
  ·
   rintro _ wy ⟨f1,f2,f3,rfl,hy⟩;exact⟨_,rfl,⟨Nat.le_trans i.1 hy.size,i.2.step hy⟩,hy.p0,_,rfl,⟨f1,f2,f3,rfl⟩⟩
  rintro _ wz _ ⟨f1,f2,f3,rfl⟩;refine cq ?_;refine DW.e rfl rfl rfl rfl rfl (fun wx i hF=>OX.alloc nN rfl fun b wy C hb=>⟨⟨Nat.le_trans i.1 C.ext.size,i.2.step C.ext⟩,C.ext.p0,_,rfl,_,rfl,Nat.le_trans i.1 C.ge,hb⟩)<|?_;rintro _ wz _ ⟨b6,rfl,_,_⟩;refine(cQ) ?_;rintro w3 ⟨pJ,i7⟩ ⟨zH,⟨_,_⟩⟩;have iE:=i7.tn zH DI KS KT;refine(cI) fY iE fun w4 jS jZ hJ=>?_;refine nx ?_;refine WL.nil (EX.np ?_);refine cq ?_;refine WC.dW (t:=33) (v:=.bool (!(aA s1.b.ah k).isSome || (aD s1.b.ah k).bA)) hJ ?_<|?_
  ·
   refine(dc) (fun Va=>?_) (fun Va=>?_)
   ·
    exact(cz) (by simp only [Va];first | rfl | simp) (hJ)
   refine(a8) dH hJ.b0<|?_;exact(cz) (by simp only [Va];first | rfl | simp) (hJ)
  intro w5 T;refine(aT) (fun g33=>?_) fun g33=>?_
  ·
   rw [if_pos g33] at d;simp only [Option.some.injEq,Prod.mk.injEq] at d;obtain⟨l,o⟩:=d;subst l;subst o;refine(bw) ?_;exact⟨a,_,rfl,R,(As.gr T.g4),(As.gr T.g5),T.p3.p3.p7.p4.k4⟩
  rw [if_neg (by rw [g33];simp)] at d;refine cj ?_;have PF:=T.bO;refine WC.dS (m:=7) T mixed<|(iu) aN St.g0<|cj ?_;refine DP .r (fun _ i=>PV.ld1 (j:=1) aN (bT.range (As.gb i.2.g1)) rfl rfl)<|(cQ)<|?_;rintro w6 ⟨qH,U⟩ _;refine(aT) (fun V=>?_) fun V=>?_
  ·
   simp at V
   rw [if_pos V] at d;simp only [Option.some.injEq,Prod.mk.injEq] at d;obtain⟨l,o⟩:=d;subst l;subst o;refine(bw) ?_;exact⟨a,_,rfl,R,(As.gr U.g4),(As.gr U.g5),U.p3.p3.p7.p4.k4⟩
  simp at V
  rw [if_neg V] at d;refine cq ?_;have Py:=U.bO;refine WC.dS (m:=11) U mixed<|cj ?_;refine DP .r (fun _ i=>PV.ld1 (j:=3) dD (bT.range (As.gb i.2.g1)) rfl rfl)<|cj ?_;refine DP .r (fun _ i=>PV.ld1 (j:=1) aN (bT.range (As.gb i.2.g1)) rfl rfl)<|(gM) ao St.g6<|(cQ)<|?_;rintro w7 ⟨lO,eD⟩ _;have di:=eD;refine(bX) Pj (vC di.e0 (As.gr di.g5) (by omega)) ?_;rintro _ w8 ⟨q1,q2,q3,Z2,rfl,vD,j0⟩;have cY:=St.lv di j0 vD;have LA:=kl s1.b.ah s1.b.ad k;have hgg:=St.bP j0;have oA:=di.size;have afD:=R.trans vD oA;have dm:=cY.aY (by omega);have mG:=afD.trans (bH.dA (F:=fun x=>x∈aI q1) hgg) oA;refine kR ?_;refine WP .r (PV.ld1 (j:=3) dD dm.b2 rfl rfl)<|nx ?_;have W:=dm;refine(bX) Ph (qE W.e0 (As.gr W.g6) (As.gr W.g0) (yR y (by omega))) ?_;rintro _ w9 ⟨p1,p2,p3,Z3,rfl,qJ,nQ⟩;have Q:=St.lv W nQ qJ;have X:=mG.trans qJ W.size;have G8:=((As.gs Q.g0)).len;have hca:=tN y (group:=(aB s1.b.ah s1.b.ad k)) (by omega);refine(aT) (fun g64=>?_) fun g64=>?_
  ·
   simp at g64
   have LZ:(bR s1.b.ah (aB s1.b.ah s1.b.ad k))[ix]?=none:=List.getElem?_eq_none (by omega);rw [LZ] at d;simp only [] at d;simp only [Option.some.injEq,Prod.mk.injEq] at d;obtain⟨l,o⟩:=d;subst l;subst o;refine(hW) aM Q.b3<|nx ?_;have G:=Q;refine(bX) GW (mj G.e0 (As.gr G.g6) (As.gr G.g7) (As.gr G.g1) (by omega) (by omega)) ?_;rintro _ iS ⟨m1,m2,m3,m4,m5,m6,Z4,rfl,Y,qK⟩;have K:=St.lv G qK Y;have qL:=X.trans Y G.size;have FM:=St.bP qK;have FN:=St.bP qK.p1;have r8:=G.size;refine bN ?_;refine WL.go rfl (OX.Qy dL (As.gb K.g5) rfl rfl rfl rfl rfl fun iX re mz=>?_);have L:=K.p5.Br re mz;refine nx ?_;have H:=L.rz (B:=As.blk xb 140 (EA.cells ⟨m1,m4,a.a3,m2,m3,m5,m6,a.n3,a.c3⟩ D.s bb {s1 with b:=cH s1.b (aB s1.b.ah s1.b.ad k) false})) (rfl)
   have YH:(cH s1.b (aB s1.b.ah s1.b.ad k) false).ah.length=s1.b.ah.length:=by simp [cH]
   have Th:(cH s1.b (aB s1.b.ah s1.b.ad k) false).ab=s1.b.ab:=rfl;have dP:=H.p1.aY (by rw [Th];omega);have N:=dP.p2.aY (by omega);have yp:=(qL.trans (bH.dA (F:=fun x=>x∈aI m1) FM) r8).trans (bH.dA (F:=fun x=>x∈aI m4) FN) r8;refine(bw) ?_;exact⟨⟨m1,m4,a.a3,m2,m3,m5,m6,a.n3,a.c3⟩,_,rfl,yp,(As.gr N.g1),(As.gr N.g0),N.p7.p7.kB.p5.k4⟩
  simp at g64
  obtain⟨ch,oL⟩:∃ch,(bR s1.b.ah (aB s1.b.ah s1.b.ad k))[ix]?=some ch:=⟨_,ak (by omega)⟩;rw [oL] at d;simp only [] at d;have IJ:=fT y oL;refine cq ?_;obtain⟨gV,cW⟩:=Ow.addr (As.gs Q.g0) oL;refine cq ?_;refine WP .r (PV.dQ GP cW rfl rfl (by omega))<|(aZ) zn (Ow.jI (As.gs Q.g0) (by omega) cW oL)<|(eW) Q fun PG iS FH FJ G=>?_;refine(cI) Kn G fun iX zB sw K=>?_;refine(hW) ao K.b0<|(eN) (CC (k:=ch.read) (sb:=D.s) (s:=s1) (E:=a) (As.gb K.g4) (As.gm K.g5) y.busy (As.gr K.g8)) K fun ly s12 L=>?_;refine(aT) (fun YI=>?_) fun YI=>?_
  ·
   simp at YI
   rw [if_pos YI] at d;obtain⟨t,PI,FO⟩:=Option.bind_eq_some_iff.1 d;have LM:=(cy hR S).1 _ _ _ PI y IJ;have YJ:=(cy hR S).2.1 _ _ _ _ _ FO LM.1;refine(hW) ao L.b0<|?_;have H:=L.p6.p6.kD.p7;refine(bX) Sq (wH S (by omega) _ _ _ _ _ _ _ H.e4 (As.gr H.g8) (As.gr H.g9) y IJ PI (by have:=YJ.2.bj;omega)) ?_;rintro _ oo ⟨E2,Z5,rfl,vE,LN,hr5,KU⟩;have dP:=St.lv H KU vE;have yp:=X.trans vE H.size;have N:=dP.fr (LN);have dI:=N.fr (hr5);have P:=dI.kD.drop;have J:=P.kD.drop;refine de ?_;refine eC (S,t,E2,ix,Z5) ⟨J.p6.drop.p6.drop.p6.drop.p6.drop.p6.p1.p2.p6.p6.p5,⟨FO,LM.1,by omega,yp,trivial⟩⟩
  simp at YI
  rw [if_neg (by rw [YI];simp)] at d;refine cq ?_;have Tn:=L.bO;have YK:=L.jK;have YL:=L.size;refine WC.pg (m:=12) [10] (E:=cB [(7,fun v _=>∃f1 f2 f3,v=.tuple #[.agg ((aD s1.b.ah ch.dC).row f1 f2 f3).toArray,.bool (aA s1.b.ah ch.dC).isSome]),(11,PB ly.heap.size 88 [.int .i64 0,.string ⟨#[]⟩,.string ⟨#[]⟩,.slice none 0 0,.int .i64 0,.int .i64 0,.int .i64 0,.bool false])]) L (bm (⟨fun _ _ _ _ _ _ _ h=>h,⟨fun _ _ _ _ _ _ c h=>PB.st Tn c h,trivial⟩⟩)) mixed (by kernel_rfl) rfl ?_;refine cj ?_;refine DP .r (fun _ i=>PV.ld1 (j:=3) dD (bT.range (As.gb i.2.g4)) rfl rfl)<|(tr) ao St.g0<|?_;refine DW.e rfl rfl rfl rfl rfl (fun wx i hF=>OX.call kM rfl rfl ((dZ (k:=ch.dC) (As.gr i.2.g8)).mono ?_))<|?_
  ·
   rintro _ wy ⟨f1,f2,f3,rfl,hy⟩;exact⟨_,rfl,⟨Nat.le_trans i.1 hy.size,i.2.step hy⟩,hy.p0,_,rfl,⟨f1,f2,f3,rfl⟩⟩
  rintro _ wz _ ⟨f1,f2,f3,rfl⟩;refine cq ?_;refine DW.e rfl rfl rfl rfl rfl (fun wx i hF=>OX.alloc nN rfl fun b wy C hb=>⟨⟨Nat.le_trans i.1 C.ext.size,i.2.step C.ext⟩,C.ext.p0,_,rfl,_,rfl,Nat.le_trans i.1 C.ge,hb⟩)<|?_;rintro _ wz _ ⟨b11,rfl,_,_⟩;refine(cQ) ?_;rintro oo ⟨PJ,H⟩ ⟨afH,⟨_,_⟩⟩;have dP:=H.tn afH Tn YK YL;refine(cI) fY dP fun r7 LI LJ N=>?_;refine nx ?_;refine WL.nil (EX.np ?_);refine cq ?_;have aox:=N.bO;refine WC.dB (m:=13) (E:=cB [(10,fun v _=>v=.int .i64 (aV (valOf aa x.ab) s1.b ch.read))]) N (bm (⟨fun _ _ _ _ _ _ _ h=>h,trivial⟩)) mixed (by kernel_rfl)<|(iu) EW St.g5<|(tr) aM St.g5<|(tr) ao St.g1<|?_;refine DW.e rfl rfl rfl rfl rfl (fun wx i hF=>OX.call Pp rfl rfl ((oW (k:=ch.read) hR IJ (i.2.one (.tail _ (.tail _ (.tail _ (.tail _ (.tail _ (.tail _ (.tail _ (.tail _ (.tail _ (.tail _ (.tail _ (.head _))))))))))))) (As.gr i.2.g8) (As.gr i.2.g9)).mono ?_))<|?_
  ·
   rintro _ wy ⟨rfl,hy⟩;exact⟨_,rfl,⟨Nat.le_trans i.1 hy.bV.size,i.2.xI hU hy⟩,hy.bV.mono (fun _ _ hx=>Gp hU hx),_,rfl,rfl⟩
  rintro _ wz _ rfl;refine(iu) aN St.g0<|(cQ)<|?_;rintro pU ⟨YM,dI⟩ ⟨_,_⟩;refine(aT) (fun N4=>?_) fun N4=>?_
  ·
   simp at N4
   rw [if_pos N4] at d;refine(aZ) ao (bT.range (As.gb dI.g10))<|(eN) (df (k:=k)) dI fun tE S3 P=>?_;refine(aT) (fun To=>?_) fun To=>?_
   ·
    rw [if_pos To] at d;simp only [Option.some.injEq,Prod.mk.injEq] at d;obtain⟨l,o⟩:=d;subst l;subst o;refine(hW) aM P.b5<|nx ?_;have J:=P;refine(bX) GW (mj J.e0 (As.gr J.g8) (As.gr J.g9) (As.gr J.g3) (by omega) (by omega)) ?_;rintro _ zI ⟨m1,m2,m3,m4,m5,m6,Z4,rfl,Y,td⟩;have ee:=St.lv J td Y;have qL:=X.trans Y J.size;have FM:=St.bP td;have FN:=St.bP td.p1;have r8:=J.size;refine bN ?_;refine WL.go rfl (OX.Qy dL (As.gb ee.g7) rfl rfl rfl rfl rfl fun yo LO D5=>?_);have eP:=ee.p7.Br LO D5;refine nx ?_;have dM:=eP.rz (B:=As.blk xb 140 (EA.cells ⟨m1,m4,a.a3,m2,m3,m5,m6,a.n3,a.c3⟩ D.s bb {s1 with b:=cH s1.b (aB s1.b.ah s1.b.ad k) true})) (rfl)
    have YH:(cH s1.b (aB s1.b.ah s1.b.ad k) true).ah.length=s1.b.ah.length:=by simp [cH]
    have Th:(cH s1.b (aB s1.b.ah s1.b.ad k) true).ab=s1.b.ab:=rfl;have fD:=dM.p1.aY (by rw [Th];omega);have kA:=fD.p2.aY (by omega);have yp:=(qL.trans (bH.dA (F:=fun x=>x∈aI m1) FM) r8).trans (bH.dA (F:=fun x=>x∈aI m4) FN) r8;refine(bw) ?_;exact⟨⟨m1,m4,a.a3,m2,m3,m5,m6,a.n3,a.c3⟩,_,rfl,yp,(As.gr kA.g1),(As.gr kA.g0),kA.p9.p9.qg.p5.k4⟩
   rw [if_neg (by rw [To];simp)] at d;simp only [Option.some.injEq,Prod.mk.injEq] at d;obtain⟨l,o⟩:=d;subst l;subst o;refine aX ?_;refine(bw) ?_;exact⟨a,_,rfl,X,(As.gr P.g8),(As.gr P.g9),P.p7.p7.kB.p8.k4⟩
  simp at N4
  rw [if_neg (by omega)] at d;refine gX ?_;refine eC (S,s1,a,ix+1,Z3) ⟨dI.drop.drop.drop.drop.drop,⟨d,y,by omega,X,trivial⟩⟩
 simp at g17
 rw [if_pos g17] at d;simp only [Option.some.injEq,Prod.mk.injEq] at d;obtain⟨l,o⟩:=d;subst l;subst o;refine(bw) ?_;exact⟨a,_,rfl,R,(As.gr z.g3),(As.gr z.g4),z.p2.p2.p6.p3.k4⟩
set_option maxHeartbeats 1600000 in
theorem Ik{s:ES}{f:Nat}(P:aq aa) (gE:St w M Z w [As.blk xb 140 (E.cells D.s bb s),As.jM prog 176 aa x D,As.map Key.val bb s.busy,As.os RR.key 40 2 E.a3 E.n3 E.c3 s.bj]) (hi:Rd RR.aC 4 Z w E.a1 E.n1 E.c1 s.b.ab) (hr:Rd RR.ei 8 Z w E.a2 E.n2 E.c2 s.b.ah) (FL:Good aa x.ab s) (LL:s.b.ab.length≤1000000) (KW:hh aa k 0) (wH:∀g,g<f→UpC aa x D xb bb g) (KQ:gQ aa (valOf aa x.ab) f s k [] []=some s') (zM:s'.bj.length≤1000000):Calls prog 137 #[.pointer (some ⟨xb,0,none⟩),k.val] w fun e w'=>∃(H:EA) (Z':Nat→Prop),e=.returned (.tuple #[])∧bH w.heap.size Z Z'∧Rd RR.aC 4 Z' w' H.a1 H.n1 H.c1 s'.b.ab∧Rd RR.ei 8 Z' w' H.a2 H.n2 H.c2 s'.b.ah∧St w M Z' w' [As.blk xb 140 (H.cells D.s bb s'),As.jM prog 176 aa x D,As.map Key.val bb s'.busy,As.os RR.key 40 2 H.a3 H.n3 H.c3 s'.bj]:=by
 refine enter func137 rfl ntmps137 rfl<|?_;have aP:=gE;have st1:=aP.fr hi;have st2:=st1.fr hr;have iV:=st2.dq RR.key 40 2;have iq:=iV.dq RR.str 9 1;refine(dy) iq fun b3 w1 H5 wK i7=>?_;refine aX ?_;refine nx ?_;refine WC.ia (σ:=Nat × ES × EA × (List Key) × (List ByteArray) × (Nat→Prop) × (Option Addr) × Nat × Nat × (Option Addr) × Nat × Nat) (dn:=fun(J,s1,i,reads,ae,T,z,C,L,Q,N,R)=>[(0,.pointer (some ⟨xb,0,none⟩)),(3,.pointer (some ⟨b3,0,none⟩)),(4,.slice z C L),(5,.slice Q N R)]) (F:=fun(J,s1,i,reads,ae,T,z,C,L,Q,N,R)=>[As.os RR.key 40 2 z C L (reads),As.os RR.str 9 1 Q N R (ae),As.blk xb 140 (i.cells D.s bb s1),As.map Key.val bb s1.busy,As.os RR.key 40 2 i.a3 i.n3 i.c3 s1.bj,As.ro RR.aC 4 i.a1 i.n1 i.c1 s1.b.ab,As.ro RR.ei 8 i.a2 i.n2 i.c2 s1.b.ah]) (I:=fun(J,s1,i,reads,ae,T,z,C,L,Q,N,R)=>(gQ aa (valOf aa x.ab) J s1 k reads ae=some s')∧(Good aa x.ab s1)∧(J≤f)∧(bH w.heap.size Z T)∧(hh aa k ae.length)∧(reads.length=ae.length)∧(∀a∈reads,dX aa a)∧(∀y∈aI z,w.heap.size≤y)∧True) (μ:=fun(J,s1,i,reads,ae,T,z,C,L,Q,N,R)=>J) (Zf:=fun(J,s1,i,reads,ae,T,z,C,L,Q,N,R)=>T) (f,s,E,[],[],Z,none,0,0,none,0,0) (i7.p3.p4.p8.p8.p7.p6.p7) Sub.t (⟨KQ,FL,Nat.le_refl _,bH.refl _ _,KW,rfl,(fun a u=>by cases u),(by simp [aI]),trivial⟩)<|?_;rintro⟨J,s1,i,reads,ae,T,z,C,L,Q,N,R⟩ w2 G ⟨q,Iz,hfu,hZ,Il,hlen,UZ,hfr,_⟩;simp only [CA,NA] at G q Iz hfu hZ Il hlen UZ hfr ⊢
 obtain⟨Vb,rfl⟩:∃g,J=g+1:=by cases J with | zero=>simp [gQ] at q | succ g=>exact⟨g,rfl⟩
 unfold gQ at q
 have hl4:=Iz.len
 have afA:s1.b.ab.length≤1000000:=by rw [Iz.aC,← FL.aC];exact LL
 have h6:=Il.le P;have OS:=((As.gs G.g0)).len;have yk:=((As.gs G.g1)).len;have G8:=((As.gr G.g6)).len;refine(a8) ye G.b2<|(aT) (fun g13=>?_) fun g13=>?_
 ·
  simp at g13
  rw [if_neg (by simp [g13])] at q;refine cj ?_;obtain⟨o,NK⟩:∃t,aH aa k ae=t:=⟨_,rfl⟩;rw [NK] at q;have YN:=@hh.next aa k P ae Il;rw [NK] at YN;have YO:=G.bO;have afI:=G.jK;have afJ:=G.size;refine WC.dB (m:=11) (E:=cB [(9,fun v _=>v=o.val),(10,PB w2.heap.size 152 [.bool false,.string ⟨#[]⟩,.int .i64 0,.string ⟨#[]⟩])]) G (bm (⟨fun _ _ _ _ _ _ _ h=>h,⟨fun _ _ _ _ _ _ c h=>PB.st YO c h,trivial⟩⟩)) mixed (by kernel_rfl)<|cq ?_;refine DP .r (fun _ d=>PV.mw EW (bT.range (As.gb d.2.g2)) rfl rfl)<|bN ?_;refine DP .r (fun _ d=>V1 jB (bT.range (As.gvb (d.2.g8))) .r)<|(gM) ao St.g7<|nx ?_;refine DW.c1 (fun U d S=>fy (k:=k) (SD.ht (As.gv (d.2.g8))) (SD.hu (As.gv (d.2.g8))) (Ow.rd (As.gs d.2.g1) (by omega)) P.hb (Il.not P).1) (by rw [NK])<|?_;refine DW.e rfl rfl rfl rfl rfl (fun U d S=>OX.alloc oS rfl fun b wy l hb=>⟨⟨Nat.le_trans d.1 l.ext.size,d.2.step l.ext⟩,l.ext.p0,_,rfl,_,rfl,Nat.le_trans d.1 l.ge,hb⟩)<|?_;rintro _ wz _ ⟨b6,rfl,_,_⟩;refine(cQ) ?_;rintro w3 ⟨r8,hJ⟩ ⟨zH,⟨_,_⟩⟩;have iK:=hJ.tn zH YO afI afJ;refine(cI) gD iK fun w4 jS jZ V=>?_;refine(a8) dH V.b0<|(aT) (fun PK=>?_) fun PK=>?_
  ·
   rw [if_pos PK] at q;refine bN ?_;have PF:=V.bO;have afK:=V.jK;have afL:=V.size;refine WC.pg (m:=11) [9] (E:=cB [(6,fun v _=>∃f1 f2 f3,v=.tuple #[.agg ((aD s1.b.ah k).row f1 f2 f3).toArray,.bool (aA s1.b.ah k).isSome]),(10,PB w4.heap.size 88 [.int .i64 0,.string ⟨#[]⟩,.string ⟨#[]⟩,.slice none 0 0,.int .i64 0,.int .i64 0,.int .i64 0,.bool false])]) V (bm (⟨fun _ _ _ _ _ _ _ h=>h,⟨fun _ _ _ _ _ _ c h=>PB.st PF c h,trivial⟩⟩)) mixed (by kernel_rfl) rfl ?_;refine cj ?_;refine DP .r (fun _ d=>PV.ld1 (j:=3) dD (bT.range (As.gb d.2.g3)) rfl rfl)<|(gM) ao St.g8<|?_;refine DW.e rfl rfl rfl rfl rfl (fun U d S=>OX.call kM rfl rfl ((dZ (k:=k) (As.gr d.2.g7)).mono ?_))<|?_
   ·
    rintro _ wy ⟨f1,f2,f3,rfl,hy⟩;exact⟨_,rfl,⟨Nat.le_trans d.1 hy.size,d.2.step hy⟩,hy.p0,_,rfl,⟨f1,f2,f3,rfl⟩⟩
   rintro _ wz _ ⟨f1,f2,f3,rfl⟩;refine cq ?_;refine DW.e rfl rfl rfl rfl rfl (fun U d S=>OX.alloc nN rfl fun b wy l hb=>⟨⟨Nat.le_trans d.1 l.ext.size,d.2.step l.ext⟩,l.ext.p0,_,rfl,_,rfl,Nat.le_trans d.1 l.ge,hb⟩)<|?_;rintro _ wz _ ⟨b7,rfl,_,_⟩;refine(cQ) ?_;rintro w5 ⟨qH,W⟩ ⟨zH,⟨_,_⟩⟩;have di:=W.tn zH PF afK afL;refine(cI) fY di fun w6 re mz cY=>?_;refine nx ?_;refine WL.nil (EX.np ?_);refine bN ?_;refine WC.dW (t:=46) (v:=.bool (!(aA s1.b.ah k).isSome && decide (4000≤s1.b.ah.length))) cY ?_<|?_
   ·
    refine(dc) (fun g38=>?_) (fun g38=>?_)
    ·
     refine cj ?_;refine WP .r (PV.ld1 (j:=3) dD cY.b4 rfl rfl)<|?_;exact(cz) (by simp only [g38];first | rfl | (simp [G8];done) | (simp;omega)) (cY)
    exact(cz) (by simp only [g38];first | rfl | (simp [G8];done) | (simp;omega)) (cY)
   intro w7 dm;refine(aT) (fun g46=>?_) fun g46=>?_
   ·
    rw [if_pos g46] at q;simp only [Option.some.injEq] at q;subst q;refine de ?_;refine WL.s1 dm.p4 fun w8 _ db=>?_;refine nx ?_;have O:=db.rz (B:=As.blk xb 140 (EA.cells i D.s bb {s1 with e:=45})) (rfl);refine ez ?_;refine EX.mV (.inl rfl) rfl<|?_;exact⟨i,_,rfl,hZ,(As.gr O.g7),(As.gr O.g8),O.p6.p6.kD.p3.k4⟩
   rw [if_neg (by rw [g46];simp)] at q;simp only [Option.some.injEq] at q;subst q
   have Ey:s1.bj.length+1≤1000000:=by simpa using zM
   refine cq ?_;have db:=dm.p2.aY (by omega);have mU:=hZ.trans (bH.dA (F:=fun x=>x∈aI z) hfr) (Nat.le_refl _);have hN9:=db.bO;refine WC.pg (m:=15) [0] (E:=cB [(14,fun v _=>v=.agg ((bF s1.b k o.value reads).row z C L).toArray)]) db (bm (⟨fun _ _ _ _ _ _ _ h=>h,trivial⟩)) mixed (by kernel_rfl) rfl ?_;refine de ?_;refine DP .r (fun _ d=>PV.ld1 (j:=3) dD (bT.range (As.gb d.2.g4)) rfl rfl)<|(tr) aM St.g4<|(gM) ao St.g9<|(iu) fw St.g2<|nx ?_;refine DW.c0 (fun U d S=>vq (k:=k) (v:=o.value) (As.gr d.2.g7) (As.gr d.2.g8) (As.gr d.2.g0))<|(cQ) ?_;rintro w8 ⟨FE,O⟩ ⟨_,_⟩;have K:=O;refine(bX) Pm (vj (x:=(bF s1.b k o.value reads)) K.e0 (As.gr K.g8) (by omega) (As.gr K.g0) (by show reads.length≤4000;omega)) ?_;rintro _ w9 ⟨p1,p2,p3,Z4,rfl,YP,nQ⟩;have ew:=St.lv K nQ YP;have PD:(eh s1.b.ah (bF s1.b k o.value reads)).length≤s1.b.ah.length+1:=rp (bF s1.b k o.value reads) s1.b.ah false;have YQ:=St.bP nQ;have r8:=K.size;have qL:=mU.trans YP r8;have eb:=ew.aY (by omega);have yp:=qL.trans (bH.dA (F:=fun x=>x∈aI p1) YQ) r8;refine cq ?_;refine WL.s1 (j:=3) eb.p5 fun iS _ dG=>?_;refine WL.nil (EX.np ?_);have X:=dG.rz (B:=As.blk xb 140 (EA.cells ⟨i.a1,p1,i.a3,i.n1,i.c1,p2,p3,i.n3,i.c3⟩ D.s bb {s1 with b:={s1.b with ah:=eh s1.b.ah (bF s1.b k o.value reads)}})) (rfl);refine bN ?_;have hnr:=((As.gs X.g7)).len;have wM:=X.bO;have Cw:=X.jK;have Cx:=X.size;refine WC.pg (m:=7) [0] (E:=cB [(6,PS iS.heap.size 40 1 k.cells)]) X (bm (⟨fun _ _ _ _ _ _ c h=>PS.st wM c h,trivial⟩)) mixed (by kernel_rfl) rfl ?_;refine(iu) dE St.g0<|(gM) ao St.g10<|?_;refine DW.e rfl rfl rfl rfl rfl (fun U d S=>OX.aO (us:=k.cells) dx rfl rfl rfl rfl fun b wy l hb=>⟨⟨Nat.le_trans d.1 l.ext.size,d.2.step l.ext⟩,l.ext.p0,_,rfl,_,rfl,Nat.le_trans d.1 l.ge,hb⟩)<|?_;rintro _ wz _ ⟨b75,rfl,_,_⟩;refine(cQ) ?_;rintro iX ⟨yl,fA⟩ ⟨Tj,_⟩;have dI:=fA.tn (PS.pb Tj) wM Cw Cx;refine WL.go rfl (OX.jT kX rfl rfl rfl (As.gs dI.g8) (SR.dd (A:=fun _=>True) (x:=k) (As.gb dI.g0) trivial rfl (by simp [Key.cells,Value.oneCell']) rfl) (by show(i.n3+1)*_≤_;omega) (by show i.n3+1≤_;omega) (Nat.zero_le _) fun a76 Im ly Tp s76 Tq afP=>?_);have eJ:=dI.p8.eS s76 Tp Tq;refine bN ?_;refine WL.s1 eJ.p2 fun oo _ fB=>?_;refine WL.nil (EX.np ?_);have ee:=fB.rz (B:=As.blk xb 140 (EA.cells ⟨i.a1,p1,a76,i.n1,i.c1,p2,p3,(i.n3+1),Im⟩ D.s bb {s1 with b:={s1.b with ah:=eh s1.b.ah (bF s1.b k o.value reads)},bj:=s1.bj++[k]})) (rfl);refine fO ?_;refine EX.mV (.inl rfl) rfl<|?_;exact⟨⟨i.a1,p1,a76,i.n1,i.c1,p2,p3,(i.n3+1),Im⟩,_,rfl,yp,(As.gr ee.g9),(As.gr ee.g3),ee.p1.p8.oK.p3.k4⟩
  rw [if_neg (by rw [PK];simp)] at q;obtain⟨t,PI,Y⟩:=Option.bind_eq_some_iff.1 q;have G0:=YN PK;have LM:=(cy P Vb).1 _ _ _ PI Iz G0.2;refine(hW) ao V.b0<|?_
  have hrt:t.bj.length≤1000000:=by
   split at Y
   ·
    have:=((cy P Vb).2.2 _ _ _ _ _ Y LM.1 (by simpa using G0.1) (by simp [hlen]) (fun a u=>by rcases List.mem_append.1 u with u | u;exact UZ a u;simp at u;subst u;exact G0.2)).2.bj
    omega
   have:=((cy P Vb).2.2 _ _ _ _ _ Y LM.1 Il hlen UZ).2.bj
   omega
  have W:=V.p5.p5.p9.p6;refine(bX) Sq (wH Vb (by omega) _ _ _ _ _ _ _ W.e4 (As.gr W.g7) (As.gr W.g8) Iz G0.2 PI hrt) ?_;rintro _ w5 ⟨E2,Z5,rfl,vE,LN,hr5,qG⟩;have di:=St.lv W qG vE;have yp:=hZ.trans vE W.size;have cY:=di.fr (LN);have dm:=cY.fr (hr5);have db:=dm.p9.drop;have O:=db.p9.drop;refine(a8) ye O.b2<|(aT) (fun FP=>?_) fun FP=>?_
  ·
   simp at FP
   rw [if_pos FP] at Y;have K:=O.p7;have N5:=K.bO;have YR:=K.jK;have YS:=K.size;refine WC.Me (m:=16) [5] (fun j w w'=>match j with | 4=>gP (fun x=>x∈aI z) w w' | _=>gP (fun _=>False) w w') (E:=cB [(3,PS w5.heap.size 40 1 o.ask.cells),(4,fun v w'=>∃a c,v=.slice a (C+1) c∧(∀x∈aI a,x∈aI z∨w5.heap.size≤x)∧Ow RR.key 40 2 Z5 w' a (C+1) c (reads++[o.ask]))]) K (lC (⟨⟨trivial,⟨fun _ _ _ _ _ c h=>PS.st (fun x hx=>N5 x ⟨_,.head _,hx⟩) c h,trivial⟩⟩,⟨⟨trivial,⟨trivial,trivial⟩⟩,trivial⟩⟩)) mixed (by kernel_rfl) rfl ?_;refine(tr) ao St.g7<|?_;refine DW.e rfl rfl rfl rfl rfl (fun U d S=>OX.aO (us:=o.ask.cells) dx rfl rfl rfl rfl fun b wy l hb=>⟨⟨Nat.le_trans d.1 l.ext.size,d.2.step l.ext⟩,l.ext.p0,_,rfl,_,rfl,Nat.le_trans d.1 l.ge,hb⟩)<|?_;rintro _ wz _ ⟨b91,rfl,_,_⟩
   refine DW.e rfl rfl rfl rfl rfl (fun U d S=>by
    obtain⟨⟨b',Fh,wo,wK⟩,_⟩:=S;simp only [Value.slice.injEq,Option.some.injEq,Addr.mk.injEq,and_true,true_and] at Fh;subst Fh;exact OX.acw kX rfl rfl rfl (As.gs d.2.g0) (fun x hx=>d.2.l4 _ M0 x hx) (SR.dd (A:=fun _=>True) (x:=o.ask) wK trivial rfl (by simp [Key.cells,Value.oneCell']) rfl) (by omega) (by omega) fun a' c' wy h1 h2 h3 h4=>⟨⟨Nat.le_trans d.1 h3.size,d.2.same M0 h3.p h2⟩,h3.p,_,rfl,a',c',rfl,(fun x hx=>by rcases h4 x hx with h | h;exact .inl h;exact .inr (Nat.le_trans d.1 h)),h1⟩) ?_
   rintro _ wz _ ⟨a4,c4,rfl,_,_⟩;refine cj ?_;refine DP .r (fun _ d=>PV.mw EW (bT.range (As.gb d.2.g3)) rfl rfl)<|(tr) aM St.g3<|(tr) ao St.g7<|(cQ)<|?_;rintro w6 ⟨CE,ew⟩ ⟨hF4,⟨hF3,_⟩⟩;obtain⟨_,_,he4,YT,ho4⟩:=hF4;simp only [Value.slice.injEq,true_and] at he4;obtain⟨rfl,rfl⟩:=he4;have eb:=ew;have dG:=eb.swap (B:=As.os RR.key 40 2 a4 (C+1) c4 (reads++[o.ask])) ho4 YT N5 YR YS;refine(bX) Po (qI (k:=o.ask) P G0.2 (dG.one (.tail _ (.tail _ (.tail _ (.tail _ (.head _)))))) (As.gr dG.g2) (As.gr dG.g1)) ?_;rintro _ w7 ⟨rfl,jE⟩;have X:=dG.xI M4 jE;refine WL.go rfl (OX.aO (us:=[.string (bS (valOf aa x.ab) t.b o.ask)]) jq rfl rfl rfl rfl fun aoC w8 YU YV=>?_);have fA:=X.cX YU YV;refine WL.ap rfl rfl fA.p9 (SR.dd (A:=fun _=>True) (x:=bS (valOf aa x.ab) t.b o.ask) (As.gb fA.g0) trivial rfl (by simp [Value.oneCell']) rfl) fun afQ YW w9 aki akj dI=>?_;refine bN ?_;refine WL.nil (EX.np ?_);refine nx ?_;refine eC (Vb,t,E2,reads++[o.ask],ae++[bS (valOf aa x.ab) t.b o.ask],Z5,a4,(C+1),c4,afQ,(N+1),YW) ⟨dI.p1.drop.p8.drop.p8.p3.p4.p8.p8.p7.p6.p7,⟨Y,LM.1,by omega,yp,by simpa using G0.1,by simp [hlen],(fun a u=>by rcases List.mem_append.1 u with u | u;exact UZ a u;simp at u;subst u;exact G0.2),(fun y hy=>by rcases YT y hy with h | h;exact hfr y h;omega),trivial⟩⟩
  simp at FP
  rw [if_neg FP] at Y;refine bN ?_;refine eC (Vb,t,E2,reads,ae,Z5,z,C,L,Q,N,R) ⟨O.p6.drop.p8.p1.p2.p6.p6.p5.p8.p8,⟨Y,LM.1,by omega,yp,Il,hlen,UZ,hfr,trivial⟩⟩
 simp at g13
 rw [if_pos g13] at q;simp only [Option.some.injEq] at q;subst q;refine cj ?_;refine EX.mV (.inr rfl) rfl<|?_;exact⟨i,_,rfl,hZ,(As.gr G.g5),(As.gr G.g6),G.p4.p4.p8.p5.k4⟩
set_option maxHeartbeats 1600000 in
theorem KX{s:ES}{f:Nat}(J:aq aa) (gE:St w M Z w [As.blk xb 140 (E.cells D.s bb s),As.jM prog 176 aa x D,As.map Key.val bb s.busy,As.os RR.key 40 2 E.a3 E.n3 E.c3 s.bj]) (hi:Rd RR.aC 4 Z w E.a1 E.n1 E.c1 s.b.ab) (hr:Rd RR.ei 8 Z w E.a2 E.n2 E.c2 s.b.ah) (K:Good aa x.ab s) (Y:s.b.ab.length≤1000000) (hk:dX aa k) (wH:∀g,g<f→UpC aa x D xb bb g) (d:kV aa (valOf aa x.ab) (f+1) s k=some s') (zM:s'.bj.length≤1000000):Calls prog 91 #[.pointer (some ⟨xb,0,none⟩),k.val] w fun e w'=>∃(l:EA) (Z':Nat→Prop),e=.returned (.tuple #[])∧bH w.heap.size Z Z'∧Rd RR.aC 4 Z' w' l.a1 l.n1 l.c1 s'.b.ab∧Rd RR.ei 8 Z' w' l.a2 l.n2 l.c2 s'.b.ah∧St w M Z' w' [As.blk xb 140 (l.cells D.s bb s'),As.jM prog 176 aa x D,As.map Key.val bb s'.busy,As.os RR.key 40 2 l.a3 l.n3 l.c3 s'.bj]:=by
 unfold kV at d
 have hbk:(bD s.busy k).getD (.bool false)=.bool (s.on k):=by unfold ES.on;rcases K.busy k with h | h <;> rw [h] <;> rfl
 refine enter func91 rfl ntmps91 rfl<|?_;have aP:=gE;have st1:=aP.fr hi;have st2:=st1.fr hr;refine(dy) st2 fun b3 w1 H5 wK F=>?_;refine cj ?_;refine WC.dW (t:=14) (v:=.bool (decide (s.e≠0) || ay k)) F ?_<|?_
 ·
  refine(a8) ye F.b3<|(dc) (fun g11=>?_) (fun g11=>?_)
  ·
   exact(cz) (by simp only [g11];first | rfl | simp) (F)
  refine(aZ) ao F.b0<|(eN) (eu (k:=k)) F fun w2 s2 o=>?_;exact(cz) (by simp only [g11];first | rfl | simp) (o)
 intro w2 o;refine(aT) (fun g14=>?_) fun g14=>?_
 ·
  rw [if_pos (by simpa using g14)] at d;simp only [Option.some.injEq] at d;subst d;refine bN ?_;refine EX.mV (.inl rfl) rfl<|?_;exact⟨E,Z,rfl,bH.refl _ _,(As.gr o.g2),(As.gr o.g1),o.p6.p6.p6.p6.k4⟩
 have wA:ay k=false:=by simp at g14;exact g14.2
 rw [if_neg (by simpa using g14)] at d;refine cj ?_;have Vc:=o.bO;have afR:=o.jK;have afS:=o.size;refine WC.pg (m:=11) [9] (E:=cB [(6,fun v _=>∃f1 f2 f3,v=.tuple #[.agg ((aD s.b.ah k).row f1 f2 f3).toArray,.bool (aA s.b.ah k).isSome]),(10,PB w2.heap.size 88 [.int .i64 0,.string ⟨#[]⟩,.string ⟨#[]⟩,.slice none 0 0,.int .i64 0,.int .i64 0,.int .i64 0,.bool false])]) o (bm (⟨fun _ _ _ _ _ _ _ h=>h,⟨fun _ _ _ _ _ _ c h=>PB.st Vc c h,trivial⟩⟩)) mixed (by kernel_rfl) rfl ?_;refine cj ?_;refine DP .r (fun _ i=>PV.ld1 (j:=3) dD (bT.range (As.gb i.2.g3)) rfl rfl)<|(gM) ao St.g0<|?_;refine DW.e rfl rfl rfl rfl rfl (fun wx i hF=>OX.call kM rfl rfl ((dZ (k:=k) (As.gr i.2.g1)).mono ?_))<|?_
 ·
  rintro _ wy ⟨f1,f2,f3,rfl,hy⟩;exact⟨_,rfl,⟨Nat.le_trans i.1 hy.size,i.2.step hy⟩,hy.p0,_,rfl,⟨f1,f2,f3,rfl⟩⟩
 rintro _ wz _ ⟨f1,f2,f3,rfl⟩;refine cq ?_;refine DW.e rfl rfl rfl rfl rfl (fun wx i hF=>OX.alloc nN rfl fun b wy L hb=>⟨⟨Nat.le_trans i.1 L.ext.size,i.2.step L.ext⟩,L.ext.p0,_,rfl,_,rfl,Nat.le_trans i.1 L.ge,hb⟩)<|?_;rintro _ wz _ ⟨b4,rfl,_,_⟩;refine(cQ) ?_;rintro w3 ⟨oA,i7⟩ ⟨zH,⟨_,_⟩⟩;have iE:=i7.tn zH Vc afR afS;refine(cI) fY iE fun w4 jS jZ P=>?_;refine nx ?_;refine WL.nil (EX.np ?_);refine bN ?_;refine WC.dW (t:=35) (v:=.bool (az s.b k)) P ?_<|?_
 ·
  have DI:=P.bO;refine WC.dS (m:=9) P mixed<|(ot) (fun Q=>?_) (fun Q=>?_)
  ·
   refine(iu) aN St.g0<|cj ?_;refine DP .r (fun _ i=>PV.ld1 (j:=1) aN (bT.range (As.gb i.2.g4)) rfl rfl)<|(cQ)<|?_;rintro w5 ⟨pJ,q⟩ _;exact(cz) (by unfold az;simp only [Q];first | rfl | simp) (q)
  refine(cQ) ?_;rintro w5 ⟨pJ,q⟩ _;exact(cz) (by unfold az;simp only [Q];first | rfl | simp) (q)
 intro w5 q;refine(aT) (fun R=>?_) fun R=>?_
 ·
  rw [if_pos R] at d;simp only [Option.some.injEq] at d;subst d;refine bN ?_;refine EX.mV (.inl rfl) rfl<|?_;exact⟨E,Z,rfl,bH.refl _ _,(As.gr q.g3),(As.gr q.g2),q.p7.p7.p7.p7.k4⟩
 rw [if_neg (by rw [R];simp)] at d;refine cj ?_;have YO:=q.bO;refine WC.dS (m:=5) q mixed<|(iu) nL St.g4<|(gM) ao St.g1<|(cQ)<|?_;rintro w6 ⟨r8,G⟩ _;refine WP .r (PV.jO da gK Ch (As.gm G.g6) (hbk) rfl rfl)<|(aT) (fun S=>?_) fun S=>?_
 ·
  rw [if_pos S] at d;refine(aZ) ao G.b1<|(eN) (df (k:=k)) G fun w7 s7 C=>?_;refine(aT) (fun H=>?_) fun H=>?_
  ·
   simp at H
   rw [if_neg (by rw [H];simp)] at d;simp only [Option.some.injEq] at d;subst d;refine cj ?_;refine WL.s1 C.p4 fun w8 _ N=>?_;refine nx ?_;have u:=N.rz (B:=As.blk xb 140 (EA.cells E D.s bb {s with e:=43})) (rfl);refine cq ?_;refine EX.mV (.inl rfl) rfl<|?_;exact⟨E,Z,rfl,bH.refl _ _,(As.gr u.g4),(As.gr u.g3),u.p7.p7.p7.p3.k4⟩
  simp at H
  rw [if_pos H] at d;simp only [Option.some.injEq] at d;subst d;refine cj ?_;refine EX.mV (.inl rfl) rfl<|?_;exact⟨E,Z,rfl,bH.refl _ _,(As.gr C.g3),(As.gr C.g2),C.p7.p7.p7.p7.k4⟩
 rw [if_neg (by rw [S];simp)] at d;refine cq ?_;have hN7:=G.bO;refine WC.dS (m:=5) G mixed<|(iu) nL St.g4<|(gM) ao St.g1<|(cQ)<|?_;rintro w7 ⟨Tr,C⟩ _;refine WL.go rfl (OX.put da gK (As.gm C.g6) rfl rfl rfl fun w8 zF vy=>?_);have N:=C.p6.jU zF vy;refine nx ?_;obtain⟨⟨s2,r2⟩,hp,d⟩:=Option.bind_eq_some_iff.1 d;obtain⟨s3,y,d⟩:=Option.bind_eq_some_iff.1 d;simp only [Option.some.injEq] at d;subst d;have T:=(cy J f).2.1 _ _ _ _ _ hp (K.on k);have KW:=hk.gL wA;have U:s3.bj.length≤1000000:=zM
 have YX:s2.bj.length≤1000000:=by
  split at y
  ·
   have:=((cy J f).2.2 _ _ _ _ _ y T.1 KW rfl (fun a ha=>by cases ha)).2.bj
   exact Nat.le_trans this U
  simp only [Option.some.injEq] at y;subst y;exact U
 have afT:s2.b.ab.length≤1000000:=by rw [T.1.aC,← K.aC];exact Y
 refine(aZ) ao N.b2<|?_;have u:=N.p7.p1.p7.p7;refine(bX) XC (CD (s:={s with busy:=cL s.busy k (.bool true)}) (E:=E) J u.e4 (As.gr u.g7) (As.gr u.g6) (K.on k) Y wH hp YX) ?_;rintro _ w9 ⟨E2,Z2,rfl,vD,afU,afV,nQ⟩;have dm:=St.lv u nQ vD;have mG:=(bH.refl w.heap.size Z).trans vD u.size;have db:=dm.fr (afU);have ed:=db.fr (afV);have gx:=ed.p9.drop;have O:=gx.p8.drop;refine(aT) (fun V=>?_) fun V=>?_
 ·
  rw [if_pos V] at y;refine(aZ) ao (bT.range (As.gb O.g7))<|?_;have z:=O.p5.p5.p5.p5;refine(bX) XD (Ik (s:=s2) (E:=E2) J z.e4 (As.gr z.g5) (As.gr z.g4) T.1 afT KW wH y U) ?_;rintro _ iS ⟨E3,Z3,rfl,qJ,afW,afX,qK⟩;have I:=St.lv z qK qJ;have W:=mG.trans qJ z.size;have dP:=I.fr (afW);have fA:=dP.fr (afX);have dI:=fA.p7.drop;have eJ:=dI.p6.drop;refine bN ?_;have wM:=eJ.bO;refine WC.dS (m:=5) eJ mixed<|(iu) nL St.g2<|(gM) ao St.g7<|(cQ)<|?_;rintro iX ⟨yl,fB⟩ _;refine WL.go rfl (OX.del da gK (As.gm fB.g4) rfl rfl fun ly zJ zK=>?_);have X:=fB.p4.jU zJ zK;refine nx ?_;refine EX.mV (.inr rfl) rfl<|?_;exact⟨_,_,rfl,W,(As.gr X.g2),(As.gr X.g1),X.p5.p1.p5.p5.k4⟩
 rw [if_neg (by rw [V];simp)] at y;simp only [Option.some.injEq] at y;subst y;have W:=mG;refine bN ?_;have wM:=O.bO;refine WC.dS (m:=5) O mixed<|(iu) nL St.g2<|(gM) ao St.g7<|(cQ)<|?_;rintro iS ⟨yl,z⟩ _;refine WL.go rfl (OX.del da gK (As.gm z.g4) rfl rfl fun iX Ts Tt=>?_);have I:=z.p4.jU Ts Tt;refine nx ?_;refine EX.mV (.inr rfl) rfl<|?_;exact⟨_,_,rfl,W,(As.gr I.g2),(As.gr I.g1),I.p5.p1.p5.p5.k4⟩
theorem Tu(c:aq aa) (d:x.ab.length≤1000000):∀f,UpC aa x D xb bb f:=by
 intro f
 induction f using Nat.strongRecOn with
 | _ f e=>
  intro w M Z s E k s' h hi hr a hk b i
  cases f with
  | zero=>simp [kV] at b
  | succ f=>exact KX c h hi hr a (by rw [a.aC];exact d) hk (fun g j=>e g (by omega)) b i
theorem CH(a:s.size≤1000) (w:World):Calls prog 192 #[.string s] w fun e w'=>∃(v:Int) (ok:Bool) (ev:Value),e=.returned (.tuple #[.int .i64 v,ev])∧(-9223372036854775808≤v∧v≤9223372036854775807)∧((ok=true∧ev=.nilIface)∨(ok=false∧∃t y,ev=.iface t y))∧(ok=false→ev=.iface 250 (.int .i64 2)∨ev=.iface 250 (.int .i64 1))∧aS [] w w':=by
 refine(Any.internal_strconv_Atoi_all {laysC172 with} s (by omega) w).mono fun e w' ⟨he,hw⟩=>?_
 have hc:aS [] w w':=by
  rcases hw with rfl | ⟨t,rfl⟩
  ·
   exact aS.refl _ _
  exact yg _ _ _
 cases h:Lib.atoiAll s.data.toList
 ·
  rename_i v
  rw [h] at he;exact⟨v,true,.nilIface,he,Lib.atoiAll_bounds h,.inl ⟨rfl,rfl⟩,(fun e=>by cases e),hc⟩
 ·
  rw [h] at he;exact⟨0,false,_,he,by decide,.inr ⟨rfl,_,_,rfl⟩,fun _=>.inl rfl,hc⟩
 rw [h] at he;exact⟨Lib.atoiSat s.data.toList,false,_,he,Lib.atoiSat_bounds _,.inr ⟨rfl,_,_,rfl⟩,fun _=>.inr rfl,hc⟩
set_option maxHeartbeats 400000
theorem vF :CR prog 140 #[.int .i64 n] w (.bool (decide (30≤n) && decide (n≤32))):=by
 refine enter func140 rfl ntmps140 rfl<|?_;have aP:=St.s0 w;refine fO ?_;refine WC.kQ (t:=2) (v:=.bool (decide (30≤n) && decide (n≤32))) aP ?_<|?_
 ·
  refine(dc) (fun g5=>?_) (fun g5=>?_)
  ·
   exact(gG) (by simp only [g5];first | rfl | simp) (aP)
  exact(gG) (by simp only [g5];first | rfl | simp) (aP)
 intro w1 st1;refine(bw) ?_;exact⟨rfl,(St.cg st1)⟩
theorem CI :CR prog 141 #[.int .i64 n] w (.bool (decide (1≤n) && decide (n≤22))):=by
 refine enter func141 rfl ntmps141 rfl<|?_;have aP:=St.s0 w;refine fO ?_;refine WC.kQ (t:=2) (v:=.bool (decide (1≤n) && decide (n≤22))) aP ?_<|?_
 ·
  refine(dc) (fun g5=>?_) (fun g5=>?_)
  ·
   exact(gG) (by simp only [g5];first | rfl | simp) (aP)
  exact(gG) (by simp only [g5];first | rfl | simp) (aP)
 intro w1 st1;refine(bw) ?_;exact⟨rfl,(St.cg st1)⟩
theorem cO :CR prog 40 #[k.val] w (.bool (ay k)):=by
 refine enter func40 rfl ntmps40 rfl<|?_;have aP:=St.s0 w;refine(dy) aP fun b1 w1 a b st1=>?_;refine cj ?_;refine WC.kQ (t:=2) (v:=.bool (ay k)) st1 ?_<|?_
 ·
  refine(a8) aN st1.b0<|(dc) (fun g6=>?_) (fun g6=>?_)
  ·
   exact(gG) (by unfold ay;simp only [g6];first | rfl | simp) (st1)
  refine(a8) aN st1.b0<|(dc) (fun g11=>?_) (fun g11=>?_)
  ·
   exact(gG) (by unfold ay;simp only [g6,g11];first | rfl | simp) (st1)
  refine(a8) aN st1.b0<|?_;exact(gG) (by unfold ay;simp only [g6,g11];first | rfl | simp) (st1)
 intro w2 st2;refine(bw) ?_;exact⟨rfl,(St.cg st2)⟩
theorem nR :CR prog 99 #[k.val] w (.bool (decide (k.kind=31) || decide (k.kind=32))):=by
 refine enter func99 rfl ntmps99 rfl<|?_;have aP:=St.s0 w;refine(dy) aP fun b1 w1 a b st1=>?_;refine cj ?_;refine WC.kQ (t:=2) (v:=.bool (decide (k.kind=31) || decide (k.kind=32))) st1 ?_<|?_
 ·
  refine(a8) aN st1.b0<|(dc) (fun g6=>?_) (fun g6=>?_)
  ·
   exact(gG) (by simp only [g6];first | rfl | simp) (st1)
  refine(a8) aN st1.b0<|?_;exact(gG) (by simp only [g6];first | rfl | simp) (st1)
 intro w2 st2;refine(bw) ?_;exact⟨rfl,(St.cg st2)⟩
theorem fL(hk:cZ k):CR prog 105 #[k.val] w (.bool (decide (k.kind=32))):=by
 refine enter func105 rfl ntmps105 rfl<|?_;have aP:=St.s0 w;refine(dy) aP fun b1 w1 a b st1=>?_;refine cj ?_;refine WC.kQ (t:=2) (v:=.bool (decide (k.kind=32))) st1 ?_<|?_
 ·
  refine(a8) aN st1.b0<|(dc) (fun g6=>?_) (fun g6=>?_)
  ·
   exact(gG) (by simp only [g6];first | done | rfl | simp) (st1)
  refine(a8) aN st1.b0<|(bX) XG (CI (n:=k.kind)) ?_;rintro _ w2 ⟨rfl,s2⟩;rw [show(decide (1≤k.kind) && decide (k.kind≤22))=false by(rcases hk with h | h <;> simp <;> omega)];have st2:=st1.step s2;exact(gG) (by simp only [g6];first | done | rfl | simp) (st2)
 intro w2 st2;refine(bw) ?_;exact⟨rfl,(St.cg st2)⟩
theorem lk{n:Nat}(hk:30≤k.kind∧k.kind≤32) (ht:k.text=itoa n) (hn:n≤99):CR prog 101 #[k.val] w (.int .i64 (n:Int)):=by
 obtain⟨kd,j⟩:=k;simp only at hk ht;subst ht;refine enter func101 rfl ntmps101 rfl<|?_;have aP:=St.s0 w;refine(dy) aP fun b1 w1 l o st1=>?_;refine(a8) aN st1.b0<|(bX) Pe (vF (n:=kd)) ?_;rintro _ w2 ⟨rfl,s2⟩;rw [show(decide (30≤kd) && decide (kd≤32))=true by(simp;omega)];have st2:=st1.step s2;refine cq ?_;refine WC.fi rfl<|(a8) fw st2.b0<|(eN) (Fc hn w2) st2 fun w3 q b=>?_;refine kR ?_;refine WC.dW (t:=31) (v:=.bool false) b ?_<|?_
 ·
  have u:=b.bO;refine WC.dB (m:=15) (E:=cB [(12,fun v _=>v=.string (itoa n))]) b (bm (⟨fun _ _ _ _ _ _ _ h=>h,trivial⟩)) mixed (by kernel_rfl)<|nx ?_;refine DP .r (fun _ g=>PV.QH zo rfl)<|nx ?_;refine DW.cS (t:=17) rfl (fun g17=>?_) (fun g17=>?_)
  ·
   refine(cQ) ?_;rintro w4 ⟨c,a⟩ _;exact(cz) (tG g17) (a)
  refine cj ?_;refine DW.cS (t:=21) rfl (fun g21=>?_) (fun g21=>?_)
  ·
   refine(cQ) ?_;rintro w4 ⟨c,a⟩ _;exact(cz) (tG (aj g17 g21)) (a)
  refine cj ?_;refine DW.cS (t:=25) rfl (fun d=>?_) (fun d=>?_)
  ·
   refine(cQ) ?_;rintro w4 ⟨c,a⟩ _;exact(cz) (tG (aj g17<|aj g21 d)) (a)
  refine nx ?_;refine DW.c0 (fun i g y=>jk (n:=(n:Int)) (by omega) (by omega) i)<|(iu) fw St.g0<|(cQ)<|?_;rintro w4 ⟨c,a⟩ ⟨_,_⟩;exact(cz) (tG (aj g17<|aj g21 d)) (a)
 intro w4 a;refine(aT) (fun e=>?_) fun e=>?_
 ·
  exact absurd e (by simp)
 ·
  refine(bw) ?_;exact⟨rfl,(St.cg a)⟩
 -- z B C.T
theorem ic{n:Nat}(hk:30≤k.kind∧k.kind≤32) (ht:k.text=itoa n) (hn:n≤99):CR prog 98 #[k.val] w (.bool true):=by
 refine enter func98 rfl ntmps98 rfl<|?_;have aP:=St.s0 w;refine(dy) aP fun b1 w1 b c st1=>?_;refine(a8) aN st1.b0<|(bX) Pe (vF (n:=k.kind)) ?_;rintro _ w2 ⟨rfl,s2⟩;rw [show(decide (30≤k.kind) && decide (k.kind≤32))=true by(simp;omega)];have st2:=st1.step s2;refine bN ?_;refine WC.oF rfl<|(aZ) ao st2.b0<|(eN) (lk (k:=k) hk ht hn) st2 fun w3 d a=>?_;refine(bw) ?_;exact⟨by simp,(St.cg a)⟩
theorem oq{a:Option Addr}{r c:Nat}(hr:fR A w a r c aa):CR prog 100 #[.slice a r c,.int .i64 n] w ((aL aa n).val):=by
 have hle:=hr.le;have hlen:=hr.len;refine enter func100 rfl ntmps100 rfl<|?_;have aP:=St.s0 w;refine(eW) aP fun b4 w1 o q st1=>?_;refine cj ?_;refine WC.dW (t:=17) (v:=.bool (decide (n<0) || (decide ((r:Int)≤n) || decide (99<n)))) st1 ?_<|?_
 ·
  refine(dc) (fun g8=>?_) (fun g8=>?_)
  ·
   exact(cz) (by simp only [g8];first | rfl | simp) (st1)
  refine(dc) (fun g14=>?_) (fun g14=>?_)
  ·
   exact(cz) (by simp only [g8,g14];first | rfl | simp) (st1)
  exact(cz) (by simp only [g8,g14];first | rfl | simp) (st1)
 intro w2 st2;refine(aT) (fun g17=>?_) fun g17=>?_
 ·
  have hk:aL aa n=eR:=by unfold aL;rw [if_pos (by simp at g17;omega)]
  refine(cI) hP st2 fun w3 u y b=>?_;refine(kS) ao b.b0<|?_;rw [hk];exact⟨rfl,(St.cg b)⟩
 simp at g17
 obtain⟨i,rfl⟩:∃i:Nat,n=i:=⟨n.toNat,by omega⟩
 have hi:i<aa.length:=by omega
 have hk:aL aa i=⟨if aF aa i then 32 else 31,itoa i⟩:=by unfold aL;rw [if_neg (by omega)];rfl
 have g:=bW hi;refine kR ?_;obtain⟨z,B,C,h,_,⟨q1,F,G,rfl,_⟩,l,_⟩:=(hr.ext (St.cg st2)).at (ak hi);refine cq ?_;refine WP .r (PV.dQ jj h rfl rfl (by omega))<|nx ?_;refine WP .r (PV.ld1 (j:=0) dH l rfl rfl)<|(aT) (fun g23=>?_) fun g23=>?_
 ·
  have e:aL aa i=⟨32,itoa i⟩:=by rw [hk,g,g23];rfl
  refine(eN) (jk (n:=(i:Int)) (by omega) (by omega) w2) st2 fun w3 m b=>?_;refine WP .r (PV.bB (us:=_) Cf rfl rfl rfl)<|(cI) hP b fun w4 H I d=>?_;refine(kS) ao d.b0<|?_;rw [e];exact⟨rfl,(St.cg d)⟩
 have e:aL aa i=⟨31,itoa i⟩:=by rw [hk,g,g23];rfl
 refine(eN) (jk (n:=(i:Int)) (by omega) (by omega) w2) st2 fun w3 m b=>?_;refine WP .r (PV.bB (us:=_) Cf rfl rfl rfl)<|(cI) hP b fun w4 J K d=>?_;refine(kS) ao d.b0<|?_;rw [e];exact⟨rfl,(St.cg d)⟩
set_option maxHeartbeats 400000
set_option maxRecDepth 1000000 in
theorem kP(b:s.size≤1000):CR prog 254 #[.string s] w (.string s):=by
 refine enter func254 rfl ntmps254 rfl<|?_;have aP:=St.s0 w;refine aX ?_;refine(aT) (fun g6=>?_) fun g6=>?_
 ·
  refine(bw) ?_;exact⟨by rw [show s=⟨#[]⟩ from ByteArray.ext (Array.eq_empty_of_size_eq_zero (show s.size=0 by have:=of_decide_eq_true g6;omega))],(St.cg aP)⟩
 have h0:s.size≠0:=by have:=of_decide_eq_false g6;omega
 obtain⟨i,hi,a⟩:=Option.map_eq_some_iff.1 (show(prog.info? 5).map (fun i=>(i.zero,i.size,i.bytes))=some (some (.int .u8 0),1,1) by kernel_rfl);simp only [Prod.mk.injEq] at a;obtain⟨c,h1,hb⟩:=a;obtain⟨u1,d,e,k1,k2,k3,hc⟩:=yK (S:=9) (it:=3) (ty1:=3) (ty2:=9) underlying211 hi c h1 hb underlying412 h0 b w;refine fO ?_;refine WL.go rfl (OX.VY rfl rfl rfl k1 ?_);refine ez ?_;refine WL.go rfl (OX.VZ rfl rfl rfl k2 ?_);refine de ?_;refine WP .r (PV.DT O2 0 (show some (⟨w.heap.size,0,none⟩:Addr)=some ⟨w.heap.size,0,none⟩ from rfl) rfl rfl rfl (by omega))<|bN ?_;refine WL.go rfl (OX.acG rfl rfl rfl k3 ?_);refine(bw) ?_;exact⟨rfl,hc⟩
theorem wO(d:s.size≤1000) (g:w.cell? ⟨2,0,none⟩=some .nilIface):Calls prog 224 #[.string f,.string s] w fun e w'=>∃b,e=.returned (.pointer (some ⟨b,0,none⟩))∧aS [] w w':=by
 have hr:w.rangeAt 2 0 [.nilIface]:=fun j v a=>by
  cases j with
  | zero=>simp at a;subst a;exact g
  | succ j=>simp at a
 refine enter func224 rfl ntmps224 rfl<|?_;have aP:=St.s0 w;refine fO ?_;have i:=aP.bO;refine WC.dB (m:=4) (E:=cB [(2,fun v _=>v=.string s)]) aP (bm (⟨fun _ _ _ _ _ _ _ h=>h,trivial⟩)) mixed (by kernel_rfl)<|bN ?_;refine DW.c0 (fun l c o=>kP d)<|?_;refine DP .r (fun _ c=>PV.mw zq (aW hr (St.cg c.2) (by simp)) rfl rfl)<|(cQ)<|?_;rintro w1 ⟨q,st1⟩ ⟨_,_⟩;refine WP .r (PV.bB (us:=[.string f,.string s,.nilIface]) GO rfl rfl rfl)<|(dy) st1 fun u w2 y z st2=>?_;refine(bw) ?_;exact⟨_,rfl,(St.cg st2)⟩
theorem wP(d:s.size≤1000) (g:w.cell? ⟨2,0,none⟩=some (.iface t p)):Calls prog 224 #[.string f,.string s] w fun e w'=>∃b,e=.returned (.pointer (some ⟨b,0,none⟩))∧aS [] w w':=by
 have hr:w.rangeAt 2 0 [(.iface t p)]:=fun j v a=>by
  cases j with
  | zero=>simp at a;subst a;exact g
  | succ j=>simp at a
 refine enter func224 rfl ntmps224 rfl<|?_;have aP:=St.s0 w;refine fO ?_;have i:=aP.bO;refine WC.dB (m:=4) (E:=cB [(2,fun v _=>v=.string s)]) aP (bm (⟨fun _ _ _ _ _ _ _ h=>h,trivial⟩)) mixed (by kernel_rfl)<|bN ?_;refine DW.c0 (fun l c o=>kP d)<|?_;refine DP .r (fun _ c=>PV.mw zq (aW hr (St.cg c.2) (by simp)) rfl rfl)<|(cQ)<|?_;rintro w1 ⟨q,st1⟩ ⟨_,_⟩;refine WP .r (PV.bB (us:=[.string f,.string s,(.iface t p)]) GO rfl rfl rfl)<|(dy) st1 fun u w2 y z st2=>?_;refine(bw) ?_;exact⟨_,rfl,(St.cg st2)⟩
theorem afY:prog.globalNamed "strconv.ErrSyntax" = some 2:=by kernel_rfl
theorem zN(ht:lE prog A w) (a:s.size≤1000):Calls prog 224 #[.string f,.string s] w fun e w'=>∃b,e=.returned (.pointer (some ⟨b,0,none⟩))∧aS [] w w':=by
 obtain⟨ev,c,d⟩:=ht.err (.inl rfl) afY
 rcases d with rfl | ⟨t,p,rfl⟩
 ·
  exact wO a c
 exact wP a c
theorem wQ(d:s.size≤1000) (g:w.cell? ⟨3,0,none⟩=some .nilIface):Calls prog 225 #[.string f,.string s] w fun e w'=>∃b,e=.returned (.pointer (some ⟨b,0,none⟩))∧aS [] w w':=by
 have hr:w.rangeAt 3 0 [.nilIface]:=fun j v a=>by
  cases j with
  | zero=>simp at a;subst a;exact g
  | succ j=>simp at a
 refine enter func225 rfl ntmps225 rfl<|?_;have aP:=St.s0 w;refine fO ?_;have i:=aP.bO;refine WC.dB (m:=4) (E:=cB [(2,fun v _=>v=.string s)]) aP (bm (⟨fun _ _ _ _ _ _ _ h=>h,trivial⟩)) mixed (by kernel_rfl)<|bN ?_;refine DW.c0 (fun l c o=>kP d)<|?_;refine DP .r (fun _ c=>PV.mw zq (aW hr (St.cg c.2) (by simp)) rfl rfl)<|(cQ)<|?_;rintro w1 ⟨q,st1⟩ ⟨_,_⟩;refine WP .r (PV.bB (us:=[.string f,.string s,.nilIface]) GO rfl rfl rfl)<|(dy) st1 fun u w2 y z st2=>?_;refine(bw) ?_;exact⟨_,rfl,(St.cg st2)⟩
theorem wR(d:s.size≤1000) (g:w.cell? ⟨3,0,none⟩=some (.iface t p)):Calls prog 225 #[.string f,.string s] w fun e w'=>∃b,e=.returned (.pointer (some ⟨b,0,none⟩))∧aS [] w w':=by
 have hr:w.rangeAt 3 0 [(.iface t p)]:=fun j v a=>by
  cases j with
  | zero=>simp at a;subst a;exact g
  | succ j=>simp at a
 refine enter func225 rfl ntmps225 rfl<|?_;have aP:=St.s0 w;refine fO ?_;have i:=aP.bO;refine WC.dB (m:=4) (E:=cB [(2,fun v _=>v=.string s)]) aP (bm (⟨fun _ _ _ _ _ _ _ h=>h,trivial⟩)) mixed (by kernel_rfl)<|bN ?_;refine DW.c0 (fun l c o=>kP d)<|?_;refine DP .r (fun _ c=>PV.mw zq (aW hr (St.cg c.2) (by simp)) rfl rfl)<|(cQ)<|?_;rintro w1 ⟨q,st1⟩ ⟨_,_⟩;refine WP .r (PV.bB (us:=[.string f,.string s,(.iface t p)]) GO rfl rfl rfl)<|(dy) st1 fun u w2 y z st2=>?_;refine(bw) ?_;exact⟨_,rfl,(St.cg st2)⟩
theorem afZ:prog.globalNamed "strconv.ErrRange" = some 3:=by kernel_rfl
theorem zO(ht:lE prog A w) (a:s.size≤1000):Calls prog 225 #[.string f,.string s] w fun e w'=>∃b,e=.returned (.pointer (some ⟨b,0,none⟩))∧aS [] w w':=by
 obtain⟨ev,c,d⟩:=ht.err (.inr rfl) afZ
 rcases d with rfl | ⟨t,p,rfl⟩
 ·
  exact wQ a c
 exact wR a c
theorem CJ(ht:lE prog A w) (a:s.size≤1000):Calls prog 193 #[.string f,.string s,.int .i64 0,.int .i64 0,.iface 250 (.int .i64 2)] w fun e w'=>∃b,e=.returned (.iface 253 (.pointer (some ⟨b,0,none⟩)))∧aS [] w w':=by
 refine enter func193 rfl ntmps193 rfl<|?_;have aP:=St.s0 w;refine aX ?_;refine bN ?_;refine WP .r (PV.Jm underlying250 (by intro ms h;cases h) rfl)<|WP .r (PV.QJ underlying184 (by kernel_rfl) underlying250 rfl rfl)<|(aT) (fun g12=>?_) fun g12=>?_
 ·
  refine(bX) X9 (zN (ht.ext (St.cg aP)) a) ?_;rintro _ w1 ⟨b,rfl,s1⟩;have st1:=aP.step s1;refine WP .r (PV.Jm underlying253 (by intro ms h;cases h) rfl)<|(bw) ?_;exact⟨_,rfl,(St.cg st1)⟩
 ·
  exact dz g12
 -- g i j c.0 c.1 d.2 d.3 l
theorem CK(ht:lE prog A w) (a:s.size≤1000):Calls prog 193 #[.string f,.string s,.int .i64 0,.int .i64 0,.iface 250 (.int .i64 1)] w fun e w'=>∃b,e=.returned (.iface 253 (.pointer (some ⟨b,0,none⟩)))∧aS [] w w':=by
 refine enter func193 rfl ntmps193 rfl<|?_;have aP:=St.s0 w;refine aX ?_;refine bN ?_;refine WP .r (PV.Jm underlying250 (by intro ms h;cases h) rfl)<|WP .r (PV.QJ underlying184 (by kernel_rfl) underlying250 rfl rfl)<|(aT) (fun g12=>?_) fun g12=>?_
 ·
  exact dz g12
 ·
  refine bN ?_;refine WP .r (PV.Jm underlying250 (by intro ms h;cases h) rfl)<|WP .r (PV.QJ underlying184 (by kernel_rfl) underlying250 rfl rfl)<|(aT) (fun g19=>?_) fun g19=>?_
  ·
   refine(bX) Ya (zO (ht.ext (St.cg aP)) a) ?_;rintro _ w1 ⟨b,rfl,s1⟩;have st1:=aP.step s1;refine WP .r (PV.Jm underlying253 (by intro ms h;cases h) rfl)<|(bw) ?_;exact⟨_,rfl,(St.cg st1)⟩
  exact dz g19
 -- d g c.2 c.3 i
theorem CL{ev:Value}(ht:lE prog A w) (a:s.size≤1000) (he:ev=.iface 250 (.int .i64 2)∨ev=.iface 250 (.int .i64 1)):Calls prog 193 #[.string f,.string s,.int .i64 0,.int .i64 0,ev] w fun e w'=>∃b,e=.returned (.iface 253 (.pointer (some ⟨b,0,none⟩)))∧aS [] w w':=by
 rcases he with rfl | rfl
 ·
  exact CJ ht a
 exact CK ht a
theorem KY(ht:lE prog A w) (a:s.size≤1000):Calls prog 142 #[.string s] w fun e w'=>∃(v:Int) (ok:Bool) (ev:Value),e=.returned (.tuple #[.int .i64 v,ev])∧(-9223372036854775808≤v∧v≤9223372036854775807)∧((ok=true∧ev=.nilIface)∨(ok=false∧∃t y,ev=.iface t y))∧aS [] w w':=by
 refine enter func142 rfl ntmps142 rfl<|?_;have aP:=St.s0 w;refine(bX) XX (CH a w) ?_;rintro _ w1 ⟨v,ok,ev,rfl,c,d,g,s1⟩;have st1:=aP.step s1;refine kE ?_;refine WP .r (PV.VW zo rfl d)<|(aT) (fun g12=>?_) fun g12=>?_
 ·
  refine(bX) XY (CL (ht.ext (St.cg st1)) a (g (by simpa using g12))) ?_;rintro _ w2 ⟨b,rfl,s2⟩;have st2:=st1.step s2;refine(AJ) ?_;exact⟨v,false,_,rfl,c,.inr ⟨rfl,_,_,rfl⟩,(St.cg st2)⟩
 refine(AJ) ?_;exact⟨v,true,.nilIface,rfl,c,.inl ⟨rfl,rfl⟩,(St.cg st1)⟩
end Go.Rc

