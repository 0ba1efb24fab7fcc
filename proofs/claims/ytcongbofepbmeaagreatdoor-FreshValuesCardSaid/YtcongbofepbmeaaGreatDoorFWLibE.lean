/- Walks over the program, part WLibE. Conditions: as each theorem says. -/
import Derived.Test.YtcongbofepbmeaaGreatDoorFFacts
import Derived.Test.YtcongbofepbmeaaGreatDoorFWK
import Derived.Test.YtcongbofepbmeaaGreatDoorFBe
import Derived.Test.YtcongbofepbmeaaGreatDoorFWB
import Derived.Test.YtcongbofepbmeaaGreatDoorFBd
import Derived.Test.YtcongbofepbmeaaGreatDoorShelf
import Derived.Test.YtcongbofepbmeaaGreatDoorFWD
import Derived.Test.YtcongbofepbmeaaGreatDoorFBf
import Derived.Test.YtcongbofepbmeaaGreatDoorFBb
set_option linter.all false
namespace Go.Rc
open Go Go.Proofs Go.Proofs.Tryz
variable {aa:List aA}{x:cA}{D:SD}{xb bb:Nat}{w:World}{M Z A:Nat→Prop}{s f:ByteArray}{E:EA}{k:Key}{s':ES}{n:Int}{t:TypeId}{p:Value}
set_option maxHeartbeats 400000
def Xm(aa:List aA) (x:cA) (D:SD) (xb bb f:Nat):Prop:=∀(w:World) (M Z:Nat→Prop) (s:ES) (E:EA) (k:Key) (s':ES),St w M Z w [As.blk xb 151 (E.cells D.s bb s),As.ja prog 116 aa x D,As.map Key.val bb s.busy,As.os RR.key 29 2 E.a3 E.n3 E.c3 s.bM]→Rd RR.az 4 Z w E.a1 E.n1 E.c1 s.b.ad→Rd RR.ed 8 Z w E.a2 E.n2 E.c2 s.b.ah→Good aa x.ad s→eu aa k→kB aa (valOf aa x.ad) f s k=some s'→s'.bM.length≤1000000→
 Calls prog 108 #[.pointer (some ⟨xb,0,none⟩),k.val] w fun e w'=>∃(E':EA) (Z':Nat→Prop),e=.returned (.tuple #[])∧bA w.heap.size Z Z'∧Rd RR.az 4 Z' w' E'.a1 E'.n1 E'.c1 s'.b.ad∧Rd RR.ed 8 Z' w' E'.a2 E'.n2 E'.c2 s'.b.ah∧St w M Z' w' [As.blk xb 151 (E'.cells D.s bb s'),As.ja prog 116 aa x D,As.map Key.val bb s'.busy,As.os RR.key 29 2 E'.a3 E'.n3 E'.c3 s'.bM]
set_option maxHeartbeats 1600000 in
theorem Bu{s:ES}{f:Nat}{r:Bool}(hR:aq aa) (gg:St w M Z w [As.blk xb 151 (E.cells D.s bb s),As.ja prog 116 aa x D,As.map Key.val bb s.busy,As.os RR.key 29 2 E.a3 E.n3 E.c3 s.bM]) (hi:Rd RR.az 4 Z w E.a1 E.n1 E.c1 s.b.ad) (hr:Rd RR.ed 8 Z w E.a2 E.n2 E.c2 s.b.ah) (DN:Good aa x.ad s) (Lv:s.b.ad.length≤1000000) (CU:∀g,g<f→Xm aa x D xb bb g) (ID:cw aa (valOf aa x.ad) f s k 0=some (s',r)) (yA:s'.bM.length≤1000000):Calls prog 183 #[.pointer (some ⟨xb,0,none⟩),k.val] w fun e w'=>∃(q:EA) (Z':Nat→Prop),e=.returned (.bool r)∧bA w.heap.size Z Z'∧Rd RR.az 4 Z' w' q.a1 q.n1 q.c1 s'.b.ad∧Rd RR.ed 8 Z' w' q.a2 q.n2 q.c2 s'.b.ah∧St w M Z' w' [As.blk xb 151 (q.cells D.s bb s'),As.ja prog 116 aa x D,As.map Key.val bb s'.busy,As.os RR.key 29 2 q.a3 q.n3 q.c3 s'.bM]:=by
 refine enter func183 rfl ntmps183 rfl<|?_;have aR:=gg;have st1:=aR.fr hi;have st2:=st1.fr hr;refine(dE) st2 fun b3 w1 GS xy j5=>?_;refine j8 ?_;refine WC.ie (σ:=Nat × ES × EA × Nat × (Nat→Prop)) (dm:=fun(u,s1,a,ix,O)=>[(0,.pointer (some ⟨xb,0,none⟩)),(3,.pointer (some ⟨b3,0,none⟩)),(5,.int .i64 (ix:Int))]) (F:=fun(u,s1,a,ix,O)=>[As.blk xb 151 (a.cells D.s bb s1),As.map Key.val bb s1.busy,As.os RR.key 29 2 a.a3 a.n3 a.c3 s1.bM,As.ro RR.az 4 a.a1 a.n1 a.c1 s1.b.ad,As.ro RR.ed 8 a.a2 a.n2 a.c2 s1.b.ah]) (I:=fun(u,s1,a,ix,O)=>(cw aa (valOf aa x.ad) u s1 k ix=some (s',r))∧(Good aa x.ad s1)∧(u≤f)∧(bA w.heap.size Z O)∧True) (μ:=fun(u,s1,a,ix,O)=>u) (Zf:=fun(u,s1,a,ix,O)=>O) (f,s,E,0,Z) (j5.p1.p2.p6.p6.p5) Sub.t (⟨ID,DN,Nat.le_refl _,bA.refl _ _,trivial⟩)<|?_;rintro⟨u,s1,a,ix,O⟩ w2 z ⟨d,y,hfu,R,_⟩;simp only [CA,NA] at z d y hfu R ⊢
 obtain⟨S,rfl⟩:∃g,u=g+1:=by cases u with | zero=>simp [cw] at d | succ g=>exact⟨g,rfl⟩
 unfold cw at d
 have Xn:=y.len
 have aaT:s1.b.ad.length≤1000000:=by rw [y.az,← DN.az];exact Lv
 refine(aU) xt z.b0<|(aN) (fun g17=>?_) fun g17=>?_
 ·
  simp at g17
  rw [if_neg (by simp [g17])] at d;refine cX ?_;have Gl:=z.cj;have IE:=z.j4;have IF:=z.size;refine WC.om (m:=11) [9] (E:=bK [(6,fun v _=>∃f1 f2 f3,v=.tuple #[.agg ((aF s1.b.ah k).row f1 f2 f3).toArray,.bool (aH s1.b.ah k).isSome]),(10,PB w2.heap.size 34 [.int .i64 0,.string ⟨#[]⟩,.string ⟨#[]⟩,.slice none 0 0,.int .i64 0,.int .i64 0,.int .i64 0,.bool false])]) z (aS (⟨fun _ _ _ _ _ _ _ h=>h,⟨fun _ _ _ _ _ _ c h=>PB.st Gl c h,trivial⟩⟩)) mixed (by kernel_rfl) rfl ?_;refine cX ?_;refine DP .r (fun _ i=>PV.ld1 (j:=3) dL (cC.range (As.gb i.2.g0)) rfl rfl)<|(gx) ak St.g5<|?_;refine DW.e rfl rfl rfl rfl rfl (fun wx i hF=>OX.call kl rfl rfl ((dN (k:=k) (As.gr i.2.g4)).mono ?_))<|?_
  ·
   rintro _ wy ⟨f1,f2,f3,rfl,hy⟩;exact⟨_,rfl,⟨Nat.le_trans i.1 hy.size,i.2.step hy⟩,hy.p0,_,rfl,⟨f1,f2,f3,rfl⟩⟩
  rintro _ wz _ ⟨f1,f2,f3,rfl⟩;refine cL ?_;refine DW.e rfl rfl rfl rfl rfl (fun wx i hF=>OX.alloc oG rfl fun b wy C hb=>⟨⟨Nat.le_trans i.1 C.ext.size,i.2.step C.ext⟩,C.ext.p0,_,rfl,_,rfl,Nat.le_trans i.1 C.ge,hb⟩)<|?_;rintro _ wz _ ⟨b6,rfl,_,_⟩;refine(cG) ?_;rintro w3 ⟨vP,jD⟩ ⟨yz,⟨_,_⟩⟩;have jC:=jD.pW yz Gl IE IF;refine(cD) gp jC fun w4 ko ly ij=>?_;refine nx ?_;refine WL.nil (EX.np ?_);refine cL ?_;refine WC.cI (t:=33) (v:=.bool (!(aH s1.b.ah k).isSome || (aF s1.b.ah k).bJ)) ij ?_<|?_
  ·
   refine(bW) (fun Rr=>?_) (fun Rr=>?_)
   ·
    exact(br) (by simp only [Rr];first | rfl | simp) (ij)
   refine(aU) dM ij.b0<|?_;exact(br) (by simp only [Rr];first | rfl | simp) (ij)
  intro w5 T;refine(aN) (fun PY=>?_) fun PY=>?_
  ·
   rw [if_pos PY] at d;simp only [Option.some.injEq,Prod.mk.injEq] at d;obtain⟨l,o⟩:=d;subst l;subst o;refine(bm) ?_;exact⟨a,_,rfl,R,(As.gr T.g4),(As.gr T.g5),T.p3.p3.p7.p4.k4⟩
  rw [if_neg (by rw [PY];simp)] at d;refine cX ?_;have IB:=T.cj;refine WC.dS (m:=7) T mixed<|(gT) aK St.g0<|cX ?_;refine DP .r (fun _ i=>PV.ld1 (j:=1) aK (cC.range (As.gb i.2.g1)) rfl rfl)<|(cG)<|?_;rintro w6 ⟨vR,U⟩ _;refine(aN) (fun V=>?_) fun V=>?_
  ·
   simp at V
   rw [if_pos V] at d;simp only [Option.some.injEq,Prod.mk.injEq] at d;obtain⟨l,o⟩:=d;subst l;subst o;refine(bm) ?_;exact⟨a,_,rfl,R,(As.gr U.g4),(As.gr U.g5),U.p3.p3.p7.p4.k4⟩
  simp at V
  rw [if_neg V] at d;refine cL ?_;have Pu:=U.cj;refine WC.dS (m:=11) U mixed<|cX ?_;refine DP .r (fun _ i=>PV.ld1 (j:=3) dL (cC.range (As.gb i.2.g1)) rfl rfl)<|cX ?_;refine DP .r (fun _ i=>PV.ld1 (j:=1) aK (cC.range (As.gb i.2.g1)) rfl rfl)<|(gx) ak St.g6<|(cG)<|?_;rintro w7 ⟨mh,ef⟩ _;have dw:=ef;refine(bL) Mx (uN dw.e0 (As.gr dw.g5) (by omega)) ?_;rintro _ w8 ⟨q1,q2,q3,Z2,rfl,uO,mi⟩;have dz:=St.lv dw mi uO;have PX:=ou s1.b.ah s1.b.ab k;have Ly:=St.bB mi;have sg:=dw.size;have aaU:=R.trans uO sg;have db:=dz.a8 (by omega);have nK:=aaU.trans (bA.dx (F:=fun x=>x∈aG q1) Ly) sg;refine kQ ?_;refine WP .r (PV.ld1 (j:=3) dL db.b2 rfl rfl)<|nx ?_;have W:=db;refine(bL) Mw (px W.e0 (As.gr W.g6) (As.gr W.g0) (xX y (by omega))) ?_;rintro _ w9 ⟨p1,p2,p3,Z3,rfl,pD,si⟩;have Q:=St.lv W si pD;have X:=nK.trans pD W.size;have Ha:=((As.gs Q.g0)).len;have hca:=xY y (group:=(aC s1.b.ah s1.b.ab k)) (by omega);refine(aN) (fun g64=>?_) fun g64=>?_
  ·
   simp at g64
   have JK:(ct s1.b.ah (aC s1.b.ah s1.b.ab k))[ix]?=none:=List.getElem?_eq_none (by omega);rw [JK] at d;simp only [] at d;simp only [Option.some.injEq,Prod.mk.injEq] at d;obtain⟨l,o⟩:=d;subst l;subst o;refine(il) aJ Q.b3<|nx ?_;have G:=Q;refine(bL) ET (lT G.e0 (As.gr G.g6) (As.gr G.g7) (As.gr G.g1) (by omega) (by omega)) ?_;rintro _ jB ⟨m1,m2,m3,m4,m5,m6,Z4,rfl,Y,rL⟩;have K:=St.lv G rL Y;have uP:=X.trans Y G.size;have Gy:=St.bB rL;have Gz:=St.bB rL.p1;have uQ:=G.size;refine bz ?_;refine WL.go rfl (OX.NG eJ (As.gb K.g5) rfl rfl rfl rfl rfl fun iV r8 mr=>?_);have L:=K.p5.zH r8 mr;refine nx ?_;have H:=L.sY (B:=As.blk xb 151 (EA.cells ⟨m1,m4,a.a3,m2,m3,m5,m6,a.n3,a.c3⟩ D.s bb {s1 with b:=cE s1.b (aC s1.b.ah s1.b.ab k) false})) (rfl)
   have hml:(cE s1.b (aC s1.b.ah s1.b.ab k) false).ah.length=s1.b.ah.length:=by simp [cE]
   have PR:(cE s1.b (aC s1.b.ah s1.b.ab k) false).ad=s1.b.ad:=rfl;have ew:=H.p1.a8 (by rw [PR];omega);have N:=ew.p2.a8 (by omega);have zc:=(uP.trans (bA.dx (F:=fun x=>x∈aG m1) Gy) uQ).trans (bA.dx (F:=fun x=>x∈aG m4) Gz) uQ;refine(bm) ?_;exact⟨⟨m1,m4,a.a3,m2,m3,m5,m6,a.n3,a.c3⟩,_,rfl,zc,(As.gr N.g1),(As.gr N.g0),N.p7.p7.l9.p5.k4⟩
  simp at g64
  obtain⟨ch,oZ⟩:∃ch,(ct s1.b.ah (aC s1.b.ah s1.b.ab k))[ix]?=some ch:=⟨_,ai (by omega)⟩;rw [oZ] at d;simp only [] at d;have GX:=fy y oZ;refine cL ?_;obtain⟨ia,ck⟩:=Ow.addr (As.gs Q.g0) oZ;refine cL ?_;refine WP .r (PV.ei H7 ck rfl rfl (by omega))<|(aT) H0 (Ow.mb (As.gs Q.g0) (by omega) ck oZ)<|(ff) Q fun Rp jB Gu Gv G=>?_;refine(cD) Ml G fun iV Bc wQ K=>?_;refine(il) ak K.b0<|(dH) (Bt (k:=ch.read) (sb:=D.s) (s:=s1) (E:=a) (As.gb K.g4) (As.gm K.g5) y.busy (As.gr K.g8)) K fun mu s12 L=>?_;refine(aN) (fun UQ=>?_) fun UQ=>?_
  ·
   simp at UQ
   rw [if_pos UQ] at d;obtain⟨t,MQ,IH⟩:=Option.bind_eq_some_iff.1 d;have JA:=(bS hR S).1 _ _ _ MQ y GX;have hgc:=(bS hR S).2.1 _ _ _ _ _ IH JA.1;refine(il) ak L.b0<|?_;have H:=L.p6.p6.pQ.p7;refine(bL) Ih (CU S (by omega) _ _ _ _ _ _ _ H.e4 (As.gr H.g8) (As.gr H.g9) y GX MQ (by have:=hgc.2.bM;omega)) ?_;rintro _ oL ⟨E2,Z5,rfl,Bv,Lz,hr5,II⟩;have ew:=St.lv H II Bv;have zc:=X.trans Bv H.size;have N:=ew.fr (Lz);have dK:=N.fr (hr5);have P:=dK.pQ.drop;have J:=P.pQ.drop;refine cS ?_;refine dY (S,t,E2,ix,Z5) ⟨J.p6.drop.p6.drop.p6.drop.p6.drop.p6.p1.p2.p6.p6.p5,⟨IH,JA.1,by omega,zc,trivial⟩⟩
  simp at UQ
  rw [if_neg (by rw [UQ];simp)] at d;refine cL ?_;have PZ:=L.cj;have UR:=L.j4;have US:=L.size;refine WC.om (m:=12) [10] (E:=bK [(7,fun v _=>∃f1 f2 f3,v=.tuple #[.agg ((aF s1.b.ah ch.eO).row f1 f2 f3).toArray,.bool (aH s1.b.ah ch.eO).isSome]),(11,PB mu.heap.size 34 [.int .i64 0,.string ⟨#[]⟩,.string ⟨#[]⟩,.slice none 0 0,.int .i64 0,.int .i64 0,.int .i64 0,.bool false])]) L (aS (⟨fun _ _ _ _ _ _ _ h=>h,⟨fun _ _ _ _ _ _ c h=>PB.st PZ c h,trivial⟩⟩)) mixed (by kernel_rfl) rfl ?_;refine cX ?_;refine DP .r (fun _ i=>PV.ld1 (j:=3) dL (cC.range (As.gb i.2.g4)) rfl rfl)<|(vE) ak St.g0<|?_;refine DW.e rfl rfl rfl rfl rfl (fun wx i hF=>OX.call kl rfl rfl ((dN (k:=ch.eO) (As.gr i.2.g8)).mono ?_))<|?_
  ·
   rintro _ wy ⟨f1,f2,f3,rfl,hy⟩;exact⟨_,rfl,⟨Nat.le_trans i.1 hy.size,i.2.step hy⟩,hy.p0,_,rfl,⟨f1,f2,f3,rfl⟩⟩
  rintro _ wz _ ⟨f1,f2,f3,rfl⟩;refine cL ?_;refine DW.e rfl rfl rfl rfl rfl (fun wx i hF=>OX.alloc oG rfl fun b wy C hb=>⟨⟨Nat.le_trans i.1 C.ext.size,i.2.step C.ext⟩,C.ext.p0,_,rfl,_,rfl,Nat.le_trans i.1 C.ge,hb⟩)<|?_;rintro _ wz _ ⟨b11,rfl,_,_⟩;refine(cG) ?_;rintro oL ⟨UT,H⟩ ⟨aaY,⟨_,_⟩⟩;have ew:=H.pW aaY PZ UR US;refine(cD) gp ew fun uL Lg Lh N=>?_;refine nx ?_;refine WL.nil (EX.np ?_);refine cL ?_;have aia:=N.cj;refine WC.cJ (m:=13) (E:=bK [(10,fun v _=>v=.int .i64 (bR (valOf aa x.ad) s1.b ch.read))]) N (aS (⟨fun _ _ _ _ _ _ _ h=>h,trivial⟩)) mixed (by kernel_rfl)<|(gT) H6 St.g5<|(vE) aJ St.g5<|(vE) ak St.g1<|?_;refine DW.e rfl rfl rfl rfl rfl (fun wx i hF=>OX.call MB rfl rfl ((ob (k:=ch.read) hR GX (i.2.one (.tail _ (.tail _ (.tail _ (.tail _ (.tail _ (.tail _ (.tail _ (.tail _ (.tail _ (.tail _ (.tail _ (.head _))))))))))))) (As.gr i.2.g8) (As.gr i.2.g9)).mono ?_))<|?_
  ·
   rintro _ wy ⟨rfl,hy⟩;exact⟨_,rfl,⟨Nat.le_trans i.1 hy.bT.size,i.2.wW jj hy⟩,hy.bT.mono (fun _ _ hx=>Eg jj hx),_,rfl,rfl⟩
  rintro _ wz _ rfl;refine(gT) aK St.g0<|(cG)<|?_;rintro pB ⟨UU,dK⟩ ⟨_,_⟩;refine(aN) (fun LA=>?_) fun LA=>?_
  ·
   simp at LA
   rw [if_pos LA] at d;refine(aT) ak (cC.range (As.gb dK.g10))<|(dH) (cQ (k:=k)) dK fun sD Xd P=>?_;refine(aN) (fun P0=>?_) fun P0=>?_
   ·
    rw [if_pos P0] at d;simp only [Option.some.injEq,Prod.mk.injEq] at d;obtain⟨l,o⟩:=d;subst l;subst o;refine(il) aJ P.b5<|nx ?_;have J:=P;refine(bL) ET (lT J.e0 (As.gr J.g8) (As.gr J.g9) (As.gr J.g3) (by omega) (by omega)) ?_;rintro _ Bp ⟨m1,m2,m3,m4,m5,m6,Z4,rfl,Y,Bw⟩;have fA:=St.lv J Bw Y;have uP:=X.trans Y J.size;have Gy:=St.bB Bw;have Gz:=St.bB Bw.p1;have uQ:=J.size;refine bz ?_;refine WL.go rfl (OX.NG eJ (As.gb fA.g7) rfl rfl rfl rfl rfl fun y8 JB Cs=>?_);have fZ:=fA.p7.zH JB Cs;refine nx ?_;have eE:=fZ.sY (B:=As.blk xb 151 (EA.cells ⟨m1,m4,a.a3,m2,m3,m5,m6,a.n3,a.c3⟩ D.s bb {s1 with b:=cE s1.b (aC s1.b.ah s1.b.ab k) true})) (rfl)
    have hml:(cE s1.b (aC s1.b.ah s1.b.ab k) true).ah.length=s1.b.ah.length:=by simp [cE]
    have PR:(cE s1.b (aC s1.b.ah s1.b.ab k) true).ad=s1.b.ad:=rfl;have fc:=eE.p1.a8 (by rw [PR];omega);have mU:=fc.p2.a8 (by omega);have zc:=(uP.trans (bA.dx (F:=fun x=>x∈aG m1) Gy) uQ).trans (bA.dx (F:=fun x=>x∈aG m4) Gz) uQ;refine(bm) ?_;exact⟨⟨m1,m4,a.a3,m2,m3,m5,m6,a.n3,a.c3⟩,_,rfl,zc,(As.gr mU.g1),(As.gr mU.g0),mU.p9.p9.rY.p5.k4⟩
   rw [if_neg (by rw [P0];simp)] at d;simp only [Option.some.injEq,Prod.mk.injEq] at d;obtain⟨l,o⟩:=d;subst l;subst o;refine aO ?_;refine(bm) ?_;exact⟨a,_,rfl,X,(As.gr P.g8),(As.gr P.g9),P.p7.p7.l9.p8.k4⟩
  simp at LA
  rw [if_neg (by omega)] at d;refine iC ?_;refine dY (S,s1,a,ix+1,Z3) ⟨dK.drop.drop.drop.drop.drop,⟨d,y,by omega,X,trivial⟩⟩
 simp at g17
 rw [if_pos g17] at d;simp only [Option.some.injEq,Prod.mk.injEq] at d;obtain⟨l,o⟩:=d;subst l;subst o;refine(bm) ?_;exact⟨a,_,rfl,R,(As.gr z.g3),(As.gr z.g4),z.p2.p2.p6.p3.k4⟩
set_option maxHeartbeats 1600000 in
theorem GA{s:ES}{f:Nat}(P:aq aa) (gg:St w M Z w [As.blk xb 151 (E.cells D.s bb s),As.ja prog 116 aa x D,As.map Key.val bb s.busy,As.os RR.key 29 2 E.a3 E.n3 E.c3 s.bM]) (hi:Rd RR.az 4 Z w E.a1 E.n1 E.c1 s.b.ad) (hr:Rd RR.ed 8 Z w E.a2 E.n2 E.c2 s.b.ah) (DN:Good aa x.ad s) (Lv:s.b.ad.length≤1000000) (Kh:gj aa k 0) (CU:∀g,g<f→Xm aa x D xb bb g) (ID:fQ aa (valOf aa x.ad) f s k [] []=some s') (yA:s'.bM.length≤1000000):Calls prog 184 #[.pointer (some ⟨xb,0,none⟩),k.val] w fun e w'=>∃(H:EA) (Z':Nat→Prop),e=.returned (.tuple #[])∧bA w.heap.size Z Z'∧Rd RR.az 4 Z' w' H.a1 H.n1 H.c1 s'.b.ad∧Rd RR.ed 8 Z' w' H.a2 H.n2 H.c2 s'.b.ah∧St w M Z' w' [As.blk xb 151 (H.cells D.s bb s'),As.ja prog 116 aa x D,As.map Key.val bb s'.busy,As.os RR.key 29 2 H.a3 H.n3 H.c3 s'.bM]:=by
 refine enter func184 rfl ntmps184 rfl<|?_;have aR:=gg;have st1:=aR.fr hi;have st2:=st1.fr hr;have j5:=st2.df RR.key 29 2;have i6:=j5.df RR.str 9 1;refine(dE) i6 fun b3 w1 GS xy jD=>?_;refine aO ?_;refine nx ?_;refine WC.ie (σ:=Nat × ES × EA × (List Key) × (List ByteArray) × (Nat→Prop) × (Option Addr) × Nat × Nat × (Option Addr) × Nat × Nat) (dm:=fun(J,s1,i,reads,ae,T,z,C,L,Q,N,R)=>[(0,.pointer (some ⟨xb,0,none⟩)),(3,.pointer (some ⟨b3,0,none⟩)),(4,.slice z C L),(5,.slice Q N R)]) (F:=fun(J,s1,i,reads,ae,T,z,C,L,Q,N,R)=>[As.os RR.key 29 2 z C L (reads),As.os RR.str 9 1 Q N R (ae),As.blk xb 151 (i.cells D.s bb s1),As.map Key.val bb s1.busy,As.os RR.key 29 2 i.a3 i.n3 i.c3 s1.bM,As.ro RR.az 4 i.a1 i.n1 i.c1 s1.b.ad,As.ro RR.ed 8 i.a2 i.n2 i.c2 s1.b.ah]) (I:=fun(J,s1,i,reads,ae,T,z,C,L,Q,N,R)=>(fQ aa (valOf aa x.ad) J s1 k reads ae=some s')∧(Good aa x.ad s1)∧(J≤f)∧(bA w.heap.size Z T)∧(gj aa k ae.length)∧(reads.length=ae.length)∧(∀a∈reads,eu aa a)∧(∀y∈aG z,w.heap.size≤y)∧True) (μ:=fun(J,s1,i,reads,ae,T,z,C,L,Q,N,R)=>J) (Zf:=fun(J,s1,i,reads,ae,T,z,C,L,Q,N,R)=>T) (f,s,E,[],[],Z,none,0,0,none,0,0) (jD.p3.p4.p8.p8.p7.p6.p7) Sub.t (⟨ID,DN,Nat.le_refl _,bA.refl _ _,Kh,rfl,(fun a u=>by cases u),(by simp [aG]),trivial⟩)<|?_;rintro⟨J,s1,i,reads,ae,T,z,C,L,Q,N,R⟩ w2 G ⟨q,GO,hfu,hZ,GB,hlen,UW,Xo,_⟩;simp only [CA,NA] at G q GO hfu hZ GB hlen UW Xo ⊢
 obtain⟨Rt,rfl⟩:∃g,J=g+1:=by cases J with | zero=>simp [fQ] at q | succ g=>exact⟨g,rfl⟩
 unfold fQ at q
 have Xn:=GO.len
 have aaT:s1.b.ad.length≤1000000:=by rw [GO.az,← DN.az];exact Lv
 have h6:=GB.le P;have GY:=((As.gs G.g0)).len;have vN:=((As.gs G.g1)).len;have Ha:=((As.gr G.g6)).len;refine(aU) xt G.b2<|(aN) (fun g13=>?_) fun g13=>?_
 ·
  simp at g13
  rw [if_neg (by simp [g13])] at q;refine cX ?_;obtain⟨o,GV⟩:∃t,aL aa k ae=t:=⟨_,rfl⟩;rw [GV] at q;have UX:=@gj.next aa k P ae GB;rw [GV] at UX;have UY:=G.cj;have aaZ:=G.j4;have aa0:=G.size;refine WC.cJ (m:=11) (E:=bK [(9,fun v _=>v=o.val),(10,PB w2.heap.size 55 [.bool false,.string ⟨#[]⟩,.int .i64 0,.string ⟨#[]⟩])]) G (aS (⟨fun _ _ _ _ _ _ _ h=>h,⟨fun _ _ _ _ _ _ c h=>PB.st UY c h,trivial⟩⟩)) mixed (by kernel_rfl)<|cL ?_;refine DP .r (fun _ d=>PV.nI H6 (cC.range (As.gb d.2.g2)) rfl rfl)<|bz ?_;refine DP .r (fun _ d=>V1 jT (cC.range (As.gvb (d.2.g8))) .r)<|(gx) ak St.g7<|nx ?_;refine DW.c1 (fun U d S=>dO (k:=k) (SD.ht (As.gv (d.2.g8))) (SD.hu (As.gv (d.2.g8))) (Ow.rd (As.gs d.2.g1) (by omega)) P.hb (GB.not P).1) (by rw [GV])<|?_;refine DW.e rfl rfl rfl rfl rfl (fun U d S=>OX.alloc vM rfl fun b wy l hb=>⟨⟨Nat.le_trans d.1 l.ext.size,d.2.step l.ext⟩,l.ext.p0,_,rfl,_,rfl,Nat.le_trans d.1 l.ge,hb⟩)<|?_;rintro _ wz _ ⟨b6,rfl,_,_⟩;refine(cG) ?_;rintro w3 ⟨uQ,ij⟩ ⟨yz,⟨_,_⟩⟩;have ju:=ij.pW yz UY aaZ aa0;refine(cD) hY ju fun w4 ko ly V=>?_;refine(aU) dM V.b0<|(aN) (fun MR=>?_) fun MR=>?_
  ·
   rw [if_pos MR] at q;refine bz ?_;have IB:=V.cj;have P1:=V.j4;have P2:=V.size;refine WC.om (m:=11) [9] (E:=bK [(6,fun v _=>∃f1 f2 f3,v=.tuple #[.agg ((aF s1.b.ah k).row f1 f2 f3).toArray,.bool (aH s1.b.ah k).isSome]),(10,PB w4.heap.size 34 [.int .i64 0,.string ⟨#[]⟩,.string ⟨#[]⟩,.slice none 0 0,.int .i64 0,.int .i64 0,.int .i64 0,.bool false])]) V (aS (⟨fun _ _ _ _ _ _ _ h=>h,⟨fun _ _ _ _ _ _ c h=>PB.st IB c h,trivial⟩⟩)) mixed (by kernel_rfl) rfl ?_;refine cX ?_;refine DP .r (fun _ d=>PV.ld1 (j:=3) dL (cC.range (As.gb d.2.g3)) rfl rfl)<|(gx) ak St.g8<|?_;refine DW.e rfl rfl rfl rfl rfl (fun U d S=>OX.call kl rfl rfl ((dN (k:=k) (As.gr d.2.g7)).mono ?_))<|?_
   ·
    rintro _ wy ⟨f1,f2,f3,rfl,hy⟩;exact⟨_,rfl,⟨Nat.le_trans d.1 hy.size,d.2.step hy⟩,hy.p0,_,rfl,⟨f1,f2,f3,rfl⟩⟩
   rintro _ wz _ ⟨f1,f2,f3,rfl⟩;refine cL ?_;refine DW.e rfl rfl rfl rfl rfl (fun U d S=>OX.alloc oG rfl fun b wy l hb=>⟨⟨Nat.le_trans d.1 l.ext.size,d.2.step l.ext⟩,l.ext.p0,_,rfl,_,rfl,Nat.le_trans d.1 l.ge,hb⟩)<|?_;rintro _ wz _ ⟨b7,rfl,_,_⟩;refine(cG) ?_;rintro w5 ⟨vR,W⟩ ⟨yz,⟨_,_⟩⟩;have dw:=W.pW yz IB P1 P2;refine(cD) gp dw fun w6 r8 mr dz=>?_;refine nx ?_;refine WL.nil (EX.np ?_);refine bz ?_;refine WC.cI (t:=46) (v:=.bool (!(aH s1.b.ah k).isSome && decide (4000≤s1.b.ah.length))) dz ?_<|?_
   ·
    refine(bW) (fun g38=>?_) (fun g38=>?_)
    ·
     refine cX ?_;refine WP .r (PV.ld1 (j:=3) dL dz.b4 rfl rfl)<|?_;exact(br) (by simp only [g38];first | rfl | (simp [Ha];done) | (simp;omega)) (dz)
    exact(br) (by simp only [g38];first | rfl | (simp [Ha];done) | (simp;omega)) (dz)
   intro w7 db;refine(aN) (fun g46=>?_) fun g46=>?_
   ·
    rw [if_pos g46] at q;simp only [Option.some.injEq] at q;subst q;refine cS ?_;refine WL.s1 db.p4 fun w8 _ cF=>?_;refine nx ?_;have O:=cF.sY (B:=As.blk xb 151 (EA.cells i D.s bb {s1 with e:=45})) (rfl);refine eP ?_;refine EX.sG (.inl rfl) rfl<|?_;exact⟨i,_,rfl,hZ,(As.gr O.g7),(As.gr O.g8),O.p6.p6.pQ.p3.k4⟩
   rw [if_neg (by rw [g46];simp)] at q;simp only [Option.some.injEq] at q;subst q
   have Lx:s1.bM.length+1≤1000000:=by simpa using yA
   refine cL ?_;have cF:=db.p2.a8 (by omega);have DO:=hZ.trans (bA.dx (F:=fun x=>x∈aG z) Xo) (Nat.le_refl _);have hN9:=cF.cj;refine WC.om (m:=15) [0] (E:=bK [(14,fun v _=>v=.agg ((cP s1.b k o.value reads).row z C L).toArray)]) cF (aS (⟨fun _ _ _ _ _ _ _ h=>h,trivial⟩)) mixed (by kernel_rfl) rfl ?_;refine cS ?_;refine DP .r (fun _ d=>PV.ld1 (j:=3) dL (cC.range (As.gb d.2.g4)) rfl rfl)<|(vE) aJ St.g4<|(gx) ak St.g9<|(gT) eY St.g2<|nx ?_;refine DW.c0 (fun U d S=>uE (k:=k) (v:=o.value) (As.gr d.2.g7) (As.gr d.2.g8) (As.gr d.2.g0))<|(cG) ?_;rintro w8 ⟨Lp,O⟩ ⟨_,_⟩;have K:=O;refine(bL) My (uz (x:=(cP s1.b k o.value reads)) K.e0 (As.gr K.g8) (by omega) (As.gr K.g0) (by show reads.length≤4000;omega)) ?_;rintro _ w9 ⟨p1,p2,p3,Z4,rfl,UZ,si⟩;have dW:=St.lv K si UZ;have Jx:(fb s1.b.ah (cP s1.b k o.value reads)).length≤s1.b.ah.length+1:=pU (cP s1.b k o.value reads) s1.b.ah false;have U0:=St.bB si;have uQ:=K.size;have uP:=DO.trans UZ uQ;have fH:=dW.a8 (by omega);have zc:=uP.trans (bA.dx (F:=fun x=>x∈aG p1) U0) uQ;refine cL ?_;refine WL.s1 (j:=3) fH.p5 fun jB _ dV=>?_;refine WL.nil (EX.np ?_);have X:=dV.sY (B:=As.blk xb 151 (EA.cells ⟨i.a1,p1,i.a3,i.n1,i.c1,p2,p3,i.n3,i.c3⟩ D.s bb {s1 with b:={s1.b with ah:=fb s1.b.ah (cP s1.b k o.value reads)}})) (rfl);refine bz ?_;have hnr:=((As.gs X.g7)).len;have vQ:=X.cj;have Bj:=X.j4;have Bk:=X.size;refine WC.om (m:=7) [0] (E:=bK [(6,PS jB.heap.size 29 1 k.cells)]) X (aS (⟨fun _ _ _ _ _ _ c h=>PS.st vQ c h,trivial⟩)) mixed (by kernel_rfl) rfl ?_;refine(gT) eZ St.g0<|(gx) ak St.g10<|?_;refine DW.e rfl rfl rfl rfl rfl (fun U d S=>OX.aP (us:=k.cells) dU rfl rfl rfl rfl fun b wy l hb=>⟨⟨Nat.le_trans d.1 l.ext.size,d.2.step l.ext⟩,l.ext.p0,_,rfl,_,rfl,Nat.le_trans d.1 l.ge,hb⟩)<|?_;rintro _ wz _ ⟨b75,rfl,_,_⟩;refine(cG) ?_;rintro iV ⟨uH,gq⟩ ⟨PU,_⟩;have dK:=gq.pW (PS.pb PU) vQ Bj Bk;refine WL.go rfl (OX.j7 mP rfl rfl rfl (As.gs dK.g8) (SR.dn (A:=fun _=>True) (x:=k) (As.gb dK.g0) trivial rfl (by simp [Key.cells,Value.oneCell']) rfl) (by show(i.n3+1)*_≤_;omega) (by show i.n3+1≤_;omega) (Nat.zero_le _) fun a76 U1 mu aa4 s76 aa5 aic=>?_);have gJ:=dK.p8.fO s76 aa4 aa5;refine bz ?_;refine WL.s1 gJ.p2 fun oL _ hJ=>?_;refine WL.nil (EX.np ?_);have fA:=hJ.sY (B:=As.blk xb 151 (EA.cells ⟨i.a1,p1,a76,i.n1,i.c1,p2,p3,(i.n3+1),U1⟩ D.s bb {s1 with b:={s1.b with ah:=fb s1.b.ah (cP s1.b k o.value reads)},bM:=s1.bM++[k]})) (rfl);refine gw ?_;refine EX.sG (.inl rfl) rfl<|?_;exact⟨⟨i.a1,p1,a76,i.n1,i.c1,p2,p3,(i.n3+1),U1⟩,_,rfl,zc,(As.gr fA.g9),(As.gr fA.g3),fA.p1.p8.Cq.p3.k4⟩
  rw [if_neg (by rw [MR];simp)] at q;obtain⟨t,MQ,Y⟩:=Option.bind_eq_some_iff.1 q;have Gw:=UX MR;have JA:=(bS P Rt).1 _ _ _ MQ GO Gw.2;refine(il) ak V.b0<|?_
  have Xp:t.bM.length≤1000000:=by
   split at Y
   ·
    have:=((bS P Rt).2.2 _ _ _ _ _ Y JA.1 (by simpa using Gw.1) (by simp [hlen]) (fun a u=>by rcases List.mem_append.1 u with u | u;exact UW a u;simp at u;subst u;exact Gw.2)).2.bM
    omega
   have:=((bS P Rt).2.2 _ _ _ _ _ Y JA.1 GB hlen UW).2.bM
   omega
  have W:=V.p5.p5.p9.p6;refine(bL) Ih (CU Rt (by omega) _ _ _ _ _ _ _ W.e4 (As.gr W.g7) (As.gr W.g8) GO Gw.2 MQ Xp) ?_;rintro _ w5 ⟨E2,Z5,rfl,Bv,Lz,hr5,pA⟩;have dw:=St.lv W pA Bv;have zc:=hZ.trans Bv W.size;have dz:=dw.fr (Lz);have db:=dz.fr (hr5);have cF:=db.p9.drop;have O:=cF.p9.drop;refine(aU) xt O.b2<|(aN) (fun E1=>?_) fun E1=>?_
  ·
   simp at E1
   rw [if_pos E1] at Y;have K:=O.p7;have LD:=K.cj;have U2:=K.j4;have U3:=K.size;refine WC.JU (m:=16) [5] (fun j w w'=>match j with | 4=>fN (fun x=>x∈aG z) w w' | _=>fN (fun _=>False) w w') (E:=bK [(3,PS w5.heap.size 29 1 o.ask.cells),(4,fun v w'=>∃a c,v=.slice a (C+1) c∧(∀x∈aG a,x∈aG z∨w5.heap.size≤x)∧Ow RR.key 29 2 Z5 w' a (C+1) c (reads++[o.ask]))]) K (kW (⟨⟨trivial,⟨fun _ _ _ _ _ c h=>PS.st (fun x hx=>LD x ⟨_,.head _,hx⟩) c h,trivial⟩⟩,⟨⟨trivial,⟨trivial,trivial⟩⟩,trivial⟩⟩)) mixed (by kernel_rfl) rfl ?_;refine(vE) ak St.g7<|?_;refine DW.e rfl rfl rfl rfl rfl (fun U d S=>OX.aP (us:=o.ask.cells) dU rfl rfl rfl rfl fun b wy l hb=>⟨⟨Nat.le_trans d.1 l.ext.size,d.2.step l.ext⟩,l.ext.p0,_,rfl,_,rfl,Nat.le_trans d.1 l.ge,hb⟩)<|?_;rintro _ wz _ ⟨b91,rfl,_,_⟩
   refine DW.e rfl rfl rfl rfl rfl (fun U d S=>by
    obtain⟨⟨b',B8,B9,xy⟩,_⟩:=S;simp only [Value.slice.injEq,Option.some.injEq,Addr.mk.injEq,and_true,true_and] at B8;subst B8;exact OX.XY mP rfl rfl rfl (As.gs d.2.g0) (fun x hx=>d.2.oX _ M0 x hx) (SR.dn (A:=fun _=>True) (x:=o.ask) xy trivial rfl (by simp [Key.cells,Value.oneCell']) rfl) (by omega) (by omega) fun a' c' wy h1 h2 h3 h4=>⟨⟨Nat.le_trans d.1 h3.size,d.2.same M0 h3.p h2⟩,h3.p,_,rfl,a',c',rfl,(fun x hx=>by rcases h4 x hx with h | h;exact .inl h;exact .inr (Nat.le_trans d.1 h)),h1⟩) ?_
   rintro _ wz _ ⟨a4,c4,rfl,_,_⟩;refine cX ?_;refine DP .r (fun _ d=>PV.nI H6 (cC.range (As.gb d.2.g3)) rfl rfl)<|(vE) aJ St.g3<|(vE) ak St.g7<|(cG)<|?_;rintro w6 ⟨xC,dW⟩ ⟨hF4,⟨hF3,_⟩⟩;obtain⟨_,_,he4,U4,ho4⟩:=hF4;simp only [Value.slice.injEq,true_and] at he4;obtain⟨rfl,rfl⟩:=he4;have fH:=dW;have dV:=fH.swap (B:=As.os RR.key 29 2 a4 (C+1) c4 (reads++[o.ask])) ho4 U4 LD U2 U3;refine(bL) MA (pC (k:=o.ask) P Gw.2 (dV.one (.tail _ (.tail _ (.tail _ (.tail _ (.head _)))))) (As.gr dV.g2) (As.gr dV.g1)) ?_;rintro _ w7 ⟨rfl,jb⟩;have X:=dV.wW M4 jb;refine WL.go rfl (OX.aP (us:=[.string (da (valOf aa x.ad) t.b o.ask)]) kH rfl rfl rfl rfl fun aif w8 U5 U6=>?_);have gq:=X.dy U5 U6;refine WL.ap rfl rfl gq.p9 (SR.dn (A:=fun _=>True) (x:=da (valOf aa x.ad) t.b o.ask) (As.gb gq.g0) trivial rfl (by simp [Value.oneCell']) rfl) fun aa6 U7 w9 aeL aeM dK=>?_;refine bz ?_;refine WL.nil (EX.np ?_);refine nx ?_;refine dY (Rt,t,E2,reads++[o.ask],ae++[da (valOf aa x.ad) t.b o.ask],Z5,a4,(C+1),c4,aa6,(N+1),U7) ⟨dK.p1.drop.p8.drop.p8.p3.p4.p8.p8.p7.p6.p7,⟨Y,JA.1,by omega,zc,by simpa using Gw.1,by simp [hlen],(fun a u=>by rcases List.mem_append.1 u with u | u;exact UW a u;simp at u;subst u;exact Gw.2),(fun y hy=>by rcases U4 y hy with h | h;exact Xo y h;omega),trivial⟩⟩
  simp at E1
  rw [if_neg E1] at Y;refine bz ?_;refine dY (Rt,t,E2,reads,ae,Z5,z,C,L,Q,N,R) ⟨O.p6.drop.p8.p1.p2.p6.p6.p5.p8.p8,⟨Y,JA.1,by omega,zc,GB,hlen,UW,Xo,trivial⟩⟩
 simp at g13
 rw [if_pos g13] at q;simp only [Option.some.injEq] at q;subst q;refine cX ?_;refine EX.sG (.inr rfl) rfl<|?_;exact⟨i,_,rfl,hZ,(As.gr G.g5),(As.gr G.g6),G.p4.p4.p8.p5.k4⟩
set_option maxHeartbeats 1600000 in
theorem IJ{s:ES}{f:Nat}(J:aq aa) (gg:St w M Z w [As.blk xb 151 (E.cells D.s bb s),As.ja prog 116 aa x D,As.map Key.val bb s.busy,As.os RR.key 29 2 E.a3 E.n3 E.c3 s.bM]) (hi:Rd RR.az 4 Z w E.a1 E.n1 E.c1 s.b.ad) (hr:Rd RR.ed 8 Z w E.a2 E.n2 E.c2 s.b.ah) (K:Good aa x.ad s) (Y:s.b.ad.length≤1000000) (hk:eu aa k) (CU:∀g,g<f→Xm aa x D xb bb g) (d:kB aa (valOf aa x.ad) (f+1) s k=some s') (yA:s'.bM.length≤1000000):Calls prog 108 #[.pointer (some ⟨xb,0,none⟩),k.val] w fun e w'=>∃(l:EA) (Z':Nat→Prop),e=.returned (.tuple #[])∧bA w.heap.size Z Z'∧Rd RR.az 4 Z' w' l.a1 l.n1 l.c1 s'.b.ad∧Rd RR.ed 8 Z' w' l.a2 l.n2 l.c2 s'.b.ah∧St w M Z' w' [As.blk xb 151 (l.cells D.s bb s'),As.ja prog 116 aa x D,As.map Key.val bb s'.busy,As.os RR.key 29 2 l.a3 l.n3 l.c3 s'.bM]:=by
 unfold kB at d
 have hbk:(bq s.busy k).getD (.bool false)=.bool (s.on k):=by unfold ES.on;rcases K.busy k with h | h <;> rw [h] <;> rfl
 refine enter func108 rfl ntmps108 rfl<|?_;have aR:=gg;have st1:=aR.fr hi;have st2:=st1.fr hr;refine(dE) st2 fun b3 w1 GS xy F=>?_;refine cX ?_;refine WC.cI (t:=14) (v:=.bool (decide (s.e≠0) || aB k)) F ?_<|?_
 ·
  refine(aU) xt F.b3<|(bW) (fun g11=>?_) (fun g11=>?_)
  ·
   exact(br) (by simp only [g11];first | rfl | simp) (F)
  refine(aT) ak F.b0<|(dH) (de (k:=k)) F fun w2 s2 o=>?_;exact(br) (by simp only [g11];first | rfl | simp) (o)
 intro w2 o;refine(aN) (fun g14=>?_) fun g14=>?_
 ·
  rw [if_pos (by simpa using g14)] at d;simp only [Option.some.injEq] at d;subst d;refine bz ?_;refine EX.sG (.inl rfl) rfl<|?_;exact⟨E,Z,rfl,bA.refl _ _,(As.gr o.g2),(As.gr o.g1),o.p6.p6.p6.p6.k4⟩
 have vC:aB k=false:=by simp at g14;exact g14.2
 rw [if_neg (by simpa using g14)] at d;refine cX ?_;have hN2:=o.cj;have aa8:=o.j4;have aa9:=o.size;refine WC.om (m:=11) [9] (E:=bK [(6,fun v _=>∃f1 f2 f3,v=.tuple #[.agg ((aF s.b.ah k).row f1 f2 f3).toArray,.bool (aH s.b.ah k).isSome]),(10,PB w2.heap.size 34 [.int .i64 0,.string ⟨#[]⟩,.string ⟨#[]⟩,.slice none 0 0,.int .i64 0,.int .i64 0,.int .i64 0,.bool false])]) o (aS (⟨fun _ _ _ _ _ _ _ h=>h,⟨fun _ _ _ _ _ _ c h=>PB.st hN2 c h,trivial⟩⟩)) mixed (by kernel_rfl) rfl ?_;refine cX ?_;refine DP .r (fun _ i=>PV.ld1 (j:=3) dL (cC.range (As.gb i.2.g3)) rfl rfl)<|(gx) ak St.g0<|?_;refine DW.e rfl rfl rfl rfl rfl (fun wx i hF=>OX.call kl rfl rfl ((dN (k:=k) (As.gr i.2.g1)).mono ?_))<|?_
 ·
  rintro _ wy ⟨f1,f2,f3,rfl,hy⟩;exact⟨_,rfl,⟨Nat.le_trans i.1 hy.size,i.2.step hy⟩,hy.p0,_,rfl,⟨f1,f2,f3,rfl⟩⟩
 rintro _ wz _ ⟨f1,f2,f3,rfl⟩;refine cL ?_;refine DW.e rfl rfl rfl rfl rfl (fun wx i hF=>OX.alloc oG rfl fun b wy L hb=>⟨⟨Nat.le_trans i.1 L.ext.size,i.2.step L.ext⟩,L.ext.p0,_,rfl,_,rfl,Nat.le_trans i.1 L.ge,hb⟩)<|?_;rintro _ wz _ ⟨b4,rfl,_,_⟩;refine(cG) ?_;rintro w3 ⟨sg,jD⟩ ⟨yz,⟨_,_⟩⟩;have jC:=jD.pW yz hN2 aa8 aa9;refine(cD) gp jC fun w4 ko ly P=>?_;refine nx ?_;refine WL.nil (EX.np ?_);refine bz ?_;refine WC.cI (t:=35) (v:=.bool (aM s.b k)) P ?_<|?_
 ·
  have Gl:=P.cj;refine WC.dS (m:=9) P mixed<|(jf) (fun Q=>?_) (fun Q=>?_)
  ·
   refine(gT) aK St.g0<|cX ?_;refine DP .r (fun _ i=>PV.ld1 (j:=1) aK (cC.range (As.gb i.2.g4)) rfl rfl)<|(cG)<|?_;rintro w5 ⟨vP,q⟩ _;exact(br) (by unfold aM;simp only [Q];first | rfl | simp) (q)
  refine(cG) ?_;rintro w5 ⟨vP,q⟩ _;exact(br) (by unfold aM;simp only [Q];first | rfl | simp) (q)
 intro w5 q;refine(aN) (fun R=>?_) fun R=>?_
 ·
  rw [if_pos R] at d;simp only [Option.some.injEq] at d;subst d;refine bz ?_;refine EX.sG (.inl rfl) rfl<|?_;exact⟨E,Z,rfl,bA.refl _ _,(As.gr q.g3),(As.gr q.g2),q.p7.p7.p7.p7.k4⟩
 rw [if_neg (by rw [R];simp)] at d;refine cX ?_;have UY:=q.cj;refine WC.dS (m:=5) q mixed<|(gT) rA St.g4<|(gx) ak St.g1<|(cG)<|?_;rintro w6 ⟨uQ,G⟩ _;refine WP .r (PV.oY ec gA yo (As.gm G.g6) (hbk) rfl rfl)<|(aN) (fun S=>?_) fun S=>?_
 ·
  rw [if_pos S] at d;refine(aT) ak G.b1<|(dH) (cQ (k:=k)) G fun w7 s7 C=>?_;refine(aN) (fun H=>?_) fun H=>?_
  ·
   simp at H
   rw [if_neg (by rw [H];simp)] at d;simp only [Option.some.injEq] at d;subst d;refine cX ?_;refine WL.s1 C.p4 fun w8 _ N=>?_;refine nx ?_;have u:=N.sY (B:=As.blk xb 151 (EA.cells E D.s bb {s with e:=43})) (rfl);refine cL ?_;refine EX.sG (.inl rfl) rfl<|?_;exact⟨E,Z,rfl,bA.refl _ _,(As.gr u.g4),(As.gr u.g3),u.p7.p7.p7.p3.k4⟩
  simp at H
  rw [if_pos H] at d;simp only [Option.some.injEq] at d;subst d;refine cX ?_;refine EX.sG (.inl rfl) rfl<|?_;exact⟨E,Z,rfl,bA.refl _ _,(As.gr C.g3),(As.gr C.g2),C.p7.p7.p7.p7.k4⟩
 rw [if_neg (by rw [S];simp)] at d;refine cL ?_;have hN7:=G.cj;refine WC.dS (m:=5) G mixed<|(gT) rA St.g4<|(gx) ak St.g1<|(cG)<|?_;rintro w7 ⟨P3,C⟩ _;refine WL.go rfl (OX.put ec gA (As.gm C.g6) rfl rfl rfl fun w8 It DC=>?_);have N:=C.p6.jn It DC;refine nx ?_;obtain⟨⟨s2,r2⟩,hp,d⟩:=Option.bind_eq_some_iff.1 d;obtain⟨s3,y,d⟩:=Option.bind_eq_some_iff.1 d;simp only [Option.some.injEq] at d;subst d;have T:=(bS J f).2.1 _ _ _ _ _ hp (K.on k);have Kh:=hk.gy vC;have U:s3.bM.length≤1000000:=yA
 have U8:s2.bM.length≤1000000:=by
  split at y
  ·
   have:=((bS J f).2.2 _ _ _ _ _ y T.1 Kh rfl (fun a ha=>by cases ha)).2.bM
   exact Nat.le_trans this U
  simp only [Option.some.injEq] at y;subst y;exact U
 have aba:s2.b.ad.length≤1000000:=by rw [T.1.az,← K.az];exact Y
 refine(aT) ak N.b2<|?_;have u:=N.p7.p1.p7.p7;refine(bL) TY (Bu (s:={s with busy:=cO s.busy k (.bool true)}) (E:=E) J u.e4 (As.gr u.g7) (As.gr u.g6) (K.on k) Y CU hp U8) ?_;rintro _ w9 ⟨E2,Z2,rfl,uO,abb,abc,si⟩;have db:=St.lv u si uO;have nK:=(bA.refl w.heap.size Z).trans uO u.size;have cF:=db.fr (abb);have fV:=cF.fr (abc);have fJ:=fV.p9.drop;have O:=fJ.p8.drop;refine(aN) (fun V=>?_) fun V=>?_
 ·
  rw [if_pos V] at y;refine(aT) ak (cC.range (As.gb O.g7))<|?_;have z:=O.p5.p5.p5.p5;refine(bL) TZ (GA (s:=s2) (E:=E2) J z.e4 (As.gr z.g5) (As.gr z.g4) T.1 aba Kh CU y U) ?_;rintro _ jB ⟨E3,Z3,rfl,pD,abd,abe,rL⟩;have I:=St.lv z rL pD;have W:=nK.trans pD z.size;have ew:=I.fr (abd);have gq:=ew.fr (abe);have dK:=gq.p7.drop;have gJ:=dK.p6.drop;refine bz ?_;have vQ:=gJ.cj;refine WC.dS (m:=5) gJ mixed<|(gT) rA St.g2<|(gx) ak St.g7<|(cG)<|?_;rintro iV ⟨uH,hJ⟩ _;refine WL.go rfl (OX.del ec gA (As.gm hJ.g4) rfl rfl fun mu qz qA=>?_);have X:=hJ.p4.jn qz qA;refine nx ?_;refine EX.sG (.inr rfl) rfl<|?_;exact⟨_,_,rfl,W,(As.gr X.g2),(As.gr X.g1),X.p5.p1.p5.p5.k4⟩
 rw [if_neg (by rw [V];simp)] at y;simp only [Option.some.injEq] at y;subst y;have W:=nK;refine bz ?_;have vQ:=O.cj;refine WC.dS (m:=5) O mixed<|(gT) rA St.g2<|(gx) ak St.g7<|(cG)<|?_;rintro jB ⟨uH,z⟩ _;refine WL.go rfl (OX.del ec gA (As.gm z.g4) rfl rfl fun iV abf abg=>?_);have I:=z.p4.jn abf abg;refine nx ?_;refine EX.sG (.inr rfl) rfl<|?_;exact⟨_,_,rfl,W,(As.gr I.g2),(As.gr I.g1),I.p5.p1.p5.p5.k4⟩
theorem P4(c:aq aa) (d:x.ad.length≤1000000):∀f,Xm aa x D xb bb f:=by
 intro f
 induction f using Nat.strongRecOn with
 | _ f e=>
  intro w M Z s E k s' h hi hr a hk b i
  cases f with
  | zero=>simp [kB] at b
  | succ f=>exact IJ c h hi hr a (by rw [a.az];exact d) hk (fun g j=>e g (by omega)) b i
theorem Bx(a:s.size≤140737488355328) (w:World):Calls prog 205 #[.string s] w fun e w'=>∃(v:Int) (ok:Bool) (ev:Value),e=.returned (.tuple #[.int .i64 v,ev])∧(-9223372036854775808≤v∧v≤9223372036854775807)∧((ok=true∧ev=.nilIface)∨(ok=false∧∃t y,ev=.iface t y))∧(ok=false→ev=.iface 412 (.int .i64 2)∨ev=.iface 412 (.int .i64 1))∧aQ [] w w':=by
 refine(Any.internal_strconv_Atoi_all {laysC172 with} s (by omega) w).mono fun e w' ⟨he,hw⟩=>?_
 have hc:aQ [] w w':=by
  rcases hw with rfl | ⟨t,rfl⟩
  ·
   exact aQ.refl _ _
  exact xu _ _ _
 cases h:Lib.atoiAll s.data.toList
 ·
  rename_i v
  rw [h] at he;exact⟨v,true,.nilIface,he,Lib.atoiAll_bounds h,.inl ⟨rfl,rfl⟩,(fun e=>by cases e),hc⟩
 ·
  rw [h] at he;exact⟨0,false,_,he,by decide,.inr ⟨rfl,_,_,rfl⟩,fun _=>.inl rfl,hc⟩
 rw [h] at he;exact⟨Lib.atoiSat s.data.toList,false,_,he,Lib.atoiSat_bounds _,.inr ⟨rfl,_,_,rfl⟩,fun _=>.inr rfl,hc⟩
set_option maxHeartbeats 400000
theorem lU :CR prog 125 #[.int .i64 n] w (.bool (decide (30≤n) && decide (n≤32))):=by
 refine enter func125 rfl ntmps125 rfl<|?_;have aR:=St.s0 w;refine gw ?_;refine WC.gW (t:=2) (v:=.bool (decide (30≤n) && decide (n≤32))) aR ?_<|?_
 ·
  refine(bW) (fun g5=>?_) (fun g5=>?_)
  ·
   exact(eN) (by simp only [g5];first | rfl | simp) (aR)
  exact(eN) (by simp only [g5];first | rfl | simp) (aR)
 intro w1 st1;refine(bm) ?_;exact⟨rfl,(St.cg st1)⟩
theorem mV :CR prog 79 #[.int .i64 n] w (.bool (decide (1≤n) && decide (n≤22))):=by
 refine enter func79 rfl ntmps79 rfl<|?_;have aR:=St.s0 w;refine gw ?_;refine WC.gW (t:=2) (v:=.bool (decide (1≤n) && decide (n≤22))) aR ?_<|?_
 ·
  refine(bW) (fun g5=>?_) (fun g5=>?_)
  ·
   exact(eN) (by simp only [g5];first | rfl | simp) (aR)
  exact(eN) (by simp only [g5];first | rfl | simp) (aR)
 intro w1 st1;refine(bm) ?_;exact⟨rfl,(St.cg st1)⟩
theorem eh :CR prog 47 #[k.val] w (.bool (aB k)):=by
 refine enter func47 rfl ntmps47 rfl<|?_;have aR:=St.s0 w;refine(dE) aR fun b1 w1 a b st1=>?_;refine cX ?_;refine WC.gW (t:=2) (v:=.bool (aB k)) st1 ?_<|?_
 ·
  refine(aU) aK st1.b0<|(bW) (fun g6=>?_) (fun g6=>?_)
  ·
   exact(eN) (by unfold aB;simp only [g6];first | rfl | simp) (st1)
  refine(aU) aK st1.b0<|(bW) (fun g11=>?_) (fun g11=>?_)
  ·
   exact(eN) (by unfold aB;simp only [g6,g11];first | rfl | simp) (st1)
  refine(aU) aK st1.b0<|?_;exact(eN) (by unfold aB;simp only [g6,g11];first | rfl | simp) (st1)
 intro w2 st2;refine(bm) ?_;exact⟨rfl,(St.cg st2)⟩
theorem iX :CR prog 45 #[k.val] w (.bool (decide (k.kind=31) || decide (k.kind=32))):=by
 refine enter func45 rfl ntmps45 rfl<|?_;have aR:=St.s0 w;refine(dE) aR fun b1 w1 a b st1=>?_;refine cX ?_;refine WC.gW (t:=2) (v:=.bool (decide (k.kind=31) || decide (k.kind=32))) st1 ?_<|?_
 ·
  refine(aU) aK st1.b0<|(bW) (fun g6=>?_) (fun g6=>?_)
  ·
   exact(eN) (by simp only [g6];first | rfl | simp) (st1)
  refine(aU) aK st1.b0<|?_;exact(eN) (by simp only [g6];first | rfl | simp) (st1)
 intro w2 st2;refine(bm) ?_;exact⟨rfl,(St.cg st2)⟩
theorem kN(hk:cZ k):CR prog 40 #[k.val] w (.bool (decide (k.kind=32))):=by
 refine enter func40 rfl ntmps40 rfl<|?_;have aR:=St.s0 w;refine(dE) aR fun b1 w1 a b st1=>?_;refine cX ?_;refine WC.gW (t:=2) (v:=.bool (decide (k.kind=32))) st1 ?_<|?_
 ·
  refine(aU) aK st1.b0<|(bW) (fun g6=>?_) (fun g6=>?_)
  ·
   exact(eN) (by simp only [g6];first | done | rfl | simp) (st1)
  refine(aU) aK st1.b0<|(bL) Tt (mV (n:=k.kind)) ?_;rintro _ w2 ⟨rfl,s2⟩;rw [show(decide (1≤k.kind) && decide (k.kind≤22))=false by(rcases hk with h | h <;> simp <;> omega)];have st2:=st1.step s2;exact(eN) (by simp only [g6];first | done | rfl | simp) (st2)
 intro w2 st2;refine(bm) ?_;exact⟨rfl,(St.cg st2)⟩
theorem iG{n:Nat}(hk:30≤k.kind∧k.kind≤32) (ht:k.text=itoa n) (hn:n≤99):CR prog 82 #[k.val] w (.int .i64 (n:Int)):=by
 obtain⟨kd,j⟩:=k;simp only at hk ht;subst ht;refine enter func82 rfl ntmps82 rfl<|?_;have aR:=St.s0 w;refine(dE) aR fun b1 w1 l o st1=>?_;refine(aU) aK st1.b0<|(bL) Ii (lU (n:=kd)) ?_;rintro _ w2 ⟨rfl,s2⟩;rw [show(decide (30≤kd) && decide (kd≤32))=true by(simp;omega)];have st2:=st1.step s2;refine cL ?_;refine WC.kS rfl<|(aU) eY st2.b0<|(dH) (Dp hn w2) st2 fun w3 s3 b=>?_;refine kQ ?_;refine WC.cI (t:=31) (v:=.bool false) b ?_<|?_
 ·
  have q:=b.cj;refine WC.cJ (m:=15) (E:=bK [(12,fun v _=>v=.string (itoa n))]) b (aS (⟨fun _ _ _ _ _ _ _ h=>h,trivial⟩)) mixed (by kernel_rfl)<|nx ?_;refine DP .r (fun _ g=>PV.NR ue rfl)<|nx ?_;refine DW.fE (t:=17) rfl (fun g17=>?_) (fun g17=>?_)
  ·
   refine(cG) ?_;rintro w4 ⟨c,a⟩ _;exact(br) (tG g17) (a)
  refine cX ?_;refine DW.fE (t:=21) rfl (fun g21=>?_) (fun g21=>?_)
  ·
   refine(cG) ?_;rintro w4 ⟨c,a⟩ _;exact(br) (tG (aj g17 g21)) (a)
  refine cX ?_;refine DW.fE (t:=25) rfl (fun d=>?_) (fun d=>?_)
  ·
   refine(cG) ?_;rintro w4 ⟨c,a⟩ _;exact(br) (tG (aj g17<|aj g21 d)) (a)
  refine nx ?_;refine DW.c0 (fun i g u=>iz (n:=(n:Int)) (by omega) (by omega) i)<|(gT) eY St.g0<|(cG)<|?_;rintro w4 ⟨c,a⟩ ⟨_,_⟩;exact(br) (tG (aj g17<|aj g21 d)) (a)
 intro w4 a;refine(aN) (fun e=>?_) fun e=>?_
 ·
  exact absurd e (by simp)
 ·
  refine(bm) ?_;exact⟨rfl,(St.cg a)⟩
 -- y z B.T
theorem gB{n:Nat}(hk:30≤k.kind∧k.kind≤32) (ht:k.text=itoa n) (hn:n≤99):CR prog 118 #[k.val] w (.bool true):=by
 refine enter func118 rfl ntmps118 rfl<|?_;have aR:=St.s0 w;refine(dE) aR fun b1 w1 b c st1=>?_;refine(aU) aK st1.b0<|(bL) Ii (lU (n:=k.kind)) ?_;rintro _ w2 ⟨rfl,s2⟩;rw [show(decide (30≤k.kind) && decide (k.kind≤32))=true by(simp;omega)];have st2:=st1.step s2;refine bz ?_;refine WC.sE rfl<|(aT) ak st2.b0<|(dH) (iG (k:=k) hk ht hn) st2 fun w3 s3 a=>?_;refine(bm) ?_;exact⟨by simp,(St.cg a)⟩
theorem jE{a:Option Addr}{r c:Nat}(hr:dX A w a r c aa):CR prog 83 #[.slice a r c,.int .i64 n] w ((aD aa n).val):=by
 have hle:=hr.le;have hlen:=hr.len;refine enter func83 rfl ntmps83 rfl<|?_;have aR:=St.s0 w;refine(ff) aR fun b4 w1 m o st1=>?_;refine cX ?_;refine WC.cI (t:=17) (v:=.bool (decide (n<0) || (decide ((r:Int)≤n) || decide (99<n)))) st1 ?_<|?_
 ·
  refine(bW) (fun g8=>?_) (fun g8=>?_)
  ·
   exact(br) (by simp only [g8];first | rfl | simp) (st1)
  refine(bW) (fun g14=>?_) (fun g14=>?_)
  ·
   exact(br) (by simp only [g8,g14];first | rfl | simp) (st1)
  exact(br) (by simp only [g8,g14];first | rfl | simp) (st1)
 intro w2 st2;refine(aN) (fun g17=>?_) fun g17=>?_
 ·
  have hk:aD aa n=eS:=by unfold aD;rw [if_pos (by simp at g17;omega)]
  refine(cD) gR st2 fun w3 q u b=>?_;refine(ky) ak b.b0<|?_;rw [hk];exact⟨rfl,(St.cg b)⟩
 simp at g17
 obtain⟨i,rfl⟩:∃i:Nat,n=i:=⟨n.toNat,by omega⟩
 have hi:i<aa.length:=by omega
 have hk:aD aa i=⟨if ay aa i then 32 else 31,itoa i⟩:=by unfold aD;rw [if_neg (by omega)];rfl
 have g:=bD hi;refine kQ ?_;obtain⟨y,z,B,h,_,⟨q1,C,F,rfl,_⟩,l,_⟩:=(hr.ext (St.cg st2)).at (ai hi);refine cL ?_;refine WP .r (PV.ei gZ h rfl rfl (by omega))<|nx ?_;refine WP .r (PV.ld1 (j:=0) dM l rfl rfl)<|(aN) (fun g23=>?_) fun g23=>?_
 ·
  have e:aD aa i=⟨32,itoa i⟩:=by rw [hk,g,g23];rfl
  refine(dH) (iz (n:=(i:Int)) (by omega) (by omega) w2) st2 fun w3 s3 b=>?_;refine WP .r (PV.bs (us:=_) yk rfl rfl rfl)<|(cD) gR b fun w4 G H d=>?_;refine(ky) ak d.b0<|?_;rw [e];exact⟨rfl,(St.cg d)⟩
 have e:aD aa i=⟨31,itoa i⟩:=by rw [hk,g,g23];rfl
 refine(dH) (iz (n:=(i:Int)) (by omega) (by omega) w2) st2 fun w3 s3 b=>?_;refine WP .r (PV.bs (us:=_) yk rfl rfl rfl)<|(cD) gR b fun w4 I J d=>?_;refine(ky) ak d.b0<|?_;rw [e];exact⟨rfl,(St.cg d)⟩
set_option maxHeartbeats 400000
set_option maxRecDepth 1000000 in
theorem kq(b:s.size≤140737488355328):CR prog 582 #[.string s] w (.string s):=by
 refine enter func582 rfl ntmps582 rfl<|?_;have aR:=St.s0 w;refine aO ?_;refine(aN) (fun g6=>?_) fun g6=>?_
 ·
  refine(bm) ?_;exact⟨by rw [show s=⟨#[]⟩ from ByteArray.ext (Array.eq_empty_of_size_eq_zero (show s.size=0 by have:=of_decide_eq_true g6;omega))],(St.cg aR)⟩
 have h0:s.size≠0:=by have:=of_decide_eq_false g6;omega
 obtain⟨i,hi,a⟩:=Option.map_eq_some_iff.1 (show(prog.info? 5).map (fun i=>(i.zero,i.size,i.bytes))=some (some (.int .u8 0),1,1) by kernel_rfl);simp only [Prod.mk.injEq] at a;obtain⟨c,h1,hb⟩:=a;obtain⟨u1,d,e,k1,k2,k3,hc⟩:=xS (S:=9) (it:=3) (Yb:=3) (Yc:=9) underlying156 hi c h1 hb underlying674 h0 b w;refine gw ?_;refine WL.go rfl (OX.Sg rfl rfl rfl k1 ?_);refine eP ?_;refine WL.go rfl (OX.Sh rfl rfl rfl k2 ?_);refine cS ?_;refine WP .r (PV.B5 Mk 0 (show some (⟨w.heap.size,0,none⟩:Addr)=some ⟨w.heap.size,0,none⟩ from rfl) rfl rfl rfl (by omega))<|bz ?_;refine WL.go rfl (OX.Ya rfl rfl rfl k3 ?_);refine(bm) ?_;exact⟨rfl,hc⟩
theorem vS(d:s.size≤140737488355328) (g:w.cell? ⟨4,0,none⟩=some .nilIface):Calls prog 374 #[.string f,.string s] w fun e w'=>∃b,e=.returned (.pointer (some ⟨b,0,none⟩))∧aQ [] w w':=by
 have hr:w.rangeAt 4 0 [.nilIface]:=fun j v a=>by
  cases j with
  | zero=>simp at a;subst a;exact g
  | succ j=>simp at a
 refine enter func374 rfl ntmps374 rfl<|?_;have aR:=St.s0 w;refine gw ?_;have i:=aR.cj;refine WC.cJ (m:=4) (E:=bK [(2,fun v _=>v=.string s)]) aR (aS (⟨fun _ _ _ _ _ _ _ h=>h,trivial⟩)) mixed (by kernel_rfl)<|bz ?_;refine DW.c0 (fun l c o=>kq d)<|?_;refine DP .r (fun _ c=>PV.nI yl (aV hr (St.cg c.2) (by simp)) rfl rfl)<|(cG)<|?_;rintro w1 ⟨q,st1⟩ ⟨_,_⟩;refine WP .r (PV.bs (us:=[.string f,.string s,.nilIface]) EJ rfl rfl rfl)<|(dE) st1 fun u w2 y z st2=>?_;refine(bm) ?_;exact⟨_,rfl,(St.cg st2)⟩
theorem vT(d:s.size≤140737488355328) (g:w.cell? ⟨4,0,none⟩=some (.iface t p)):Calls prog 374 #[.string f,.string s] w fun e w'=>∃b,e=.returned (.pointer (some ⟨b,0,none⟩))∧aQ [] w w':=by
 have hr:w.rangeAt 4 0 [(.iface t p)]:=fun j v a=>by
  cases j with
  | zero=>simp at a;subst a;exact g
  | succ j=>simp at a
 refine enter func374 rfl ntmps374 rfl<|?_;have aR:=St.s0 w;refine gw ?_;have i:=aR.cj;refine WC.cJ (m:=4) (E:=bK [(2,fun v _=>v=.string s)]) aR (aS (⟨fun _ _ _ _ _ _ _ h=>h,trivial⟩)) mixed (by kernel_rfl)<|bz ?_;refine DW.c0 (fun l c o=>kq d)<|?_;refine DP .r (fun _ c=>PV.nI yl (aV hr (St.cg c.2) (by simp)) rfl rfl)<|(cG)<|?_;rintro w1 ⟨q,st1⟩ ⟨_,_⟩;refine WP .r (PV.bs (us:=[.string f,.string s,(.iface t p)]) EJ rfl rfl rfl)<|(dE) st1 fun u w2 y z st2=>?_;refine(bm) ?_;exact⟨_,rfl,(St.cg st2)⟩
theorem abh:prog.globalNamed "strconv.ErrSyntax" = some 4:=by kernel_rfl
theorem yB(ht:gV prog A w) (a:s.size≤140737488355328):Calls prog 374 #[.string f,.string s] w fun e w'=>∃b,e=.returned (.pointer (some ⟨b,0,none⟩))∧aQ [] w w':=by
 obtain⟨ev,c,d⟩:=ht.err (.inl rfl) abh
 rcases d with rfl | ⟨t,p,rfl⟩
 ·
  exact vS a c
 exact vT a c
theorem vU(d:s.size≤140737488355328) (g:w.cell? ⟨5,0,none⟩=some .nilIface):Calls prog 375 #[.string f,.string s] w fun e w'=>∃b,e=.returned (.pointer (some ⟨b,0,none⟩))∧aQ [] w w':=by
 have hr:w.rangeAt 5 0 [.nilIface]:=fun j v a=>by
  cases j with
  | zero=>simp at a;subst a;exact g
  | succ j=>simp at a
 refine enter func375 rfl ntmps375 rfl<|?_;have aR:=St.s0 w;refine gw ?_;have i:=aR.cj;refine WC.cJ (m:=4) (E:=bK [(2,fun v _=>v=.string s)]) aR (aS (⟨fun _ _ _ _ _ _ _ h=>h,trivial⟩)) mixed (by kernel_rfl)<|bz ?_;refine DW.c0 (fun l c o=>kq d)<|?_;refine DP .r (fun _ c=>PV.nI yl (aV hr (St.cg c.2) (by simp)) rfl rfl)<|(cG)<|?_;rintro w1 ⟨q,st1⟩ ⟨_,_⟩;refine WP .r (PV.bs (us:=[.string f,.string s,.nilIface]) EJ rfl rfl rfl)<|(dE) st1 fun u w2 y z st2=>?_;refine(bm) ?_;exact⟨_,rfl,(St.cg st2)⟩
theorem vV(d:s.size≤140737488355328) (g:w.cell? ⟨5,0,none⟩=some (.iface t p)):Calls prog 375 #[.string f,.string s] w fun e w'=>∃b,e=.returned (.pointer (some ⟨b,0,none⟩))∧aQ [] w w':=by
 have hr:w.rangeAt 5 0 [(.iface t p)]:=fun j v a=>by
  cases j with
  | zero=>simp at a;subst a;exact g
  | succ j=>simp at a
 refine enter func375 rfl ntmps375 rfl<|?_;have aR:=St.s0 w;refine gw ?_;have i:=aR.cj;refine WC.cJ (m:=4) (E:=bK [(2,fun v _=>v=.string s)]) aR (aS (⟨fun _ _ _ _ _ _ _ h=>h,trivial⟩)) mixed (by kernel_rfl)<|bz ?_;refine DW.c0 (fun l c o=>kq d)<|?_;refine DP .r (fun _ c=>PV.nI yl (aV hr (St.cg c.2) (by simp)) rfl rfl)<|(cG)<|?_;rintro w1 ⟨q,st1⟩ ⟨_,_⟩;refine WP .r (PV.bs (us:=[.string f,.string s,(.iface t p)]) EJ rfl rfl rfl)<|(dE) st1 fun u w2 y z st2=>?_;refine(bm) ?_;exact⟨_,rfl,(St.cg st2)⟩
theorem abj:prog.globalNamed "strconv.ErrRange" = some 5:=by kernel_rfl
theorem yC(ht:gV prog A w) (a:s.size≤140737488355328):Calls prog 375 #[.string f,.string s] w fun e w'=>∃b,e=.returned (.pointer (some ⟨b,0,none⟩))∧aQ [] w w':=by
 obtain⟨ev,c,d⟩:=ht.err (.inr rfl) abj
 rcases d with rfl | ⟨t,p,rfl⟩
 ·
  exact vU a c
 exact vV a c
theorem Bz(ht:gV prog A w) (a:s.size≤140737488355328):Calls prog 206 #[.string f,.string s,.int .i64 0,.int .i64 0,.iface 412 (.int .i64 2)] w fun e w'=>∃b,e=.returned (.iface 415 (.pointer (some ⟨b,0,none⟩)))∧aQ [] w w':=by
 refine enter func206 rfl ntmps206 rfl<|?_;have aR:=St.s0 w;refine aO ?_;refine bz ?_;refine WP .r (PV.Hv underlying412 (by intro ms h;cases h) rfl)<|WP .r (PV.NT underlying167 (by kernel_rfl) underlying412 rfl rfl)<|(aN) (fun g12=>?_) fun g12=>?_
 ·
  refine(bL) Ue (yB (ht.ext (St.cg aR)) a) ?_;rintro _ w1 ⟨b,rfl,s1⟩;have st1:=aR.step s1;refine WP .r (PV.Hv underlying415 (by intro ms h;cases h) rfl)<|(bm) ?_;exact⟨_,rfl,(St.cg st1)⟩
 ·
  exact gu g12
 -- g i j c.0 c.1 d.2 d.3 l
theorem BA(ht:gV prog A w) (a:s.size≤140737488355328):Calls prog 206 #[.string f,.string s,.int .i64 0,.int .i64 0,.iface 412 (.int .i64 1)] w fun e w'=>∃b,e=.returned (.iface 415 (.pointer (some ⟨b,0,none⟩)))∧aQ [] w w':=by
 refine enter func206 rfl ntmps206 rfl<|?_;have aR:=St.s0 w;refine aO ?_;refine bz ?_;refine WP .r (PV.Hv underlying412 (by intro ms h;cases h) rfl)<|WP .r (PV.NT underlying167 (by kernel_rfl) underlying412 rfl rfl)<|(aN) (fun g12=>?_) fun g12=>?_
 ·
  exact gu g12
 ·
  refine bz ?_;refine WP .r (PV.Hv underlying412 (by intro ms h;cases h) rfl)<|WP .r (PV.NT underlying167 (by kernel_rfl) underlying412 rfl rfl)<|(aN) (fun g19=>?_) fun g19=>?_
  ·
   refine(bL) Uf (yC (ht.ext (St.cg aR)) a) ?_;rintro _ w1 ⟨b,rfl,s1⟩;have st1:=aR.step s1;refine WP .r (PV.Hv underlying415 (by intro ms h;cases h) rfl)<|(bm) ?_;exact⟨_,rfl,(St.cg st1)⟩
  exact gu g19
 -- d g c.2 c.3 i
theorem BB{ev:Value}(ht:gV prog A w) (a:s.size≤140737488355328) (he:ev=.iface 412 (.int .i64 2)∨ev=.iface 412 (.int .i64 1)):Calls prog 206 #[.string f,.string s,.int .i64 0,.int .i64 0,ev] w fun e w'=>∃b,e=.returned (.iface 415 (.pointer (some ⟨b,0,none⟩)))∧aQ [] w w':=by
 rcases he with rfl | rfl
 ·
  exact Bz ht a
 exact BA ht a
theorem BC(ht:gV prog A w) (a:s.size≤140737488355328):Calls prog 126 #[.string s] w fun e w'=>∃(v:Int) (ok:Bool) (ev:Value),e=.returned (.tuple #[.int .i64 v,ev])∧(-9223372036854775808≤v∧v≤9223372036854775807)∧((ok=true∧ev=.nilIface)∨(ok=false∧∃t y,ev=.iface t y))∧aQ [] w w':=by
 refine enter func126 rfl ntmps126 rfl<|?_;have aR:=St.s0 w;refine(bL) T7 (Bx a w) ?_;rintro _ w1 ⟨v,ok,ev,rfl,c,d,g,s1⟩;have st1:=aR.step s1;refine o5 ?_;refine WP .r (PV.NS ue rfl d)<|(aN) (fun g12=>?_) fun g12=>?_
 ·
  refine(bL) T8 (BB (ht.ext (St.cg st1)) a (g (by simpa using g12))) ?_;rintro _ w2 ⟨b,rfl,s2⟩;have st2:=st1.step s2;refine(qX) ?_;exact⟨v,false,_,rfl,c,.inr ⟨rfl,_,_,rfl⟩,(St.cg st2)⟩
 refine(qX) ?_;exact⟨v,true,.nilIface,rfl,c,.inl ⟨rfl,rfl⟩,(St.cg st1)⟩
end Go.Rc

