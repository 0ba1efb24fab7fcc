/- Walks over the program, part WLibE. Conditions: as each theorem says. -/
import Derived.Test.YtjpagoacbadijaaGreatDoorJFacts
import Derived.Test.YtjpagoacbadijaaGreatDoorJWK
import Derived.Test.YtjpagoacbadijaaGreatDoorJBe
import Derived.Test.YtjpagoacbadijaaGreatDoorJWB
import Derived.Test.YtjpagoacbadijaaGreatDoorJBd
import Derived.Test.YtjpagoacbadijaaGreatDoorShelf
import Derived.Test.YtjpagoacbadijaaGreatDoorJWD
import Derived.Test.YtjpagoacbadijaaGreatDoorJBf
import Derived.Test.YtjpagoacbadijaaGreatDoorJBb
set_option linter.all false
namespace Go.Rc
open Go Go.Proofs Go.Proofs.Tryz
variable {aa:List az}{x:cI}{D:SD}{xb bb:Nat}{w:World}{M Z A:Nat→Prop}{s f:ByteArray}{E:EA}{k:Key}{s':ES}{n:Int}{t:TypeId}{p:Value}
set_option maxHeartbeats 400000
def Ts(aa:List az) (x:cI) (D:SD) (xb bb f:Nat):Prop:=∀(w:World) (M Z:Nat→Prop) (s:ES) (E:EA) (k:Key) (s':ES),St w M Z w [As.blk xb 88 (E.cells D.s bb s),As.kM prog 134 aa x D,As.map Key.val bb s.busy,As.os RR.key 39 2 E.a3 E.n3 E.c3 s.cw]→Rd RR.aC 4 Z w E.a1 E.n1 E.c1 s.b.ab→Rd RR.e8 8 Z w E.a2 E.n2 E.c2 s.b.ah→Good aa x.ab s→eU aa k→hM aa (valOf aa x.ab) f s k=some s'→s'.cw.length≤1000000→
 Calls prog 33 #[.pointer (some ⟨xb,0,none⟩),k.val] w fun e w'=>∃(E':EA) (Z':Nat→Prop),e=.returned (.tuple #[])∧dV w.heap.size Z Z'∧Rd RR.aC 4 Z' w' E'.a1 E'.n1 E'.c1 s'.b.ab∧Rd RR.e8 8 Z' w' E'.a2 E'.n2 E'.c2 s'.b.ah∧St w M Z' w' [As.blk xb 88 (E'.cells D.s bb s'),As.kM prog 134 aa x D,As.map Key.val bb s'.busy,As.os RR.key 39 2 E'.a3 E'.n3 E'.c3 s'.cw]
set_option maxHeartbeats 1600000 in
theorem x7{s:ES}{f:Nat}{r:Bool}(hR:ao aa) (gq:St w M Z w [As.blk xb 88 (E.cells D.s bb s),As.kM prog 134 aa x D,As.map Key.val bb s.busy,As.os RR.key 39 2 E.a3 E.n3 E.c3 s.cw]) (hi:Rd RR.aC 4 Z w E.a1 E.n1 E.c1 s.b.ab) (hr:Rd RR.e8 8 Z w E.a2 E.n2 E.c2 s.b.ah) (Gb:Good aa x.ab s) (HX:s.b.ab.length≤1000000) (xm:∀g,g<f→Ts aa x D xb bb g) (Fp:cc aa (valOf aa x.ab) f s k 0=some (s',r)) (x8:s'.cw.length≤1000000):Calls prog 65 #[.pointer (some ⟨xb,0,none⟩),k.val] w fun e w'=>∃(q:EA) (Z':Nat→Prop),e=.returned (.bool r)∧dV w.heap.size Z Z'∧Rd RR.aC 4 Z' w' q.a1 q.n1 q.c1 s'.b.ab∧Rd RR.e8 8 Z' w' q.a2 q.n2 q.c2 s'.b.ah∧St w M Z' w' [As.blk xb 88 (q.cells D.s bb s'),As.kM prog 134 aa x D,As.map Key.val bb s'.busy,As.os RR.key 39 2 q.a3 q.n3 q.c3 s'.cw]:=by
 refine enter func65 rfl ntmps65 rfl<|?_;have aO:=gq;have st1:=aO.fr hi;have st2:=st1.fr hr;refine(dr) st2 fun b3 w1 E7 vh jg=>?_;refine mo ?_;refine WC.jv (σ:=Nat × ES × EA × Nat × (Nat→Prop)) (cT:=fun(u,s1,a,ix,O)=>[(0,.pointer (some ⟨xb,0,none⟩)),(3,.pointer (some ⟨b3,0,none⟩)),(5,.int .i64 (ix:Int))]) (F:=fun(u,s1,a,ix,O)=>[As.blk xb 88 (a.cells D.s bb s1),As.map Key.val bb s1.busy,As.os RR.key 39 2 a.a3 a.n3 a.c3 s1.cw,As.ro RR.aC 4 a.a1 a.n1 a.c1 s1.b.ab,As.ro RR.e8 8 a.a2 a.n2 a.c2 s1.b.ah]) (I:=fun(u,s1,a,ix,O)=>(cc aa (valOf aa x.ab) u s1 k ix=some (s',r))∧(Good aa x.ab s1)∧(u≤f)∧(dV w.heap.size Z O)∧True) (μ:=fun(u,s1,a,ix,O)=>u) (Zf:=fun(u,s1,a,ix,O)=>O) (f,s,E,0,Z) (jg.p1.p2.p6.p6.p5) Sub.t (⟨Fp,Gb,Nat.le_refl _,dV.refl _ _,trivial⟩)<|?_;rintro⟨u,s1,a,ix,O⟩ w2 z ⟨d,y,Xl,R,_⟩;simp only [CA,NA] at z d y Xl R ⊢
 obtain⟨S,rfl⟩:∃g,u=g+1:=by cases u with | zero=>simp [cc] at d | succ g=>exact⟨g,rfl⟩
 unfold cc at d
 have Tt:=y.len
 have Xm:s1.b.ab.length≤1000000:=by rw [y.aC,← Gb.aC];exact HX
 refine(bp) ub z.b0<|(aP) (fun g17=>?_) fun g17=>?_
 ·
  simp at g17
  rw [if_neg (by simp [g17])] at d;refine cB ?_;have CE:=z.bG;have Fq:=z.hV;have Fs:=z.size;refine WC.mj (m:=11) [9] (E:=bS [(6,fun v _=>∃f1 f2 f3,v=.tuple #[.agg ((aD s1.b.ah k).row f1 f2 f3).toArray,.bool (ay s1.b.ah k).isSome]),(10,PB w2.heap.size 48 [.int .i64 0,.string ⟨#[]⟩,.string ⟨#[]⟩,.slice none 0 0,.int .i64 0,.int .i64 0,.int .i64 0,.bool false])]) z (aU (⟨fun _ _ _ _ _ _ _ h=>h,⟨fun _ _ _ _ _ _ c h=>PB.st CE c h,trivial⟩⟩)) mixed (by kernel_rfl) rfl ?_;refine cB ?_;refine DP .r (fun _ i=>PV.ld1 (j:=3) el (bN.range (As.gb i.2.g0)) rfl rfl)<|(fk) ak St.g5<|?_;refine DW.e rfl rfl rfl rfl rfl (fun wx i hF=>OX.call ov rfl rfl ((cX (k:=k) (As.gr i.2.g4)).mono ?_))<|?_
  ·
   rintro _ wy ⟨f1,f2,f3,rfl,hy⟩;exact⟨_,rfl,⟨Nat.le_trans i.1 hy.size,i.2.step hy⟩,hy.p0,_,rfl,⟨f1,f2,f3,rfl⟩⟩
  rintro _ wz _ ⟨f1,f2,f3,rfl⟩;refine ct ?_;refine DW.e rfl rfl rfl rfl rfl (fun wx i hF=>OX.alloc nC rfl fun b wy C hb=>⟨⟨Nat.le_trans i.1 C.ext.size,i.2.step C.ext⟩,C.ext.p0,_,rfl,_,rfl,Nat.le_trans i.1 C.ge,hb⟩)<|?_;rintro _ wz _ ⟨b6,rfl,_,_⟩;refine(cy) ?_;rintro w3 ⟨xO,l5⟩ ⟨vq,⟨_,_⟩⟩;have ks:=l5.pr vq CE Fq Fs;refine(dh) fA ks fun w4 l4 mK jn=>?_;refine nx ?_;refine WL.nil (EX.np ?_);refine ct ?_;refine WC.dA (t:=33) (v:=.bool (!(ay s1.b.ah k).isSome || (aD s1.b.ah k).bq)) jn ?_<|?_
  ·
   refine(cz) (fun HY=>?_) (fun HY=>?_)
   ·
    exact(bW) (by simp only [HY];first | rfl | simp) (jn)
   refine(bp) di jn.b0<|?_;exact(bW) (by simp only [HY];first | rfl | simp) (jn)
  intro w5 T;refine(aP) (fun Xn=>?_) fun Xn=>?_
  ·
   rw [if_pos Xn] at d;simp only [Option.some.injEq,Prod.mk.injEq] at d;obtain⟨l,o⟩:=d;subst l;subst o;refine(bF) ?_;exact⟨a,_,rfl,R,(As.gr T.g4),(As.gr T.g5),T.p3.p3.p7.p4.k4⟩
  rw [if_neg (by rw [Xn];simp)] at d;refine cB ?_;have LY:=T.bG;refine WC.dS (m:=7) T mixed<|(gP) aK St.g0<|cB ?_;refine DP .r (fun _ i=>PV.ld1 (j:=1) aK (bN.range (As.gb i.2.g1)) rfl rfl)<|(cy)<|?_;rintro w6 ⟨xZ,U⟩ _;refine(aP) (fun V=>?_) fun V=>?_
  ·
   simp at V
   rw [if_pos V] at d;simp only [Option.some.injEq,Prod.mk.injEq] at d;obtain⟨l,o⟩:=d;subst l;subst o;refine(bF) ?_;exact⟨a,_,rfl,R,(As.gr U.g4),(As.gr U.g5),U.p3.p3.p7.p4.k4⟩
  simp at V
  rw [if_neg V] at d;refine ct ?_;have Nk:=U.bG;refine WC.dS (m:=11) U mixed<|cB ?_;refine DP .r (fun _ i=>PV.ld1 (j:=3) el (bN.range (As.gb i.2.g1)) rfl rfl)<|cB ?_;refine DP .r (fun _ i=>PV.ld1 (j:=1) aK (bN.range (As.gb i.2.g1)) rfl rfl)<|(fk) ak St.g6<|(cy)<|?_;rintro w7 ⟨xP,dY⟩ _;have eu:=dY;refine(cA) Ve (Ar eu.e0 (As.gr eu.g5) (by omega)) ?_;rintro _ w8 ⟨q1,q2,q3,Z2,rfl,x9,nF⟩;have cQ:=St.lv eu nF x9;have Nu:=mx s1.b.ah s1.b.ad k;have hgg:=St.dw nF;have sD:=eu.size;have Xo:=R.trans x9 sD;have df:=cQ.dZ (by omega);have uh:=Xo.trans (dV.nR (F:=fun x=>x∈bl q1) hgg) sD;refine px ?_;refine WP .r (PV.ld1 (j:=3) el df.b2 rfl rfl)<|nx ?_;have W:=df;refine(cA) VS (vn W.e0 (As.gr W.g6) (As.gr W.g0) (Bb y (by omega))) ?_;rintro _ w9 ⟨p1,p2,p3,Z3,rfl,ya,rP⟩;have Q:=St.lv W rP ya;have X:=uh.trans ya W.size;have BN:=((As.gs Q.g0)).len;have hca:=Bc y (group:=(aB s1.b.ah s1.b.ad k)) (by omega);refine(aP) (fun Xp=>?_) fun Xp=>?_
  ·
   simp at Xp
   have Gi:(bU s1.b.ah (aB s1.b.ah s1.b.ad k))[ix]?=none:=List.getElem?_eq_none (by omega);rw [Gi] at d;simp only [] at d;simp only [Option.some.injEq,Prod.mk.injEq] at d;obtain⟨l,o⟩:=d;subst l;subst o;refine(jJ) bz Q.b3<|nx ?_;have G:=Q;refine(cA) PE (rO G.e0 (As.gr G.g6) (As.gr G.g7) (As.gr G.g1) (by omega) (by omega)) ?_;rintro _ kl ⟨m1,m2,m3,m4,m5,m6,Z4,rfl,Y,nH⟩;have K:=St.lv G nH Y;have Ft:=X.trans Y G.size;have Mb:=St.dw nH;have Mc:=St.dw nH.p1;have rQ:=G.size;refine bP ?_;refine WL.go rfl (OX.N1 jE (As.gb K.g5) rfl rfl rfl rfl rfl fun lB v7 nZ=>?_);have L:=K.p5.BZ v7 nZ;refine nx ?_;have H:=L.yF (B:=As.blk xb 88 (EA.cells ⟨m1,m4,a.a3,m2,m3,m5,m6,a.n3,a.c3⟩ D.s bb {s1 with b:=cU s1.b (aB s1.b.ah s1.b.ad k) false})) (rfl)
   have Q8:(cU s1.b (aB s1.b.ah s1.b.ad k) false).ah.length=s1.b.ah.length:=by simp [cU]
   have Q0:(cU s1.b (aB s1.b.ah s1.b.ad k) false).ab=s1.b.ab:=rfl;have ew:=H.p1.dZ (by rw [Q0];omega);have N:=ew.p2.dZ (by omega);have Gc:=(Ft.trans (dV.nR (F:=fun x=>x∈bl m1) Mb) rQ).trans (dV.nR (F:=fun x=>x∈bl m4) Mc) rQ;refine(bF) ?_;exact⟨⟨m1,m4,a.a3,m2,m3,m5,m6,a.n3,a.c3⟩,_,rfl,Gc,(As.gr N.g1),(As.gr N.g0),N.p7.p7.pQ.p5.k4⟩
  simp at Xp
  obtain⟨ch,se⟩:∃ch,(bU s1.b.ah (aB s1.b.ah s1.b.ad k))[ix]?=some ch:=⟨_,ae (by omega)⟩;rw [se] at d;simp only [] at d;have Fg:=fc y se;refine ct ?_;obtain⟨jf,cx⟩:=Ow.addr (As.gs Q.g0) se;refine ct ?_;refine WP .r (PV.dM ED cx rfl rfl (by omega))<|(bj) zG (Ow.tt (As.gs Q.g0) (by omega) cx se)<|(ft) Q fun L4 kl x3 x4 G=>?_;refine(dh) Ix G fun lB CC yG K=>?_;refine(jJ) ak K.b0<|(eZ) (x5 (k:=ch.read) (sb:=D.s) (s:=s1) (E:=a) (As.gb K.g4) (As.gm K.g5) y.busy (As.gr K.g8)) K fun pJ s12 L=>?_;refine(aP) (fun Q9=>?_) fun Q9=>?_
  ·
   simp at Q9
   rw [if_pos Q9] at d;obtain⟨t,I0,Au⟩:=Option.bind_eq_some_iff.1 d;have Gd:=(bM hR S).1 _ _ _ I0 y Fg;have Xq:=(bM hR S).2.1 _ _ _ _ _ Au Gd.1;refine(jJ) ak L.b0<|?_;have H:=L.p6.p6.ts.p7;refine(cA) Lb (xm S (by omega) _ _ _ _ _ _ _ H.e4 (As.gr H.g8) (As.gr H.g9) y Fg I0 (by have:=Xq.2.cw;omega)) ?_;rintro _ rJ ⟨E2,Z5,rfl,Fu,Xr,Xs,uo⟩;have ew:=St.lv H uo Fu;have Gc:=X.trans Fu H.size;have N:=ew.fr (Xr);have dE:=N.fr (Xs);have P:=dE.ts.drop;have J:=P.ts.drop;refine cW ?_;refine dX (S,t,E2,ix,Z5) ⟨J.p6.drop.p6.drop.p6.drop.p6.drop.p6.p1.p2.p6.p6.p5,⟨Au,Gd.1,by omega,Gc,trivial⟩⟩
  simp at Q9
  rw [if_neg (by rw [Q9];simp)] at d;refine ct ?_;have Md:=L.bG;have Ra:=L.hV;have Rb:=L.size;refine WC.mj (m:=12) [10] (E:=bS [(7,fun v _=>∃f1 f2 f3,v=.tuple #[.agg ((aD s1.b.ah ch.eP).row f1 f2 f3).toArray,.bool (ay s1.b.ah ch.eP).isSome]),(11,PB pJ.heap.size 48 [.int .i64 0,.string ⟨#[]⟩,.string ⟨#[]⟩,.slice none 0 0,.int .i64 0,.int .i64 0,.int .i64 0,.bool false])]) L (aU (⟨fun _ _ _ _ _ _ _ h=>h,⟨fun _ _ _ _ _ _ c h=>PB.st Md c h,trivial⟩⟩)) mixed (by kernel_rfl) rfl ?_;refine cB ?_;refine DP .r (fun _ i=>PV.ld1 (j:=3) el (bN.range (As.gb i.2.g4)) rfl rfl)<|(tu) ak St.g0<|?_;refine DW.e rfl rfl rfl rfl rfl (fun wx i hF=>OX.call ov rfl rfl ((cX (k:=ch.eP) (As.gr i.2.g8)).mono ?_))<|?_
  ·
   rintro _ wy ⟨f1,f2,f3,rfl,hy⟩;exact⟨_,rfl,⟨Nat.le_trans i.1 hy.size,i.2.step hy⟩,hy.p0,_,rfl,⟨f1,f2,f3,rfl⟩⟩
  rintro _ wz _ ⟨f1,f2,f3,rfl⟩;refine ct ?_;refine DW.e rfl rfl rfl rfl rfl (fun wx i hF=>OX.alloc nC rfl fun b wy C hb=>⟨⟨Nat.le_trans i.1 C.ext.size,i.2.step C.ext⟩,C.ext.p0,_,rfl,_,rfl,Nat.le_trans i.1 C.ge,hb⟩)<|?_;rintro _ wz _ ⟨b11,rfl,_,_⟩;refine(cy) ?_;rintro rJ ⟨I1,H⟩ ⟨Xt,⟨_,_⟩⟩;have ew:=H.pr Xt Md Ra Rb;refine(dh) fA ew fun yH Nl Nn N=>?_;refine nx ?_;refine WL.nil (EX.np ?_);refine ct ?_;have aeD:=N.bG;refine WC.cJ (m:=13) (E:=bS [(10,fun v _=>v=.int .i64 (aQ (valOf aa x.ab) s1.b ch.read))]) N (aU (⟨fun _ _ _ _ _ _ _ h=>h,trivial⟩)) mixed (by kernel_rfl)<|(gP) EC St.g5<|(tu) bz St.g5<|(tu) ak St.g1<|?_;refine DW.e rfl rfl rfl rfl rfl (fun wx i hF=>OX.call PF rfl rfl ((sC (k:=ch.read) hR Fg (i.2.one (.tail _ (.tail _ (.tail _ (.tail _ (.tail _ (.tail _ (.tail _ (.tail _ (.tail _ (.tail _ (.tail _ (.head _))))))))))))) (As.gr i.2.g8) (As.gr i.2.g9)).mono ?_))<|?_
  ·
   rintro _ wy ⟨rfl,hy⟩;exact⟨_,rfl,⟨Nat.le_trans i.1 hy.bR.size,i.2.wZ nQ hy⟩,hy.bR.mono (fun _ _ hx=>AZ nQ hx),_,rfl,rfl⟩
  rintro _ wz _ rfl;refine(gP) aK St.g0<|(cy)<|?_;rintro v8 ⟨aaN,dE⟩ ⟨_,_⟩;refine(aP) (fun HZ=>?_) fun HZ=>?_
  ·
   simp at HZ
   rw [if_pos HZ] at d;refine(bj) ak (bN.range (As.gb dE.g10))<|(eZ) (dz (k:=k)) dE fun xW s16 P=>?_;refine(aP) (fun Me=>?_) fun Me=>?_
   ·
    rw [if_pos Me] at d;simp only [Option.some.injEq,Prod.mk.injEq] at d;obtain⟨l,o⟩:=d;subst l;subst o;refine(jJ) bz P.b5<|nx ?_;have J:=P;refine(cA) PE (rO J.e0 (As.gr J.g8) (As.gr J.g9) (As.gr J.g3) (by omega) (by omega)) ?_;rintro _ CK ⟨m1,m2,m3,m4,m5,m6,Z4,rfl,Y,yb⟩;have fh:=St.lv J yb Y;have Ft:=X.trans Y J.size;have Mb:=St.dw yb;have Mc:=St.dw yb.p1;have rQ:=J.size;refine bP ?_;refine WL.go rfl (OX.N1 jE (As.gb fh.g7) rfl rfl rfl rfl rfl fun Db Tu MW=>?_);have fO:=fh.p7.BZ Tu MW;refine nx ?_;have iJ:=fO.yF (B:=As.blk xb 88 (EA.cells ⟨m1,m4,a.a3,m2,m3,m5,m6,a.n3,a.c3⟩ D.s bb {s1 with b:=cU s1.b (aB s1.b.ah s1.b.ad k) true})) (rfl)
    have Q8:(cU s1.b (aB s1.b.ah s1.b.ad k) true).ah.length=s1.b.ah.length:=by simp [cU]
    have Q0:(cU s1.b (aB s1.b.ah s1.b.ad k) true).ab=s1.b.ab:=rfl;have j9:=iJ.p1.dZ (by rw [Q0];omega);have kY:=j9.p2.dZ (by omega);have Gc:=(Ft.trans (dV.nR (F:=fun x=>x∈bl m1) Mb) rQ).trans (dV.nR (F:=fun x=>x∈bl m4) Mc) rQ;refine(bF) ?_;exact⟨⟨m1,m4,a.a3,m2,m3,m5,m6,a.n3,a.c3⟩,_,rfl,Gc,(As.gr kY.g1),(As.gr kY.g0),kY.p9.p9.Ie.p5.k4⟩
   rw [if_neg (by rw [Me];simp)] at d;simp only [Option.some.injEq,Prod.mk.injEq] at d;obtain⟨l,o⟩:=d;subst l;subst o;refine aN ?_;refine(bF) ?_;exact⟨a,_,rfl,X,(As.gr P.g8),(As.gr P.g9),P.p7.p7.pQ.p8.k4⟩
  simp at HZ
  rw [if_neg (by omega)] at d;refine jx ?_;refine dX (S,s1,a,ix+1,Z3) ⟨dE.drop.drop.drop.drop.drop,⟨d,y,by omega,X,trivial⟩⟩
 simp at g17
 rw [if_pos g17] at d;simp only [Option.some.injEq,Prod.mk.injEq] at d;obtain⟨l,o⟩:=d;subst l;subst o;refine(bF) ?_;exact⟨a,_,rfl,R,(As.gr z.g3),(As.gr z.g4),z.p2.p2.p6.p3.k4⟩
set_option maxHeartbeats 1600000 in
theorem CO{s:ES}{f:Nat}(P:ao aa) (gq:St w M Z w [As.blk xb 88 (E.cells D.s bb s),As.kM prog 134 aa x D,As.map Key.val bb s.busy,As.os RR.key 39 2 E.a3 E.n3 E.c3 s.cw]) (hi:Rd RR.aC 4 Z w E.a1 E.n1 E.c1 s.b.ab) (hr:Rd RR.e8 8 Z w E.a2 E.n2 E.c2 s.b.ah) (Gb:Good aa x.ab s) (HX:s.b.ab.length≤1000000) (Tv:ga aa k 0) (xm:∀g,g<f→Ts aa x D xb bb g) (Fp:ei aa (valOf aa x.ab) f s k [] []=some s') (x8:s'.cw.length≤1000000):Calls prog 66 #[.pointer (some ⟨xb,0,none⟩),k.val] w fun e w'=>∃(H:EA) (Z':Nat→Prop),e=.returned (.tuple #[])∧dV w.heap.size Z Z'∧Rd RR.aC 4 Z' w' H.a1 H.n1 H.c1 s'.b.ab∧Rd RR.e8 8 Z' w' H.a2 H.n2 H.c2 s'.b.ah∧St w M Z' w' [As.blk xb 88 (H.cells D.s bb s'),As.kM prog 134 aa x D,As.map Key.val bb s'.busy,As.os RR.key 39 2 H.a3 H.n3 H.c3 s'.cw]:=by
 refine enter func66 rfl ntmps66 rfl<|?_;have aO:=gq;have st1:=aO.fr hi;have st2:=st1.fr hr;have jg:=st2.fY RR.key 39 2;have iH:=jg.fY RR.str 9 1;refine(dr) iH fun b3 w1 E7 vh l5=>?_;refine aN ?_;refine nx ?_;refine WC.jv (σ:=Nat × ES × EA × (List Key) × (List ByteArray) × (Nat→Prop) × (Option Addr) × Nat × Nat × (Option Addr) × Nat × Nat) (cT:=fun(J,s1,i,reads,ai,T,z,C,L,Q,N,R)=>[(0,.pointer (some ⟨xb,0,none⟩)),(3,.pointer (some ⟨b3,0,none⟩)),(4,.slice z C L),(5,.slice Q N R)]) (F:=fun(J,s1,i,reads,ai,T,z,C,L,Q,N,R)=>[As.os RR.key 39 2 z C L (reads),As.os RR.str 9 1 Q N R (ai),As.blk xb 88 (i.cells D.s bb s1),As.map Key.val bb s1.busy,As.os RR.key 39 2 i.a3 i.n3 i.c3 s1.cw,As.ro RR.aC 4 i.a1 i.n1 i.c1 s1.b.ab,As.ro RR.e8 8 i.a2 i.n2 i.c2 s1.b.ah]) (I:=fun(J,s1,i,reads,ai,T,z,C,L,Q,N,R)=>(ei aa (valOf aa x.ab) J s1 k reads ai=some s')∧(Good aa x.ab s1)∧(J≤f)∧(dV w.heap.size Z T)∧(ga aa k ai.length)∧(reads.length=ai.length)∧(∀a∈reads,eU aa a)∧(∀y∈bl z,w.heap.size≤y)∧True) (μ:=fun(J,s1,i,reads,ai,T,z,C,L,Q,N,R)=>J) (Zf:=fun(J,s1,i,reads,ai,T,z,C,L,Q,N,R)=>T) (f,s,E,[],[],Z,none,0,0,none,0,0) (l5.p3.p4.p8.p8.p7.p6.p7) Sub.t (⟨Fp,Gb,Nat.le_refl _,dV.refl _ _,Tv,rfl,(fun a u=>by cases u),(by simp [bl]),trivial⟩)<|?_;rintro⟨J,s1,i,reads,ai,T,z,C,L,Q,N,R⟩ w2 G ⟨q,C5,Xl,hZ,CP,hlen,Nf,Tw,_⟩;simp only [CA,NA] at G q C5 Xl hZ CP hlen Nf Tw ⊢
 obtain⟨Nv,rfl⟩:∃g,J=g+1:=by cases J with | zero=>simp [ei] at q | succ g=>exact⟨g,rfl⟩
 unfold ei at q
 have Tt:=C5.len
 have Xm:s1.b.ab.length≤1000000:=by rw [C5.aC,← Gb.aC];exact HX
 have h6:=CP.le P;have C7:=((As.gs G.g0)).len;have vi:=((As.gs G.g1)).len;have BN:=((As.gr G.g6)).len;refine(bp) ub G.b2<|(aP) (fun g13=>?_) fun g13=>?_
 ·
  simp at g13
  rw [if_neg (by simp [g13])] at q;refine cB ?_;obtain⟨o,HK⟩:∃t,bC aa k ai=t:=⟨_,rfl⟩;rw [HK] at q;have Re:=@ga.next aa k P ai CP;rw [HK] at Re;have Tx:=G.bG;have Xu:=G.hV;have Xv:=G.size;refine WC.cJ (m:=11) (E:=bS [(9,fun v _=>v=o.val),(10,PB w2.heap.size 144 [.bool false,.string ⟨#[]⟩,.int .i64 0,.string ⟨#[]⟩])]) G (aU (⟨fun _ _ _ _ _ _ _ h=>h,⟨fun _ _ _ _ _ _ c h=>PB.st Tx c h,trivial⟩⟩)) mixed (by kernel_rfl)<|ct ?_;refine DP .r (fun _ d=>PV.kc EC (bN.range (As.gb d.2.g2)) rfl rfl)<|bP ?_;refine DP .r (fun _ d=>V1 kX (bN.range (As.gvb (d.2.g8))) .r)<|(fk) ak St.g7<|nx ?_;refine DW.c1 (fun U d S=>eH (k:=k) (SD.ht (As.gv (d.2.g8))) (SD.hu (As.gv (d.2.g8))) (Ow.rd (As.gs d.2.g1) (by omega)) P.hb (CP.not P).1) (by rw [HK])<|?_;refine DW.e rfl rfl rfl rfl rfl (fun U d S=>OX.alloc o0 rfl fun b wy l hb=>⟨⟨Nat.le_trans d.1 l.ext.size,d.2.step l.ext⟩,l.ext.p0,_,rfl,_,rfl,Nat.le_trans d.1 l.ge,hb⟩)<|?_;rintro _ wz _ ⟨b6,rfl,_,_⟩;refine(cy) ?_;rintro w3 ⟨rQ,jn⟩ ⟨vq,⟨_,_⟩⟩;have ji:=jn.pr vq Tx Xu Xv;refine(dh) fe ji fun w4 l4 mK V=>?_;refine(bp) di V.b0<|(aP) (fun I2=>?_) fun I2=>?_
  ·
   rw [if_pos I2] at q;refine bP ?_;have LY:=V.bG;have Xw:=V.hV;have Xx:=V.size;refine WC.mj (m:=11) [9] (E:=bS [(6,fun v _=>∃f1 f2 f3,v=.tuple #[.agg ((aD s1.b.ah k).row f1 f2 f3).toArray,.bool (ay s1.b.ah k).isSome]),(10,PB w4.heap.size 48 [.int .i64 0,.string ⟨#[]⟩,.string ⟨#[]⟩,.slice none 0 0,.int .i64 0,.int .i64 0,.int .i64 0,.bool false])]) V (aU (⟨fun _ _ _ _ _ _ _ h=>h,⟨fun _ _ _ _ _ _ c h=>PB.st LY c h,trivial⟩⟩)) mixed (by kernel_rfl) rfl ?_;refine cB ?_;refine DP .r (fun _ d=>PV.ld1 (j:=3) el (bN.range (As.gb d.2.g3)) rfl rfl)<|(fk) ak St.g8<|?_;refine DW.e rfl rfl rfl rfl rfl (fun U d S=>OX.call ov rfl rfl ((cX (k:=k) (As.gr d.2.g7)).mono ?_))<|?_
   ·
    rintro _ wy ⟨f1,f2,f3,rfl,hy⟩;exact⟨_,rfl,⟨Nat.le_trans d.1 hy.size,d.2.step hy⟩,hy.p0,_,rfl,⟨f1,f2,f3,rfl⟩⟩
   rintro _ wz _ ⟨f1,f2,f3,rfl⟩;refine ct ?_;refine DW.e rfl rfl rfl rfl rfl (fun U d S=>OX.alloc nC rfl fun b wy l hb=>⟨⟨Nat.le_trans d.1 l.ext.size,d.2.step l.ext⟩,l.ext.p0,_,rfl,_,rfl,Nat.le_trans d.1 l.ge,hb⟩)<|?_;rintro _ wz _ ⟨b7,rfl,_,_⟩;refine(cy) ?_;rintro w5 ⟨xZ,W⟩ ⟨vq,⟨_,_⟩⟩;have eu:=W.pr vq LY Xw Xx;refine(dh) fA eu fun w6 v7 nZ cQ=>?_;refine nx ?_;refine WL.nil (EX.np ?_);refine bP ?_;refine WC.dA (t:=46) (v:=.bool (!(ay s1.b.ah k).isSome && decide (4000≤s1.b.ah.length))) cQ ?_<|?_
   ·
    refine(cz) (fun Xy=>?_) (fun Xy=>?_)
    ·
     refine cB ?_;refine WP .r (PV.ld1 (j:=3) el cQ.b4 rfl rfl)<|?_;exact(bW) (by simp only [Xy];first | rfl | (simp [BN];done) | (simp;omega)) (cQ)
    exact(bW) (by simp only [Xy];first | rfl | (simp [BN];done) | (simp;omega)) (cQ)
   intro w7 df;refine(aP) (fun Xz=>?_) fun Xz=>?_
   ·
    rw [if_pos Xz] at q;simp only [Option.some.injEq] at q;subst q;refine cW ?_;refine WL.s1 df.p4 fun w8 _ de=>?_;refine nx ?_;have O:=de.yF (B:=As.blk xb 88 (EA.cells i D.s bb {s1 with e:=45})) (rfl);refine eL ?_;refine EX.pX (.inl rfl) rfl<|?_;exact⟨i,_,rfl,hZ,(As.gr O.g7),(As.gr O.g8),O.p6.p6.ts.p3.k4⟩
   rw [if_neg (by rw [Xz];simp)] at q;simp only [Option.some.injEq] at q;subst q
   have Ma:s1.cw.length+1≤1000000:=by simpa using x8
   refine ct ?_;have de:=df.p2.dZ (by omega);have BE:=hZ.trans (dV.nR (F:=fun x=>x∈bl z) Tw) (Nat.le_refl _);have hN9:=de.bG;refine WC.mj (m:=15) [0] (E:=bS [(14,fun v _=>v=.agg ((cZ s1.b k o.value reads).row z C L).toArray)]) de (aU (⟨fun _ _ _ _ _ _ _ h=>h,trivial⟩)) mixed (by kernel_rfl) rfl ?_;refine cW ?_;refine DP .r (fun _ d=>PV.ld1 (j:=3) el (bN.range (As.gb d.2.g4)) rfl rfl)<|(tu) bz St.g4<|(fk) ak St.g9<|(gP) eV St.g2<|nx ?_;refine DW.c0 (fun U d S=>Ac (k:=k) (v:=o.value) (As.gr d.2.g7) (As.gr d.2.g8) (As.gr d.2.g0))<|(cy) ?_;rintro w8 ⟨LZ,O⟩ ⟨_,_⟩;have K:=O;refine(cA) PG (Aa (x:=(cZ s1.b k o.value reads)) K.e0 (As.gr K.g8) (by omega) (As.gr K.g0) (by show reads.length≤4000;omega)) ?_;rintro _ w9 ⟨p1,p2,p3,Z4,rfl,Rf,rP⟩;have fy:=St.lv K rP Rf;have IX:(eA s1.b.ah (cZ s1.b k o.value reads)).length≤s1.b.ah.length+1:=nX (cZ s1.b k o.value reads) s1.b.ah false;have hgp:=St.dw rP;have rQ:=K.size;have Ft:=BE.trans Rf rQ;have gJ:=fy.dZ (by omega);have Gc:=Ft.trans (dV.nR (F:=fun x=>x∈bl p1) hgp) rQ;refine ct ?_;refine WL.s1 (j:=3) gJ.p5 fun kl _ dU=>?_;refine WL.nil (EX.np ?_);have X:=dU.yF (B:=As.blk xb 88 (EA.cells ⟨i.a1,p1,i.a3,i.n1,i.c1,p2,p3,i.n3,i.c3⟩ D.s bb {s1 with b:={s1.b with ah:=eA s1.b.ah (cZ s1.b k o.value reads)}})) (rfl);refine bP ?_;have Rg:=((As.gs X.g7)).len;have sB:=X.bG;have xQ:=X.hV;have xR:=X.size;refine WC.mj (m:=7) [0] (E:=bS [(6,PS kl.heap.size 39 1 k.cells)]) X (aU (⟨fun _ _ _ _ _ _ c h=>PS.st sB c h,trivial⟩)) mixed (by kernel_rfl) rfl ?_;refine(gP) gw St.g0<|(fk) ak St.g10<|?_;refine DW.e rfl rfl rfl rfl rfl (fun U d S=>OX.aL (us:=k.cells) dc rfl rfl rfl rfl fun b wy l hb=>⟨⟨Nat.le_trans d.1 l.ext.size,d.2.step l.ext⟩,l.ext.p0,_,rfl,_,rfl,Nat.le_trans d.1 l.ge,hb⟩)<|?_;rintro _ wz _ ⟨b75,rfl,_,_⟩;refine(cy) ?_;rintro lB ⟨xS,jj⟩ ⟨L0,_⟩;have dE:=jj.pr (PS.pb L0) sB xQ xR;refine WL.go rfl (OX.wE qY rfl rfl rfl (As.gs dE.g8) (SR.cV (A:=fun _=>True) (x:=k) (As.gb dE.g0) trivial rfl (by simp [Key.cells,Value.oneCell']) rfl) (by show(i.n3+1)*_≤_;omega) (by show i.n3+1≤_;omega) (Nat.zero_le _) fun a76 CQ pJ Mf Ty Mg XA=>?_);have jH:=dE.p8.mX Ty Mf Mg;refine bP ?_;refine WL.s1 jH.p2 fun rJ _ ic=>?_;refine WL.nil (EX.np ?_);have fh:=ic.yF (B:=As.blk xb 88 (EA.cells ⟨i.a1,p1,a76,i.n1,i.c1,p2,p3,(i.n3+1),CQ⟩ D.s bb {s1 with b:={s1.b with ah:=eA s1.b.ah (cZ s1.b k o.value reads)},cw:=s1.cw++[k]})) (rfl);refine fZ ?_;refine EX.pX (.inl rfl) rfl<|?_;exact⟨⟨i.a1,p1,a76,i.n1,i.c1,p2,p3,(i.n3+1),CQ⟩,_,rfl,Gc,(As.gr fh.g9),(As.gr fh.g3),fh.p1.p8.MU.p3.k4⟩
  rw [if_neg (by rw [I2];simp)] at q;obtain⟨t,I0,Y⟩:=Option.bind_eq_some_iff.1 q;have Ga:=Re I2;have Gd:=(bM P Nv).1 _ _ _ I0 C5 Ga.2;refine(jJ) ak V.b0<|?_
  have Tz:t.cw.length≤1000000:=by
   split at Y
   ·
    have:=((bM P Nv).2.2 _ _ _ _ _ Y Gd.1 (by simpa using Ga.1) (by simp [hlen]) (fun a u=>by rcases List.mem_append.1 u with u | u;exact Nf a u;simp at u;subst u;exact Ga.2)).2.cw
    omega
   have:=((bM P Nv).2.2 _ _ _ _ _ Y Gd.1 CP hlen Nf).2.cw
   omega
  have W:=V.p5.p5.p9.p6;refine(cA) Lb (xm Nv (by omega) _ _ _ _ _ _ _ W.e4 (As.gr W.g7) (As.gr W.g8) C5 Ga.2 I0 Tz) ?_;rintro _ w5 ⟨E2,Z5,rfl,Fu,Xr,Xs,pK⟩;have eu:=St.lv W pK Fu;have Gc:=hZ.trans Fu W.size;have cQ:=eu.fr (Xr);have df:=cQ.fr (Xs);have de:=df.p9.drop;have O:=de.p9.drop;refine(bp) ub O.b2<|(aP) (fun Fv=>?_) fun Fv=>?_
  ·
   simp at Fv
   rw [if_pos Fv] at Y;have K:=O.p7;have H0:=K.bG;have Rh:=K.hV;have Ri:=K.size;refine WC.Gu (m:=16) [5] (fun j w w'=>match j with | 4=>eY (fun x=>x∈bl z) w w' | _=>eY (fun _=>False) w w') (E:=bS [(3,PS w5.heap.size 39 1 o.ask.cells),(4,fun v w'=>∃a c,v=.slice a (C+1) c∧(∀x∈bl a,x∈bl z∨w5.heap.size≤x)∧Ow RR.key 39 2 Z5 w' a (C+1) c (reads++[o.ask]))]) K (jr (⟨⟨trivial,⟨fun _ _ _ _ _ c h=>PS.st (fun x hx=>H0 x ⟨_,.head _,hx⟩) c h,trivial⟩⟩,⟨⟨trivial,⟨trivial,trivial⟩⟩,trivial⟩⟩)) mixed (by kernel_rfl) rfl ?_;refine(tu) ak St.g7<|?_;refine DW.e rfl rfl rfl rfl rfl (fun U d S=>OX.aL (us:=o.ask.cells) dc rfl rfl rfl rfl fun b wy l hb=>⟨⟨Nat.le_trans d.1 l.ext.size,d.2.step l.ext⟩,l.ext.p0,_,rfl,_,rfl,Nat.le_trans d.1 l.ge,hb⟩)<|?_;rintro _ wz _ ⟨b91,rfl,_,_⟩
   refine DW.e rfl rfl rfl rfl rfl (fun U d S=>by
    obtain⟨⟨b',F3,E1,vh⟩,_⟩:=S;simp only [Value.slice.injEq,Option.some.injEq,Addr.mk.injEq,and_true,true_and] at F3;subst F3;exact OX.Uc qY rfl rfl rfl (As.gs d.2.g0) (fun x hx=>d.2.jS _ M0 x hx) (SR.cV (A:=fun _=>True) (x:=o.ask) vh trivial rfl (by simp [Key.cells,Value.oneCell']) rfl) (by omega) (by omega) fun a' c' wy h1 h2 h3 h4=>⟨⟨Nat.le_trans d.1 h3.size,d.2.same M0 h3.p h2⟩,h3.p,_,rfl,a',c',rfl,(fun x hx=>by rcases h4 x hx with h | h;exact .inl h;exact .inr (Nat.le_trans d.1 h)),h1⟩) ?_
   rintro _ wz _ ⟨a4,c4,rfl,_,_⟩;refine cB ?_;refine DP .r (fun _ d=>PV.kc EC (bN.range (As.gb d.2.g3)) rfl rfl)<|(tu) bz St.g3<|(tu) ak St.g7<|(cy)<|?_;rintro w6 ⟨Fw,fy⟩ ⟨hF4,⟨hF3,_⟩⟩;obtain⟨_,_,he4,Rj,ho4⟩:=hF4;simp only [Value.slice.injEq,true_and] at he4;obtain⟨rfl,rfl⟩:=he4;have gJ:=fy;have dU:=gJ.swap (B:=As.os RR.key 39 2 a4 (C+1) c4 (reads++[o.ask])) ho4 Rj H0 Rh Ri;refine(cA) PI (vx (k:=o.ask) P Ga.2 (dU.one (.tail _ (.tail _ (.tail _ (.tail _ (.head _)))))) (As.gr dU.g2) (As.gr dU.g1)) ?_;rintro _ w7 ⟨rfl,sy⟩;have X:=dU.wZ M4 sy;refine WL.go rfl (OX.aL (us:=[.string (dm (valOf aa x.ab) t.b o.ask)]) iS rfl rfl rfl rfl fun aeI w8 Rk Rl=>?_);have jj:=X.dD Rk Rl;refine WL.ap rfl rfl jj.p9 (SR.cV (A:=fun _=>True) (x:=dm (valOf aa x.ab) t.b o.ask) (As.gb jj.g0) trivial rfl (by simp [Value.oneCell']) rfl) fun XB Rm w9 aaP aaQ dE=>?_;refine bP ?_;refine WL.nil (EX.np ?_);refine nx ?_;refine dX (Nv,t,E2,reads++[o.ask],ai++[dm (valOf aa x.ab) t.b o.ask],Z5,a4,(C+1),c4,XB,(N+1),Rm) ⟨dE.p1.drop.p8.drop.p8.p3.p4.p8.p8.p7.p6.p7,⟨Y,Gd.1,by omega,Gc,by simpa using Ga.1,by simp [hlen],(fun a u=>by rcases List.mem_append.1 u with u | u;exact Nf a u;simp at u;subst u;exact Ga.2),(fun y hy=>by rcases Rj y hy with h | h;exact Tw y h;omega),trivial⟩⟩
  simp at Fv
  rw [if_neg Fv] at Y;refine bP ?_;refine dX (Nv,t,E2,reads,ai,Z5,z,C,L,Q,N,R) ⟨O.p6.drop.p8.p1.p2.p6.p6.p5.p8.p8,⟨Y,Gd.1,by omega,Gc,CP,hlen,Nf,Tw,trivial⟩⟩
 simp at g13
 rw [if_pos g13] at q;simp only [Option.some.injEq] at q;subst q;refine cB ?_;refine EX.pX (.inr rfl) rfl<|?_;exact⟨i,_,rfl,hZ,(As.gr G.g5),(As.gr G.g6),G.p4.p4.p8.p5.k4⟩
set_option maxHeartbeats 1600000 in
theorem Fx{s:ES}{f:Nat}(J:ao aa) (gq:St w M Z w [As.blk xb 88 (E.cells D.s bb s),As.kM prog 134 aa x D,As.map Key.val bb s.busy,As.os RR.key 39 2 E.a3 E.n3 E.c3 s.cw]) (hi:Rd RR.aC 4 Z w E.a1 E.n1 E.c1 s.b.ab) (hr:Rd RR.e8 8 Z w E.a2 E.n2 E.c2 s.b.ah) (K:Good aa x.ab s) (Y:s.b.ab.length≤1000000) (hk:eU aa k) (xm:∀g,g<f→Ts aa x D xb bb g) (d:hM aa (valOf aa x.ab) (f+1) s k=some s') (x8:s'.cw.length≤1000000):Calls prog 33 #[.pointer (some ⟨xb,0,none⟩),k.val] w fun e w'=>∃(l:EA) (Z':Nat→Prop),e=.returned (.tuple #[])∧dV w.heap.size Z Z'∧Rd RR.aC 4 Z' w' l.a1 l.n1 l.c1 s'.b.ab∧Rd RR.e8 8 Z' w' l.a2 l.n2 l.c2 s'.b.ah∧St w M Z' w' [As.blk xb 88 (l.cells D.s bb s'),As.kM prog 134 aa x D,As.map Key.val bb s'.busy,As.os RR.key 39 2 l.a3 l.n3 l.c3 s'.cw]:=by
 unfold hM at d
 have hbk:(ba s.busy k).getD (.bool false)=.bool (s.on k):=by unfold ES.on;rcases K.busy k with h | h <;> rw [h] <;> rfl
 refine enter func33 rfl ntmps33 rfl<|?_;have aO:=gq;have st1:=aO.fr hi;have st2:=st1.fr hr;refine(dr) st2 fun b3 w1 E7 vh F=>?_;refine cB ?_;refine WC.dA (t:=14) (v:=.bool (decide (s.e≠0) || aw k)) F ?_<|?_
 ·
  refine(bp) ub F.b3<|(cz) (fun g11=>?_) (fun g11=>?_)
  ·
   exact(bW) (by simp only [g11];first | rfl | simp) (F)
  refine(bj) ak F.b0<|(eZ) (dd (k:=k)) F fun w2 s2 o=>?_;exact(bW) (by simp only [g11];first | rfl | simp) (o)
 intro w2 o;refine(aP) (fun g14=>?_) fun g14=>?_
 ·
  rw [if_pos (by simpa using g14)] at d;simp only [Option.some.injEq] at d;subst d;refine bP ?_;refine EX.pX (.inl rfl) rfl<|?_;exact⟨E,Z,rfl,dV.refl _ _,(As.gr o.g2),(As.gr o.g1),o.p6.p6.p6.p6.k4⟩
 have FY:aw k=false:=by simp at g14;exact g14.2
 rw [if_neg (by simpa using g14)] at d;refine cB ?_;have XC:=o.bG;have XD:=o.hV;have XE:=o.size;refine WC.mj (m:=11) [9] (E:=bS [(6,fun v _=>∃f1 f2 f3,v=.tuple #[.agg ((aD s.b.ah k).row f1 f2 f3).toArray,.bool (ay s.b.ah k).isSome]),(10,PB w2.heap.size 48 [.int .i64 0,.string ⟨#[]⟩,.string ⟨#[]⟩,.slice none 0 0,.int .i64 0,.int .i64 0,.int .i64 0,.bool false])]) o (aU (⟨fun _ _ _ _ _ _ _ h=>h,⟨fun _ _ _ _ _ _ c h=>PB.st XC c h,trivial⟩⟩)) mixed (by kernel_rfl) rfl ?_;refine cB ?_;refine DP .r (fun _ i=>PV.ld1 (j:=3) el (bN.range (As.gb i.2.g3)) rfl rfl)<|(fk) ak St.g0<|?_;refine DW.e rfl rfl rfl rfl rfl (fun wx i hF=>OX.call ov rfl rfl ((cX (k:=k) (As.gr i.2.g1)).mono ?_))<|?_
 ·
  rintro _ wy ⟨f1,f2,f3,rfl,hy⟩;exact⟨_,rfl,⟨Nat.le_trans i.1 hy.size,i.2.step hy⟩,hy.p0,_,rfl,⟨f1,f2,f3,rfl⟩⟩
 rintro _ wz _ ⟨f1,f2,f3,rfl⟩;refine ct ?_;refine DW.e rfl rfl rfl rfl rfl (fun wx i hF=>OX.alloc nC rfl fun b wy L hb=>⟨⟨Nat.le_trans i.1 L.ext.size,i.2.step L.ext⟩,L.ext.p0,_,rfl,_,rfl,Nat.le_trans i.1 L.ge,hb⟩)<|?_;rintro _ wz _ ⟨b4,rfl,_,_⟩;refine(cy) ?_;rintro w3 ⟨sD,l5⟩ ⟨vq,⟨_,_⟩⟩;have ks:=l5.pr vq XC XD XE;refine(dh) fA ks fun w4 l4 mK P=>?_;refine nx ?_;refine WL.nil (EX.np ?_);refine bP ?_;refine WC.dA (t:=35) (v:=.bool (aI s.b k)) P ?_<|?_
 ·
  have CE:=P.bG;refine WC.dS (m:=9) P mixed<|(lP) (fun Q=>?_) (fun Q=>?_)
  ·
   refine(gP) aK St.g0<|cB ?_;refine DP .r (fun _ i=>PV.ld1 (j:=1) aK (bN.range (As.gb i.2.g4)) rfl rfl)<|(cy)<|?_;rintro w5 ⟨xO,q⟩ _;exact(bW) (by unfold aI;simp only [Q];first | rfl | simp) (q)
  refine(cy) ?_;rintro w5 ⟨xO,q⟩ _;exact(bW) (by unfold aI;simp only [Q];first | rfl | simp) (q)
 intro w5 q;refine(aP) (fun R=>?_) fun R=>?_
 ·
  rw [if_pos R] at d;simp only [Option.some.injEq] at d;subst d;refine bP ?_;refine EX.pX (.inl rfl) rfl<|?_;exact⟨E,Z,rfl,dV.refl _ _,(As.gr q.g3),(As.gr q.g2),q.p7.p7.p7.p7.k4⟩
 rw [if_neg (by rw [R];simp)] at d;refine cB ?_;have Tx:=q.bG;refine WC.dS (m:=5) q mixed<|(gP) oY St.g4<|(fk) ak St.g1<|(cy)<|?_;rintro w6 ⟨rQ,G⟩ _;refine WP .r (PV.im cE gx xB (As.gm G.g6) (hbk) rfl rfl)<|(aP) (fun S=>?_) fun S=>?_
 ·
  rw [if_pos S] at d;refine(bj) ak G.b1<|(eZ) (dz (k:=k)) G fun w7 s7 C=>?_;refine(aP) (fun H=>?_) fun H=>?_
  ·
   simp at H
   rw [if_neg (by rw [H];simp)] at d;simp only [Option.some.injEq] at d;subst d;refine cB ?_;refine WL.s1 C.p4 fun w8 _ N=>?_;refine nx ?_;have u:=N.yF (B:=As.blk xb 88 (EA.cells E D.s bb {s with e:=43})) (rfl);refine ct ?_;refine EX.pX (.inl rfl) rfl<|?_;exact⟨E,Z,rfl,dV.refl _ _,(As.gr u.g4),(As.gr u.g3),u.p7.p7.p7.p3.k4⟩
  simp at H
  rw [if_pos H] at d;simp only [Option.some.injEq] at d;subst d;refine cB ?_;refine EX.pX (.inl rfl) rfl<|?_;exact⟨E,Z,rfl,dV.refl _ _,(As.gr C.g3),(As.gr C.g2),C.p7.p7.p7.p7.k4⟩
 rw [if_neg (by rw [S];simp)] at d;refine ct ?_;have hN7:=G.bG;refine WC.dS (m:=5) G mixed<|(gP) oY St.g4<|(fk) ak St.g1<|(cy)<|?_;rintro w7 ⟨Rn,C⟩ _;refine WL.go rfl (OX.put cE gx (As.gm C.g6) rfl rfl rfl fun w8 E8 Af=>?_);have N:=C.p6.iE E8 Af;refine nx ?_;obtain⟨⟨s2,r2⟩,hp,d⟩:=Option.bind_eq_some_iff.1 d;obtain⟨s3,y,d⟩:=Option.bind_eq_some_iff.1 d;simp only [Option.some.injEq] at d;subst d;have T:=(bM J f).2.1 _ _ _ _ _ hp (K.on k);have Tv:=hk.gu FY;have U:s3.cw.length≤1000000:=x8
 have Ro:s2.cw.length≤1000000:=by
  split at y
  ·
   have:=((bM J f).2.2 _ _ _ _ _ y T.1 Tv rfl (fun a ha=>by cases ha)).2.cw
   exact Nat.le_trans this U
  simp only [Option.some.injEq] at y;subst y;exact U
 have XF:s2.b.ab.length≤1000000:=by rw [T.1.aC,← K.aC];exact Y
 refine(bj) ak N.b2<|?_;have u:=N.p7.p1.p7.p7;refine(cA) Vw (x7 (s:={s with busy:=bY s.busy k (.bool true)}) (E:=E) J u.e4 (As.gr u.g7) (As.gr u.g6) (K.on k) Y xm hp Ro) ?_;rintro _ w9 ⟨E2,Z2,rfl,x9,XG,XH,rP⟩;have df:=St.lv u rP x9;have uh:=(dV.refl w.heap.size Z).trans x9 u.size;have de:=df.fr (XG);have gp:=de.fr (XH);have iI:=gp.p9.drop;have O:=iI.p8.drop;refine(aP) (fun V=>?_) fun V=>?_
 ·
  rw [if_pos V] at y;refine(bj) ak (bN.range (As.gb O.g7))<|?_;have z:=O.p5.p5.p5.p5;refine(cA) Vx (CO (s:=s2) (E:=E2) J z.e4 (As.gr z.g5) (As.gr z.g4) T.1 XF Tv xm y U) ?_;rintro _ kl ⟨E3,Z3,rfl,ya,XI,XJ,nH⟩;have I:=St.lv z nH ya;have W:=uh.trans ya z.size;have ew:=I.fr (XI);have jj:=ew.fr (XJ);have dE:=jj.p7.drop;have jH:=dE.p6.drop;refine bP ?_;have sB:=jH.bG;refine WC.dS (m:=5) jH mixed<|(gP) oY St.g2<|(fk) ak St.g7<|(cy)<|?_;rintro lB ⟨xS,ic⟩ _;refine WL.go rfl (OX.del cE gx (As.gm ic.g4) rfl rfl fun pJ vt vu=>?_);have X:=ic.p4.iE vt vu;refine nx ?_;refine EX.pX (.inr rfl) rfl<|?_;exact⟨_,_,rfl,W,(As.gr X.g2),(As.gr X.g1),X.p5.p1.p5.p5.k4⟩
 rw [if_neg (by rw [V];simp)] at y;simp only [Option.some.injEq] at y;subst y;have W:=uh;refine bP ?_;have sB:=O.bG;refine WC.dS (m:=5) O mixed<|(gP) oY St.g2<|(fk) ak St.g7<|(cy)<|?_;rintro kl ⟨xS,z⟩ _;refine WL.go rfl (OX.del cE gx (As.gm z.g4) rfl rfl fun lB Mh Mi=>?_);have I:=z.p4.iE Mh Mi;refine nx ?_;refine EX.pX (.inr rfl) rfl<|?_;exact⟨_,_,rfl,W,(As.gr I.g2),(As.gr I.g1),I.p5.p1.p5.p5.k4⟩
theorem Mj(c:ao aa) (d:x.ab.length≤1000000):∀f,Ts aa x D xb bb f:=by
 intro f
 induction f using Nat.strongRecOn with
 | _ f e=>
  intro w M Z s E k s' h hi hr a hk b i
  cases f with
  | zero=>simp [hM] at b
  | succ f=>exact Fx c h hi hr a (by rw [a.aC];exact d) hk (fun g j=>e g (by omega)) b i
theorem yc(a:s.size≤1000) (w:World):Calls prog 202 #[.string s] w fun e w'=>∃(v:Int) (ok:Bool) (ev:Value),e=.returned (.tuple #[.int .i64 v,ev])∧(-9223372036854775808≤v∧v≤9223372036854775807)∧((ok=true∧ev=.nilIface)∨(ok=false∧∃t y,ev=.iface t y))∧(ok=false→ev=.iface 386 (.int .i64 2)∨ev=.iface 386 (.int .i64 1))∧aJ [] w w':=by
 refine(Any.internal_strconv_Atoi_all {laysC172 with} s (by omega) w).mono fun e w' ⟨he,hw⟩=>?_
 have hc:aJ [] w w':=by
  rcases hw with rfl | ⟨t,rfl⟩
  ·
   exact aJ.refl _ _
  exact uc _ _ _
 cases h:Lib.atoiAll s.data.toList
 ·
  rename_i v
  rw [h] at he;exact⟨v,true,.nilIface,he,Lib.atoiAll_bounds h,.inl ⟨rfl,rfl⟩,(fun e=>by cases e),hc⟩
 ·
  rw [h] at he;exact⟨0,false,_,he,by decide,.inr ⟨rfl,_,_,rfl⟩,fun _=>.inl rfl,hc⟩
 rw [h] at he;exact⟨Lib.atoiSat s.data.toList,false,_,he,Lib.atoiSat_bounds _,.inr ⟨rfl,_,_,rfl⟩,fun _=>.inr rfl,hc⟩
set_option maxHeartbeats 400000
theorem rR :CR prog 152 #[.int .i64 n] w (.bool (decide (30≤n) && decide (n≤32))):=by
 refine enter func152 rfl ntmps152 rfl<|?_;have aO:=St.s0 w;refine fZ ?_;refine WC.ja (t:=2) (v:=.bool (decide (30≤n) && decide (n≤32))) aO ?_<|?_
 ·
  refine(cz) (fun g5=>?_) (fun g5=>?_)
  ·
   exact(eT) (by simp only [g5];first | rfl | simp) (aO)
  exact(eT) (by simp only [g5];first | rfl | simp) (aO)
 intro w1 st1;refine(bF) ?_;exact⟨rfl,(St.cg st1)⟩
theorem yd :CR prog 153 #[.int .i64 n] w (.bool (decide (1≤n) && decide (n≤22))):=by
 refine enter func153 rfl ntmps153 rfl<|?_;have aO:=St.s0 w;refine fZ ?_;refine WC.ja (t:=2) (v:=.bool (decide (1≤n) && decide (n≤22))) aO ?_<|?_
 ·
  refine(cz) (fun g5=>?_) (fun g5=>?_)
  ·
   exact(eT) (by simp only [g5];first | rfl | simp) (aO)
  exact(eT) (by simp only [g5];first | rfl | simp) (aO)
 intro w1 st1;refine(bF) ?_;exact⟨rfl,(St.cg st1)⟩
theorem cM :CR prog 89 #[k.val] w (.bool (aw k)):=by
 refine enter func89 rfl ntmps89 rfl<|?_;have aO:=St.s0 w;refine(dr) aO fun b1 w1 a b st1=>?_;refine cB ?_;refine WC.ja (t:=2) (v:=.bool (aw k)) st1 ?_<|?_
 ·
  refine(bp) aK st1.b0<|(cz) (fun g6=>?_) (fun g6=>?_)
  ·
   exact(eT) (by unfold aw;simp only [g6];first | rfl | simp) (st1)
  refine(bp) aK st1.b0<|(cz) (fun g11=>?_) (fun g11=>?_)
  ·
   exact(eT) (by unfold aw;simp only [g6,g11];first | rfl | simp) (st1)
  refine(bp) aK st1.b0<|?_;exact(eT) (by unfold aw;simp only [g6,g11];first | rfl | simp) (st1)
 intro w2 st2;refine(bF) ?_;exact⟨rfl,(St.cg st2)⟩
theorem kZ :CR prog 125 #[k.val] w (.bool (decide (k.kind=31) || decide (k.kind=32))):=by
 refine enter func125 rfl ntmps125 rfl<|?_;have aO:=St.s0 w;refine(dr) aO fun b1 w1 a b st1=>?_;refine cB ?_;refine WC.ja (t:=2) (v:=.bool (decide (k.kind=31) || decide (k.kind=32))) st1 ?_<|?_
 ·
  refine(bp) aK st1.b0<|(cz) (fun g6=>?_) (fun g6=>?_)
  ·
   exact(eT) (by simp only [g6];first | rfl | simp) (st1)
  refine(bp) aK st1.b0<|?_;exact(eT) (by simp only [g6];first | rfl | simp) (st1)
 intro w2 st2;refine(bF) ?_;exact⟨rfl,(St.cg st2)⟩
theorem jk(hk:eC k):CR prog 131 #[k.val] w (.bool (decide (k.kind=32))):=by
 refine enter func131 rfl ntmps131 rfl<|?_;have aO:=St.s0 w;refine(dr) aO fun b1 w1 a b st1=>?_;refine cB ?_;refine WC.ja (t:=2) (v:=.bool (decide (k.kind=32))) st1 ?_<|?_
 ·
  refine(bp) aK st1.b0<|(cz) (fun g6=>?_) (fun g6=>?_)
  ·
   exact(eT) (by simp only [g6];first | done | rfl | simp) (st1)
  refine(bp) aK st1.b0<|(cA) Qg (yd (n:=k.kind)) ?_;rintro _ w2 ⟨rfl,s2⟩;rw [show(decide (1≤k.kind) && decide (k.kind≤22))=false by(rcases hk with h | h <;> simp <;> omega)];have st2:=st1.step s2;exact(eT) (by simp only [g6];first | done | rfl | simp) (st2)
 intro w2 st2;refine(bF) ?_;exact⟨rfl,(St.cg st2)⟩
theorem jl{n:Nat}(hk:30≤k.kind∧k.kind≤32) (ht:k.text=itoa n) (hn:n≤99):CR prog 127 #[k.val] w (.int .i64 (n:Int)):=by
 obtain⟨kd,j⟩:=k;simp only at hk ht;subst ht;refine enter func127 rfl ntmps127 rfl<|?_;have aO:=St.s0 w;refine(dr) aO fun b1 w1 l o st1=>?_;refine(bp) aK st1.b0<|(cA) IF (rR (n:=kd)) ?_;rintro _ w2 ⟨rfl,s2⟩;rw [show(decide (30≤kd) && decide (kd≤32))=true by(simp;omega)];have st2:=st1.step s2;refine ct ?_;refine WC.fP rfl<|(bp) eV st2.b0<|(eZ) (zS hn w2) st2 fun w3 q b=>?_;refine px ?_;refine WC.dA (t:=31) (v:=.bool false) b ?_<|?_
 ·
  have u:=b.bG;refine WC.cJ (m:=15) (E:=bS [(12,fun v _=>v=.string (itoa n))]) b (aU (⟨fun _ _ _ _ _ _ _ h=>h,trivial⟩)) mixed (by kernel_rfl)<|nx ?_;refine DP .r (fun _ g=>PV.JI va rfl)<|nx ?_;refine DW.eW (t:=17) rfl (fun g17=>?_) (fun g17=>?_)
  ·
   refine(cy) ?_;rintro w4 ⟨c,a⟩ _;exact(bW) (tG g17) (a)
  refine cB ?_;refine DW.eW (t:=21) rfl (fun g21=>?_) (fun g21=>?_)
  ·
   refine(cy) ?_;rintro w4 ⟨c,a⟩ _;exact(bW) (tG (aj g17 g21)) (a)
  refine cB ?_;refine DW.eW (t:=25) rfl (fun d=>?_) (fun d=>?_)
  ·
   refine(cy) ?_;rintro w4 ⟨c,a⟩ _;exact(bW) (tG (aj g17<|aj g21 d)) (a)
  refine nx ?_;refine DW.c0 (fun i g y=>gH (n:=(n:Int)) (by omega) (by omega) i)<|(gP) eV St.g0<|(cy)<|?_;rintro w4 ⟨c,a⟩ ⟨_,_⟩;exact(bW) (tG (aj g17<|aj g21 d)) (a)
 intro w4 a;refine(aP) (fun e=>?_) fun e=>?_
 ·
  exact absurd e (by simp)
 ·
  refine(bF) ?_;exact⟨rfl,(St.cg a)⟩
 -- z B C.T
theorem fD{n:Nat}(hk:30≤k.kind∧k.kind≤32) (ht:k.text=itoa n) (hn:n≤99):CR prog 124 #[k.val] w (.bool true):=by
 refine enter func124 rfl ntmps124 rfl<|?_;have aO:=St.s0 w;refine(dr) aO fun b1 w1 b c st1=>?_;refine(bp) aK st1.b0<|(cA) IF (rR (n:=k.kind)) ?_;rintro _ w2 ⟨rfl,s2⟩;rw [show(decide (30≤k.kind) && decide (k.kind≤32))=true by(simp;omega)];have st2:=st1.step s2;refine bP ?_;refine WC.te rfl<|(bj) ak st2.b0<|(eZ) (jl (k:=k) hk ht hn) st2 fun w3 d a=>?_;refine(bF) ?_;exact⟨by simp,(St.cg a)⟩
theorem lD{a:Option Addr}{r c:Nat}(hr:ee A w a r c aa):CR prog 126 #[.slice a r c,.int .i64 n] w ((aH aa n).val):=by
 have hle:=hr.le;have hlen:=hr.len;refine enter func126 rfl ntmps126 rfl<|?_;have aO:=St.s0 w;refine(ft) aO fun b4 w1 o q st1=>?_;refine cB ?_;refine WC.dA (t:=17) (v:=.bool (decide (n<0) || (decide ((r:Int)≤n) || decide (99<n)))) st1 ?_<|?_
 ·
  refine(cz) (fun g8=>?_) (fun g8=>?_)
  ·
   exact(bW) (by simp only [g8];first | rfl | simp) (st1)
  refine(cz) (fun g14=>?_) (fun g14=>?_)
  ·
   exact(bW) (by simp only [g8,g14];first | rfl | simp) (st1)
  exact(bW) (by simp only [g8,g14];first | rfl | simp) (st1)
 intro w2 st2;refine(aP) (fun g17=>?_) fun g17=>?_
 ·
  have hk:aH aa n=aW:=by unfold aH;rw [if_pos (by simp at g17;omega)]
  refine(dh) gi st2 fun w3 u y b=>?_;refine(jm) ak b.b0<|?_;rw [hk];exact⟨rfl,(St.cg b)⟩
 simp at g17
 obtain⟨i,rfl⟩:∃i:Nat,n=i:=⟨n.toNat,by omega⟩
 have hi:i<aa.length:=by omega
 have hk:aH aa i=⟨if ax aa i then 32 else 31,itoa i⟩:=by unfold aH;rw [if_neg (by omega)];rfl
 have g:=bA hi;refine px ?_;obtain⟨z,B,C,h,_,⟨q1,F,G,rfl,_⟩,l,_⟩:=(hr.ext (St.cg st2)).at (ae hi);refine ct ?_;refine WP .r (PV.dM gn h rfl rfl (by omega))<|nx ?_;refine WP .r (PV.ld1 (j:=0) di l rfl rfl)<|(aP) (fun g23=>?_) fun g23=>?_
 ·
  have e:aH aa i=⟨32,itoa i⟩:=by rw [hk,g,g23];rfl
  refine(eZ) (gH (n:=(i:Int)) (by omega) (by omega) w2) st2 fun w3 m b=>?_;refine WP .r (PV.aY (us:=_) q7 rfl rfl rfl)<|(dh) gi b fun w4 H I d=>?_;refine(jm) ak d.b0<|?_;rw [e];exact⟨rfl,(St.cg d)⟩
 have e:aH aa i=⟨31,itoa i⟩:=by rw [hk,g,g23];rfl
 refine(eZ) (gH (n:=(i:Int)) (by omega) (by omega) w2) st2 fun w3 m b=>?_;refine WP .r (PV.aY (us:=_) q7 rfl rfl rfl)<|(dh) gi b fun w4 J K d=>?_;refine(jm) ak d.b0<|?_;rw [e];exact⟨rfl,(St.cg d)⟩
set_option maxHeartbeats 400000
set_option maxRecDepth 1000000 in
theorem iZ(b:s.size≤1000):CR prog 373 #[.string s] w (.string s):=by
 refine enter func373 rfl ntmps373 rfl<|?_;have aO:=St.s0 w;refine aN ?_;refine(aP) (fun g6=>?_) fun g6=>?_
 ·
  refine(bF) ?_;exact⟨by rw [show s=⟨#[]⟩ from ByteArray.ext (Array.eq_empty_of_size_eq_zero (show s.size=0 by have:=of_decide_eq_true g6;omega))],(St.cg aO)⟩
 have h0:s.size≠0:=by have:=of_decide_eq_false g6;omega
 obtain⟨i,hi,a⟩:=Option.map_eq_some_iff.1 (show(prog.info? 5).map (fun i=>(i.zero,i.size,i.bytes))=some (some (.int .u8 0),1,1) by kernel_rfl);simp only [Prod.mk.injEq] at a;obtain⟨c,h1,hb⟩:=a;obtain⟨u1,d,e,k1,k2,k3,hc⟩:=uO (S:=9) (it:=3) (Um:=3) (Un:=9) underlying191 hi c h1 hb underlying576 h0 b w;refine fZ ?_;refine WL.go rfl (OX.Of rfl rfl rfl k1 ?_);refine eL ?_;refine WL.go rfl (OX.Og rfl rfl rfl k2 ?_);refine cW ?_;refine WP .r (PV.CZ Iw 0 (show some (⟨w.heap.size,0,none⟩:Addr)=some ⟨w.heap.size,0,none⟩ from rfl) rfl rfl rfl (by omega))<|bP ?_;refine WL.go rfl (OX.Ul rfl rfl rfl k3 ?_);refine(bF) ?_;exact⟨rfl,hc⟩
theorem sE(d:s.size≤1000) (g:w.cell? ⟨4,0,none⟩=some .nilIface):Calls prog 286 #[.string f,.string s] w fun e w'=>∃b,e=.returned (.pointer (some ⟨b,0,none⟩))∧aJ [] w w':=by
 have hr:w.rangeAt 4 0 [.nilIface]:=fun j v a=>by
  cases j with
  | zero=>simp at a;subst a;exact g
  | succ j=>simp at a
 refine enter func286 rfl ntmps286 rfl<|?_;have aO:=St.s0 w;refine fZ ?_;have i:=aO.bG;refine WC.cJ (m:=4) (E:=bS [(2,fun v _=>v=.string s)]) aO (aU (⟨fun _ _ _ _ _ _ _ h=>h,trivial⟩)) mixed (by kernel_rfl)<|bP ?_;refine DW.c0 (fun l c o=>iZ d)<|?_;refine DP .r (fun _ c=>PV.kc vb (aR hr (St.cg c.2) (by simp)) rfl rfl)<|(cy)<|?_;rintro w1 ⟨q,st1⟩ ⟨_,_⟩;refine WP .r (PV.aY (us:=[.string f,.string s,.nilIface]) Bw rfl rfl rfl)<|(dr) st1 fun u w2 y z st2=>?_;refine(bF) ?_;exact⟨_,rfl,(St.cg st2)⟩
theorem sF(d:s.size≤1000) (g:w.cell? ⟨4,0,none⟩=some (.iface t p)):Calls prog 286 #[.string f,.string s] w fun e w'=>∃b,e=.returned (.pointer (some ⟨b,0,none⟩))∧aJ [] w w':=by
 have hr:w.rangeAt 4 0 [(.iface t p)]:=fun j v a=>by
  cases j with
  | zero=>simp at a;subst a;exact g
  | succ j=>simp at a
 refine enter func286 rfl ntmps286 rfl<|?_;have aO:=St.s0 w;refine fZ ?_;have i:=aO.bG;refine WC.cJ (m:=4) (E:=bS [(2,fun v _=>v=.string s)]) aO (aU (⟨fun _ _ _ _ _ _ _ h=>h,trivial⟩)) mixed (by kernel_rfl)<|bP ?_;refine DW.c0 (fun l c o=>iZ d)<|?_;refine DP .r (fun _ c=>PV.kc vb (aR hr (St.cg c.2) (by simp)) rfl rfl)<|(cy)<|?_;rintro w1 ⟨q,st1⟩ ⟨_,_⟩;refine WP .r (PV.aY (us:=[.string f,.string s,(.iface t p)]) Bw rfl rfl rfl)<|(dr) st1 fun u w2 y z st2=>?_;refine(bF) ?_;exact⟨_,rfl,(St.cg st2)⟩
theorem XK:prog.globalNamed "strconv.ErrSyntax" = some 4:=by kernel_rfl
theorem vy(ht:jM prog A w) (a:s.size≤1000):Calls prog 286 #[.string f,.string s] w fun e w'=>∃b,e=.returned (.pointer (some ⟨b,0,none⟩))∧aJ [] w w':=by
 obtain⟨ev,c,d⟩:=ht.err (.inl rfl) XK
 rcases d with rfl | ⟨t,p,rfl⟩
 ·
  exact sE a c
 exact sF a c
theorem sG(d:s.size≤1000) (g:w.cell? ⟨5,0,none⟩=some .nilIface):Calls prog 287 #[.string f,.string s] w fun e w'=>∃b,e=.returned (.pointer (some ⟨b,0,none⟩))∧aJ [] w w':=by
 have hr:w.rangeAt 5 0 [.nilIface]:=fun j v a=>by
  cases j with
  | zero=>simp at a;subst a;exact g
  | succ j=>simp at a
 refine enter func287 rfl ntmps287 rfl<|?_;have aO:=St.s0 w;refine fZ ?_;have i:=aO.bG;refine WC.cJ (m:=4) (E:=bS [(2,fun v _=>v=.string s)]) aO (aU (⟨fun _ _ _ _ _ _ _ h=>h,trivial⟩)) mixed (by kernel_rfl)<|bP ?_;refine DW.c0 (fun l c o=>iZ d)<|?_;refine DP .r (fun _ c=>PV.kc vb (aR hr (St.cg c.2) (by simp)) rfl rfl)<|(cy)<|?_;rintro w1 ⟨q,st1⟩ ⟨_,_⟩;refine WP .r (PV.aY (us:=[.string f,.string s,.nilIface]) Bw rfl rfl rfl)<|(dr) st1 fun u w2 y z st2=>?_;refine(bF) ?_;exact⟨_,rfl,(St.cg st2)⟩
theorem sH(d:s.size≤1000) (g:w.cell? ⟨5,0,none⟩=some (.iface t p)):Calls prog 287 #[.string f,.string s] w fun e w'=>∃b,e=.returned (.pointer (some ⟨b,0,none⟩))∧aJ [] w w':=by
 have hr:w.rangeAt 5 0 [(.iface t p)]:=fun j v a=>by
  cases j with
  | zero=>simp at a;subst a;exact g
  | succ j=>simp at a
 refine enter func287 rfl ntmps287 rfl<|?_;have aO:=St.s0 w;refine fZ ?_;have i:=aO.bG;refine WC.cJ (m:=4) (E:=bS [(2,fun v _=>v=.string s)]) aO (aU (⟨fun _ _ _ _ _ _ _ h=>h,trivial⟩)) mixed (by kernel_rfl)<|bP ?_;refine DW.c0 (fun l c o=>iZ d)<|?_;refine DP .r (fun _ c=>PV.kc vb (aR hr (St.cg c.2) (by simp)) rfl rfl)<|(cy)<|?_;rintro w1 ⟨q,st1⟩ ⟨_,_⟩;refine WP .r (PV.aY (us:=[.string f,.string s,(.iface t p)]) Bw rfl rfl rfl)<|(dr) st1 fun u w2 y z st2=>?_;refine(bF) ?_;exact⟨_,rfl,(St.cg st2)⟩
theorem XL:prog.globalNamed "strconv.ErrRange" = some 5:=by kernel_rfl
theorem vz(ht:jM prog A w) (a:s.size≤1000):Calls prog 287 #[.string f,.string s] w fun e w'=>∃b,e=.returned (.pointer (some ⟨b,0,none⟩))∧aJ [] w w':=by
 obtain⟨ev,c,d⟩:=ht.err (.inr rfl) XL
 rcases d with rfl | ⟨t,p,rfl⟩
 ·
  exact sG a c
 exact sH a c
theorem ye(ht:jM prog A w) (a:s.size≤1000):Calls prog 203 #[.string f,.string s,.int .i64 0,.int .i64 0,.iface 386 (.int .i64 2)] w fun e w'=>∃b,e=.returned (.iface 389 (.pointer (some ⟨b,0,none⟩)))∧aJ [] w w':=by
 refine enter func203 rfl ntmps203 rfl<|?_;have aO:=St.s0 w;refine aN ?_;refine bP ?_;refine WP .r (PV.DK underlying386 (by intro ms h;cases h) rfl)<|WP .r (PV.JM underlying205 (by kernel_rfl) underlying386 rfl rfl)<|(aP) (fun g12=>?_) fun g12=>?_
 ·
  refine(cA) Qz (vy (ht.ext (St.cg aO)) a) ?_;rintro _ w1 ⟨b,rfl,s1⟩;have st1:=aO.step s1;refine WP .r (PV.DK underlying389 (by intro ms h;cases h) rfl)<|(bF) ?_;exact⟨_,rfl,(St.cg st1)⟩
 ·
  exact ep g12
 -- g i j c.0 c.1 d.2 d.3 l
theorem yf(ht:jM prog A w) (a:s.size≤1000):Calls prog 203 #[.string f,.string s,.int .i64 0,.int .i64 0,.iface 386 (.int .i64 1)] w fun e w'=>∃b,e=.returned (.iface 389 (.pointer (some ⟨b,0,none⟩)))∧aJ [] w w':=by
 refine enter func203 rfl ntmps203 rfl<|?_;have aO:=St.s0 w;refine aN ?_;refine bP ?_;refine WP .r (PV.DK underlying386 (by intro ms h;cases h) rfl)<|WP .r (PV.JM underlying205 (by kernel_rfl) underlying386 rfl rfl)<|(aP) (fun g12=>?_) fun g12=>?_
 ·
  exact ep g12
 ·
  refine bP ?_;refine WP .r (PV.DK underlying386 (by intro ms h;cases h) rfl)<|WP .r (PV.JM underlying205 (by kernel_rfl) underlying386 rfl rfl)<|(aP) (fun g19=>?_) fun g19=>?_
  ·
   refine(cA) QA (vz (ht.ext (St.cg aO)) a) ?_;rintro _ w1 ⟨b,rfl,s1⟩;have st1:=aO.step s1;refine WP .r (PV.DK underlying389 (by intro ms h;cases h) rfl)<|(bF) ?_;exact⟨_,rfl,(St.cg st1)⟩
  exact ep g19
 -- d g c.2 c.3 i
theorem yg{ev:Value}(ht:jM prog A w) (a:s.size≤1000) (he:ev=.iface 386 (.int .i64 2)∨ev=.iface 386 (.int .i64 1)):Calls prog 203 #[.string f,.string s,.int .i64 0,.int .i64 0,ev] w fun e w'=>∃b,e=.returned (.iface 389 (.pointer (some ⟨b,0,none⟩)))∧aJ [] w w':=by
 rcases he with rfl | rfl
 ·
  exact ye ht a
 exact yf ht a
theorem Fy(ht:jM prog A w) (a:s.size≤1000):Calls prog 154 #[.string s] w fun e w'=>∃(v:Int) (ok:Bool) (ev:Value),e=.returned (.tuple #[.int .i64 v,ev])∧(-9223372036854775808≤v∧v≤9223372036854775807)∧((ok=true∧ev=.nilIface)∨(ok=false∧∃t y,ev=.iface t y))∧aJ [] w w':=by
 refine enter func154 rfl ntmps154 rfl<|?_;have aO:=St.s0 w;refine(cA) Qr (yc a w) ?_;rintro _ w1 ⟨v,ok,ev,rfl,c,d,g,s1⟩;have st1:=aO.step s1;refine na ?_;refine WP .r (PV.Oe va rfl d)<|(aP) (fun g12=>?_) fun g12=>?_
 ·
  refine(cA) Qs (yg (ht.ext (St.cg st1)) a (g (by simpa using g12))) ?_;rintro _ w2 ⟨b,rfl,s2⟩;have st2:=st1.step s2;refine(sf) ?_;exact⟨v,false,_,rfl,c,.inr ⟨rfl,_,_,rfl⟩,(St.cg st2)⟩
 refine(sf) ?_;exact⟨v,true,.nilIface,rfl,c,.inl ⟨rfl,rfl⟩,(St.cg st1)⟩
end Go.Rc

