/- Walks over the program, part WLibE. Conditions: as each theorem says. -/
import Derived.Test.YtilldnlhckpbjaaGreatDoorEFacts
import Derived.Test.YtilldnlhckpbjaaGreatDoorEWK
import Derived.Test.YtilldnlhckpbjaaGreatDoorEBe
import Derived.Test.YtilldnlhckpbjaaGreatDoorEWB
import Derived.Test.YtilldnlhckpbjaaGreatDoorEBd
import Derived.Test.YtilldnlhckpbjaaGreatDoorShelf
import Derived.Test.YtilldnlhckpbjaaGreatDoorEWD
import Derived.Test.YtilldnlhckpbjaaGreatDoorEBf
import Derived.Test.YtilldnlhckpbjaaGreatDoorEBb
set_option linter.all false
namespace Go.Rc
open Go Go.Proofs Go.Proofs.Tryz
variable {aa:List aD}{x:cW}{D:SD}{xb bb:Nat}{w:World}{M Z A:Nat→Prop}{s f:ByteArray}{E:EA}{k:Key}{s':ES}{n:Int}{t:TypeId}{p:Value}
set_option maxHeartbeats 400000
def Ue(aa:List aD) (x:cW) (D:SD) (xb bb f:Nat):Prop:=∀(w:World) (M Z:Nat→Prop) (s:ES) (E:EA) (k:Key) (s':ES),St w M Z w [As.blk xb 107 (E.cells D.s bb s),As.k8 prog 139 aa x D,As.map Key.val bb s.busy,As.os RR.key 43 2 E.a3 E.n3 E.c3 s.cz]→Rd RR.aA 4 Z w E.a1 E.n1 E.c1 s.b.ab→Rd RR.fl 8 Z w E.a2 E.n2 E.c2 s.b.ah→Good aa x.ab s→eB aa k→hY aa (valOf aa x.ab) f s k=some s'→s'.cz.length≤1000000→
 Calls prog 54 #[.pointer (some ⟨xb,0,none⟩),k.val] w fun e w'=>∃(E':EA) (Z':Nat→Prop),e=.returned (.tuple #[])∧dU w.heap.size Z Z'∧Rd RR.aA 4 Z' w' E'.a1 E'.n1 E'.c1 s'.b.ab∧Rd RR.fl 8 Z' w' E'.a2 E'.n2 E'.c2 s'.b.ah∧St w M Z' w' [As.blk xb 107 (E'.cells D.s bb s'),As.k8 prog 139 aa x D,As.map Key.val bb s'.busy,As.os RR.key 43 2 E'.a3 E'.n3 E'.c3 s'.cz]
set_option maxHeartbeats 1600000 in
theorem yr{s:ES}{f:Nat}{r:Bool}(hR:ao aa) (gn:St w M Z w [As.blk xb 107 (E.cells D.s bb s),As.k8 prog 139 aa x D,As.map Key.val bb s.busy,As.os RR.key 43 2 E.a3 E.n3 E.c3 s.cz]) (hi:Rd RR.aA 4 Z w E.a1 E.n1 E.c1 s.b.ab) (hr:Rd RR.fl 8 Z w E.a2 E.n2 E.c2 s.b.ah) (GD:Good aa x.ab s) (Iz:s.b.ab.length≤1000000) (gJ:∀g,g<f→Ue aa x D xb bb g) (FN:cm aa (valOf aa x.ab) f s k 0=some (s',r)) (yt:s'.cz.length≤1000000):Calls prog 93 #[.pointer (some ⟨xb,0,none⟩),k.val] w fun e w'=>∃(q:EA) (Z':Nat→Prop),e=.returned (.bool r)∧dU w.heap.size Z Z'∧Rd RR.aA 4 Z' w' q.a1 q.n1 q.c1 s'.b.ab∧Rd RR.fl 8 Z' w' q.a2 q.n2 q.c2 s'.b.ah∧St w M Z' w' [As.blk xb 107 (q.cells D.s bb s'),As.k8 prog 139 aa x D,As.map Key.val bb s'.busy,As.os RR.key 43 2 q.a3 q.n3 q.c3 s'.cz]:=by
 refine enter func93 rfl ntmps93 rfl<|?_;have aR:=gn;have st1:=aR.fr hi;have st2:=st1.fr hr;refine(dy) st2 fun b3 w1 DB uK iO=>?_;refine lU ?_;refine WC.kl (σ:=Nat × ES × EA × Nat × (Nat→Prop)) (db:=fun(u,s1,a,ix,O)=>[(0,.pointer (some ⟨xb,0,none⟩)),(3,.pointer (some ⟨b3,0,none⟩)),(5,.int .i64 (ix:Int))]) (F:=fun(u,s1,a,ix,O)=>[As.blk xb 107 (a.cells D.s bb s1),As.map Key.val bb s1.busy,As.os RR.key 43 2 a.a3 a.n3 a.c3 s1.cz,As.ro RR.aA 4 a.a1 a.n1 a.c1 s1.b.ab,As.ro RR.fl 8 a.a2 a.n2 a.c2 s1.b.ah]) (I:=fun(u,s1,a,ix,O)=>(cm aa (valOf aa x.ab) u s1 k ix=some (s',r))∧(Good aa x.ab s1)∧(u≤f)∧(dU w.heap.size Z O)∧True) (μ:=fun(u,s1,a,ix,O)=>u) (Zf:=fun(u,s1,a,ix,O)=>O) (f,s,E,0,Z) (iO.p1.p2.p6.p6.p5) Sub.t (⟨FN,GD,Nat.le_refl _,dU.refl _ _,trivial⟩)<|?_;rintro⟨u,s1,a,ix,O⟩ w2 z ⟨d,y,Ye,R,_⟩;simp only [CA,NA] at z d y Ye R ⊢
 obtain⟨S,rfl⟩:∃g,u=g+1:=by cases u with | zero=>simp [cm] at d | succ g=>exact⟨g,rfl⟩
 unfold cm at d
 have Uf:=y.len
 have Yf:s1.b.ab.length≤1000000:=by rw [y.aA,← GD.aA];exact Iz
 refine(bq) uF z.b0<|(aT) (fun g17=>?_) fun g17=>?_
 ·
  simp at g17
  rw [if_neg (by simp [g17])] at d;refine cD ?_;have Db:=z.bA;have FO:=z.hV;have FP:=z.size;refine WC.mJ (m:=11) [9] (E:=bN [(6,fun v _=>∃f1 f2 f3,v=.tuple #[.agg ((aF s1.b.ah k).row f1 f2 f3).toArray,.bool (az s1.b.ah k).isSome]),(10,PB w2.heap.size 50 [.int .i64 0,.string ⟨#[]⟩,.string ⟨#[]⟩,.slice none 0 0,.int .i64 0,.int .i64 0,.int .i64 0,.bool false])]) z (aU (⟨fun _ _ _ _ _ _ _ h=>h,⟨fun _ _ _ _ _ _ c h=>PB.st Db c h,trivial⟩⟩)) mixed (by kernel_rfl) rfl ?_;refine cD ?_;refine DP .r (fun _ i=>PV.ld1 (j:=3) fb (bM.range (As.gb i.2.g0)) rfl rfl)<|(fe) ak St.g5<|?_;refine DW.e rfl rfl rfl rfl rfl (fun wx i hF=>OX.call rV rfl rfl ((dE (k:=k) (As.gr i.2.g4)).mono ?_))<|?_
  ·
   rintro _ wy ⟨f1,f2,f3,rfl,hy⟩;exact⟨_,rfl,⟨Nat.le_trans i.1 hy.size,i.2.step hy⟩,hy.p0,_,rfl,⟨f1,f2,f3,rfl⟩⟩
  rintro _ wz _ ⟨f1,f2,f3,rfl⟩;refine cq ?_;refine DW.e rfl rfl rfl rfl rfl (fun wx i hF=>OX.alloc oL rfl fun b wy C hb=>⟨⟨Nat.le_trans i.1 C.ext.size,i.2.step C.ext⟩,C.ext.p0,_,rfl,_,rfl,Nat.le_trans i.1 C.ge,hb⟩)<|?_;rintro _ wz _ ⟨b6,rfl,_,_⟩;refine(cx) ?_;rintro w3 ⟨ye,kJ⟩ ⟨vR,⟨_,_⟩⟩;have ke:=kJ.ov vR Db FO FP;refine(dw) gk ke fun w4 kI nj iP=>?_;refine nx ?_;refine WL.nil (EX.np ?_);refine cq ?_;refine WC.dz (t:=33) (v:=.bool (!(az s1.b.ah k).isSome || (aF s1.b.ah k).bp)) iP ?_<|?_
  ·
   refine(cG) (fun Oo=>?_) (fun Oo=>?_)
   ·
    exact(bY) (by simp only [Oo];first | rfl | simp) (iP)
   refine(bq) dm iP.b0<|?_;exact(bY) (by simp only [Oo];first | rfl | simp) (iP)
  intro w5 T;refine(aT) (fun Yg=>?_) fun Yg=>?_
  ·
   rw [if_pos Yg] at d;simp only [Option.some.injEq,Prod.mk.injEq] at d;obtain⟨l,o⟩:=d;subst l;subst o;refine(bF) ?_;exact⟨a,_,rfl,R,(As.gr T.g4),(As.gr T.g5),T.p3.p3.p7.p4.k4⟩
  rw [if_neg (by rw [Yg];simp)] at d;refine cD ?_;have GB:=T.bA;refine WC.dS (m:=7) T mixed<|(gp) aL St.g0<|cD ?_;refine DP .r (fun _ i=>PV.ld1 (j:=1) aL (bM.range (As.gb i.2.g1)) rfl rfl)<|(cx)<|?_;rintro w6 ⟨vT,U⟩ _;refine(aT) (fun V=>?_) fun V=>?_
  ·
   simp at V
   rw [if_pos V] at d;simp only [Option.some.injEq,Prod.mk.injEq] at d;obtain⟨l,o⟩:=d;subst l;subst o;refine(bF) ?_;exact⟨a,_,rfl,R,(As.gr U.g4),(As.gr U.g5),U.p3.p3.p7.p4.k4⟩
  simp at V
  rw [if_neg V] at d;refine cq ?_;have Mn:=U.bA;refine WC.dS (m:=11) U mixed<|cD ?_;refine DP .r (fun _ i=>PV.ld1 (j:=3) fb (bM.range (As.gb i.2.g1)) rfl rfl)<|cD ?_;refine DP .r (fun _ i=>PV.ld1 (j:=1) aL (bM.range (As.gb i.2.g1)) rfl rfl)<|(fe) ak St.g6<|(cx)<|?_;rintro w7 ⟨vN,ek⟩ _;have dP:=ek;refine(cE) QO (AR dP.e0 (As.gr dP.g5) (by omega)) ?_;rintro _ w8 ⟨q1,q2,q3,Z2,rfl,yu,nZ⟩;have dp:=St.lv dP nZ yu;have On:=mO s1.b.ah s1.b.ad k;have hgg:=St.dC nZ;have ti:=dP.size;have Yh:=R.trans yu ti;have cM:=dp.dZ (by omega);have uM:=Yh.trans (dU.nA (F:=fun x=>x∈aZ q1) hgg) ti;refine pU ?_;refine WP .r (PV.ld1 (j:=3) fb cM.b2 rfl rfl)<|nx ?_;have W:=cM;refine(cE) QP (vL W.e0 (As.gr W.g6) (As.gr W.g0) (Bz y (by omega))) ?_;rintro _ w9 ⟨p1,p2,p3,Z3,rfl,yv,oX⟩;have Q:=St.lv W oX yv;have X:=uM.trans yv W.size;have Gq:=((As.gs Q.g0)).len;have hca:=BA y (group:=(aC s1.b.ah s1.b.ad k)) (by omega);refine(aT) (fun Yi=>?_) fun Yi=>?_
  ·
   simp at Yi
   have GO:(bP s1.b.ah (aC s1.b.ah s1.b.ad k))[ix]?=none:=List.getElem?_eq_none (by omega);rw [GO] at d;simp only [] at d;simp only [Option.some.injEq,Prod.mk.injEq] at d;obtain⟨l,o⟩:=d;subst l;subst o;refine(jY) bu Q.b3<|nx ?_;have G:=Q;refine(cE) Jt (sn G.e0 (As.gr G.g6) (As.gr G.g7) (As.gr G.g1) (by omega) (by omega)) ?_;rintro _ jP ⟨m1,m2,m3,m4,m5,m6,Z4,rfl,Y,mr⟩;have K:=St.lv G mr Y;have FQ:=X.trans Y G.size;have MS:=St.dC mr;have MT:=St.dC mr.p1;have sq:=G.size;refine bJ ?_;refine WL.go rfl (OX.O0 jl (As.gb K.g5) rfl rfl rfl rfl rfl fun kF vI oh=>?_);have L:=K.p5.Ck vI oh;refine nx ?_;have H:=L.u9 (B:=As.blk xb 107 (EA.cells ⟨m1,m4,a.a3,m2,m3,m5,m6,a.n3,a.c3⟩ D.s bb {s1 with b:=de s1.b (aC s1.b.ah s1.b.ad k) false})) (rfl)
   have R5:(de s1.b (aC s1.b.ah s1.b.ad k) false).ah.length=s1.b.ah.length:=by simp [de]
   have RY:(de s1.b (aC s1.b.ah s1.b.ad k) false).ab=s1.b.ab:=rfl;have eV:=H.p1.dZ (by rw [RY];omega);have N:=eV.p2.dZ (by omega);have GF:=(FQ.trans (dU.nA (F:=fun x=>x∈aZ m1) MS) sq).trans (dU.nA (F:=fun x=>x∈aZ m4) MT) sq;refine(bF) ?_;exact⟨⟨m1,m4,a.a3,m2,m3,m5,m6,a.n3,a.c3⟩,_,rfl,GF,(As.gr N.g1),(As.gr N.g0),N.p7.p7.qt.p5.k4⟩
  simp at Yi
  obtain⟨ch,wJ⟩:∃ch,(bP s1.b.ah (aC s1.b.ah s1.b.ad k))[ix]?=some ch:=⟨_,ae (by omega)⟩;rw [wJ] at d;simp only [] at d;have Io:=fm y wJ;refine cq ?_;obtain⟨jK,cF⟩:=Ow.addr (As.gs Q.g0) wJ;refine cq ?_;refine WP .r (PV.dO Fi cF rfl rfl (by omega))<|(bf) zZ (Ow.sP (As.gs Q.g0) (by omega) cF wJ)<|(fy) Q fun MO jP yo yp G=>?_;refine(dw) Jn G fun kF C8 yX K=>?_;refine(jY) ak K.b0<|(fw) (yq (k:=ch.read) (sb:=D.s) (s:=s1) (E:=a) (As.gb K.g4) (As.gm K.g5) y.busy (As.gr K.g8)) K fun pH s12 L=>?_;refine(aT) (fun R6=>?_) fun R6=>?_
  ·
   simp at R6
   rw [if_pos R6] at d;obtain⟨t,JN,AW⟩:=Option.bind_eq_some_iff.1 d;have GG:=(bR hR S).1 _ _ _ JN y Io;have Yj:=(bR hR S).2.1 _ _ _ _ _ AW GG.1;refine(jY) ak L.b0<|?_;have H:=L.p6.p6.tT.p7;refine(cE) L0 (gJ S (by omega) _ _ _ _ _ _ _ H.e4 (As.gr H.g8) (As.gr H.g9) y Io JN (by have:=Yj.2.cz;omega)) ?_;rintro _ qj ⟨E2,Z5,rfl,FR,Yk,Yl,FT⟩;have eV:=St.lv H FT FR;have GF:=X.trans FR H.size;have N:=eV.fr (Yk);have dT:=N.fr (Yl);have P:=dT.tT.drop;have J:=P.tT.drop;refine df ?_;refine eb (S,t,E2,ix,Z5) ⟨J.p6.drop.p6.drop.p6.drop.p6.drop.p6.p1.p2.p6.p6.p5,⟨AW,GG.1,by omega,GF,trivial⟩⟩
  simp at R6
  rw [if_neg (by rw [R6];simp)] at d;refine cq ?_;have MU:=L.bA;have R7:=L.hV;have R8:=L.size;refine WC.mJ (m:=12) [10] (E:=bN [(7,fun v _=>∃f1 f2 f3,v=.tuple #[.agg ((aF s1.b.ah ch.eQ).row f1 f2 f3).toArray,.bool (az s1.b.ah ch.eQ).isSome]),(11,PB pH.heap.size 50 [.int .i64 0,.string ⟨#[]⟩,.string ⟨#[]⟩,.slice none 0 0,.int .i64 0,.int .i64 0,.int .i64 0,.bool false])]) L (aU (⟨fun _ _ _ _ _ _ _ h=>h,⟨fun _ _ _ _ _ _ c h=>PB.st MU c h,trivial⟩⟩)) mixed (by kernel_rfl) rfl ?_;refine cD ?_;refine DP .r (fun _ i=>PV.ld1 (j:=3) fb (bM.range (As.gb i.2.g4)) rfl rfl)<|(tW) ak St.g0<|?_;refine DW.e rfl rfl rfl rfl rfl (fun wx i hF=>OX.call rV rfl rfl ((dE (k:=ch.eQ) (As.gr i.2.g8)).mono ?_))<|?_
  ·
   rintro _ wy ⟨f1,f2,f3,rfl,hy⟩;exact⟨_,rfl,⟨Nat.le_trans i.1 hy.size,i.2.step hy⟩,hy.p0,_,rfl,⟨f1,f2,f3,rfl⟩⟩
  rintro _ wz _ ⟨f1,f2,f3,rfl⟩;refine cq ?_;refine DW.e rfl rfl rfl rfl rfl (fun wx i hF=>OX.alloc oL rfl fun b wy C hb=>⟨⟨Nat.le_trans i.1 C.ext.size,i.2.step C.ext⟩,C.ext.p0,_,rfl,_,rfl,Nat.le_trans i.1 C.ge,hb⟩)<|?_;rintro _ wz _ ⟨b11,rfl,_,_⟩;refine(cx) ?_;rintro qj ⟨JO,H⟩ ⟨Ym,⟨_,_⟩⟩;have eV:=H.ov Ym MU R7 R8;refine(dw) gk eV fun yl Oh Oi N=>?_;refine nx ?_;refine WL.nil (EX.np ?_);refine cq ?_;have afJ:=N.bA;refine WC.cH (m:=13) (E:=bN [(10,fun v _=>v=.int .i64 (aP (valOf aa x.ab) s1.b ch.read))]) N (aU (⟨fun _ _ _ _ _ _ _ h=>h,trivial⟩)) mixed (by kernel_rfl)<|(gp) Fh St.g5<|(tW) bu St.g5<|(tW) ak St.g1<|?_;refine DW.e rfl rfl rfl rfl rfl (fun wx i hF=>OX.call QR rfl rfl ((th (k:=ch.read) hR Io (i.2.one (.tail _ (.tail _ (.tail _ (.tail _ (.tail _ (.tail _ (.tail _ (.tail _ (.tail _ (.tail _ (.tail _ (.head _))))))))))))) (As.gr i.2.g8) (As.gr i.2.g9)).mono ?_))<|?_
  ·
   rintro _ wy ⟨rfl,hy⟩;exact⟨_,rfl,⟨Nat.le_trans i.1 hy.bS.size,i.2.xD kB hy⟩,hy.bS.mono (fun _ _ hx=>Bw kB hx),_,rfl,rfl⟩
  rintro _ wz _ rfl;refine(gp) aL St.g0<|(cx)<|?_;rintro vS ⟨abX,dT⟩ ⟨_,_⟩;refine(aT) (fun IA=>?_) fun IA=>?_
  ·
   simp at IA
   rw [if_pos IA] at d;refine(bf) ak (bM.range (As.gb dT.g10))<|(fw) (dD (k:=k)) dT fun wN s16 P=>?_;refine(aT) (fun MV=>?_) fun MV=>?_
   ·
    rw [if_pos MV] at d;simp only [Option.some.injEq,Prod.mk.injEq] at d;obtain⟨l,o⟩:=d;subst l;subst o;refine(jY) bu P.b5<|nx ?_;have J:=P;refine(cE) Jt (sn J.e0 (As.gr J.g8) (As.gr J.g9) (As.gr J.g3) (by omega) (by omega)) ?_;rintro _ B3 ⟨m1,m2,m3,m4,m5,m6,Z4,rfl,Y,yw⟩;have e6:=St.lv J yw Y;have FQ:=X.trans Y J.size;have MS:=St.dC yw;have MT:=St.dC yw.p1;have sq:=J.size;refine bJ ?_;refine WL.go rfl (OX.O0 jl (As.gb e6.g7) rfl rfl rfl rfl rfl fun Dh Ug N3=>?_);have ff:=e6.p7.Ck Ug N3;refine nx ?_;have ir:=ff.u9 (B:=As.blk xb 107 (EA.cells ⟨m1,m4,a.a3,m2,m3,m5,m6,a.n3,a.c3⟩ D.s bb {s1 with b:=de s1.b (aC s1.b.ah s1.b.ad k) true})) (rfl)
    have R5:(de s1.b (aC s1.b.ah s1.b.ad k) true).ah.length=s1.b.ah.length:=by simp [de]
    have RY:(de s1.b (aC s1.b.ah s1.b.ad k) true).ab=s1.b.ab:=rfl;have jq:=ir.p1.dZ (by rw [RY];omega);have lX:=jq.p2.dZ (by omega);have GF:=(FQ.trans (dU.nA (F:=fun x=>x∈aZ m1) MS) sq).trans (dU.nA (F:=fun x=>x∈aZ m4) MT) sq;refine(bF) ?_;exact⟨⟨m1,m4,a.a3,m2,m3,m5,m6,a.n3,a.c3⟩,_,rfl,GF,(As.gr lX.g1),(As.gr lX.g0),lX.p9.p9.I2.p5.k4⟩
   rw [if_neg (by rw [MV];simp)] at d;simp only [Option.some.injEq,Prod.mk.injEq] at d;obtain⟨l,o⟩:=d;subst l;subst o;refine aQ ?_;refine(bF) ?_;exact⟨a,_,rfl,X,(As.gr P.g8),(As.gr P.g9),P.p7.p7.qt.p8.k4⟩
  simp at IA
  rw [if_neg (by omega)] at d;refine jg ?_;refine eb (S,s1,a,ix+1,Z3) ⟨dT.drop.drop.drop.drop.drop,⟨d,y,by omega,X,trivial⟩⟩
 simp at g17
 rw [if_pos g17] at d;simp only [Option.some.injEq,Prod.mk.injEq] at d;obtain⟨l,o⟩:=d;subst l;subst o;refine(bF) ?_;exact⟨a,_,rfl,R,(As.gr z.g3),(As.gr z.g4),z.p2.p2.p6.p3.k4⟩
set_option maxHeartbeats 1600000 in
theorem Dk{s:ES}{f:Nat}(P:ao aa) (gn:St w M Z w [As.blk xb 107 (E.cells D.s bb s),As.k8 prog 139 aa x D,As.map Key.val bb s.busy,As.os RR.key 43 2 E.a3 E.n3 E.c3 s.cz]) (hi:Rd RR.aA 4 Z w E.a1 E.n1 E.c1 s.b.ab) (hr:Rd RR.fl 8 Z w E.a2 E.n2 E.c2 s.b.ah) (GD:Good aa x.ab s) (Iz:s.b.ab.length≤1000000) (Uh:gh aa k 0) (gJ:∀g,g<f→Ue aa x D xb bb g) (FN:eG aa (valOf aa x.ab) f s k [] []=some s') (yt:s'.cz.length≤1000000):Calls prog 94 #[.pointer (some ⟨xb,0,none⟩),k.val] w fun e w'=>∃(H:EA) (Z':Nat→Prop),e=.returned (.tuple #[])∧dU w.heap.size Z Z'∧Rd RR.aA 4 Z' w' H.a1 H.n1 H.c1 s'.b.ab∧Rd RR.fl 8 Z' w' H.a2 H.n2 H.c2 s'.b.ah∧St w M Z' w' [As.blk xb 107 (H.cells D.s bb s'),As.k8 prog 139 aa x D,As.map Key.val bb s'.busy,As.os RR.key 43 2 H.a3 H.n3 H.c3 s'.cz]:=by
 refine enter func94 rfl ntmps94 rfl<|?_;have aR:=gn;have st1:=aR.fr hi;have st2:=st1.fr hr;have iO:=st2.fD RR.key 43 2;have iL:=iO.fD RR.str 9 1;refine(dy) iL fun b3 w1 DB uK kJ=>?_;refine aQ ?_;refine nx ?_;refine WC.kl (σ:=Nat × ES × EA × (List Key) × (List ByteArray) × (Nat→Prop) × (Option Addr) × Nat × Nat × (Option Addr) × Nat × Nat) (db:=fun(J,s1,i,reads,ai,T,z,C,L,Q,N,R)=>[(0,.pointer (some ⟨xb,0,none⟩)),(3,.pointer (some ⟨b3,0,none⟩)),(4,.slice z C L),(5,.slice Q N R)]) (F:=fun(J,s1,i,reads,ai,T,z,C,L,Q,N,R)=>[As.os RR.key 43 2 z C L (reads),As.os RR.str 9 1 Q N R (ai),As.blk xb 107 (i.cells D.s bb s1),As.map Key.val bb s1.busy,As.os RR.key 43 2 i.a3 i.n3 i.c3 s1.cz,As.ro RR.aA 4 i.a1 i.n1 i.c1 s1.b.ab,As.ro RR.fl 8 i.a2 i.n2 i.c2 s1.b.ah]) (I:=fun(J,s1,i,reads,ai,T,z,C,L,Q,N,R)=>(eG aa (valOf aa x.ab) J s1 k reads ai=some s')∧(Good aa x.ab s1)∧(J≤f)∧(dU w.heap.size Z T)∧(gh aa k ai.length)∧(reads.length=ai.length)∧(∀a∈reads,eB aa a)∧(∀y∈aZ z,w.heap.size≤y)∧True) (μ:=fun(J,s1,i,reads,ai,T,z,C,L,Q,N,R)=>J) (Zf:=fun(J,s1,i,reads,ai,T,z,C,L,Q,N,R)=>T) (f,s,E,[],[],Z,none,0,0,none,0,0) (kJ.p3.p4.p8.p8.p7.p6.p7) Sub.t (⟨FN,GD,Nat.le_refl _,dU.refl _ _,Uh,rfl,(fun a u=>by cases u),(by simp [aZ]),trivial⟩)<|?_;rintro⟨J,s1,i,reads,ai,T,z,C,L,Q,N,R⟩ w2 G ⟨q,R9,Ye,hZ,Dl,hlen,Oc,Ui,_⟩;simp only [CA,NA] at G q R9 Ye hZ Dl hlen Oc Ui ⊢
 obtain⟨Oq,rfl⟩:∃g,J=g+1:=by cases J with | zero=>simp [eG] at q | succ g=>exact⟨g,rfl⟩
 unfold eG at q
 have Uf:=R9.len
 have Yf:s1.b.ab.length≤1000000:=by rw [R9.aA,← GD.aA];exact Iz
 have h6:=Dl.le P;have Jf:=((As.gs G.g0)).len;have uL:=((As.gs G.g1)).len;have Gq:=((As.gr G.g6)).len;refine(bq) uF G.b2<|(aT) (fun g13=>?_) fun g13=>?_
 ·
  simp at g13
  rw [if_neg (by simp [g13])] at q;refine cD ?_;obtain⟨o,DC⟩:∃t,bB aa k ai=t:=⟨_,rfl⟩;rw [DC] at q;have Sa:=@gh.next aa k P ai Dl;rw [DC] at Sa;have Uj:=G.bA;have Yn:=G.hV;have Yo:=G.size;refine WC.cH (m:=11) (E:=bN [(9,fun v _=>v=o.val),(10,PB w2.heap.size 142 [.bool false,.string ⟨#[]⟩,.int .i64 0,.string ⟨#[]⟩])]) G (aU (⟨fun _ _ _ _ _ _ _ h=>h,⟨fun _ _ _ _ _ _ c h=>PB.st Uj c h,trivial⟩⟩)) mixed (by kernel_rfl)<|cq ?_;refine DP .r (fun _ d=>PV.ki Fh (bM.range (As.gb d.2.g2)) rfl rfl)<|bJ ?_;refine DP .r (fun _ d=>V1 ky (bM.range (As.gvb (d.2.g8))) .r)<|(fe) ak St.g7<|nx ?_;refine DW.c1 (fun U d S=>eh (k:=k) (SD.ht (As.gv (d.2.g8))) (SD.hu (As.gv (d.2.g8))) (Ow.rd (As.gs d.2.g1) (by omega)) P.hb (Dl.not P).1) (by rw [DC])<|?_;refine DW.e rfl rfl rfl rfl rfl (fun U d S=>OX.alloc nV rfl fun b wy l hb=>⟨⟨Nat.le_trans d.1 l.ext.size,d.2.step l.ext⟩,l.ext.p0,_,rfl,_,rfl,Nat.le_trans d.1 l.ge,hb⟩)<|?_;rintro _ wz _ ⟨b6,rfl,_,_⟩;refine(cx) ?_;rintro w3 ⟨sq,iP⟩ ⟨vR,⟨_,_⟩⟩;have im:=iP.ov vR Uj Yn Yo;refine(dw) fc im fun w4 kI nj V=>?_;refine(bq) dm V.b0<|(aT) (fun JP=>?_) fun JP=>?_
  ·
   rw [if_pos JP] at q;refine bJ ?_;have GB:=V.bA;have MW:=V.hV;have MX:=V.size;refine WC.mJ (m:=11) [9] (E:=bN [(6,fun v _=>∃f1 f2 f3,v=.tuple #[.agg ((aF s1.b.ah k).row f1 f2 f3).toArray,.bool (az s1.b.ah k).isSome]),(10,PB w4.heap.size 50 [.int .i64 0,.string ⟨#[]⟩,.string ⟨#[]⟩,.slice none 0 0,.int .i64 0,.int .i64 0,.int .i64 0,.bool false])]) V (aU (⟨fun _ _ _ _ _ _ _ h=>h,⟨fun _ _ _ _ _ _ c h=>PB.st GB c h,trivial⟩⟩)) mixed (by kernel_rfl) rfl ?_;refine cD ?_;refine DP .r (fun _ d=>PV.ld1 (j:=3) fb (bM.range (As.gb d.2.g3)) rfl rfl)<|(fe) ak St.g8<|?_;refine DW.e rfl rfl rfl rfl rfl (fun U d S=>OX.call rV rfl rfl ((dE (k:=k) (As.gr d.2.g7)).mono ?_))<|?_
   ·
    rintro _ wy ⟨f1,f2,f3,rfl,hy⟩;exact⟨_,rfl,⟨Nat.le_trans d.1 hy.size,d.2.step hy⟩,hy.p0,_,rfl,⟨f1,f2,f3,rfl⟩⟩
   rintro _ wz _ ⟨f1,f2,f3,rfl⟩;refine cq ?_;refine DW.e rfl rfl rfl rfl rfl (fun U d S=>OX.alloc oL rfl fun b wy l hb=>⟨⟨Nat.le_trans d.1 l.ext.size,d.2.step l.ext⟩,l.ext.p0,_,rfl,_,rfl,Nat.le_trans d.1 l.ge,hb⟩)<|?_;rintro _ wz _ ⟨b7,rfl,_,_⟩;refine(cx) ?_;rintro w5 ⟨vT,W⟩ ⟨vR,⟨_,_⟩⟩;have dP:=W.ov vR GB MW MX;refine(dw) gk dP fun w6 vI oh dp=>?_;refine nx ?_;refine WL.nil (EX.np ?_);refine bJ ?_;refine WC.dz (t:=46) (v:=.bool (!(az s1.b.ah k).isSome && decide (4000≤s1.b.ah.length))) dp ?_<|?_
   ·
    refine(cG) (fun Yp=>?_) (fun Yp=>?_)
    ·
     refine cD ?_;refine WP .r (PV.ld1 (j:=3) fb dp.b4 rfl rfl)<|?_;exact(bY) (by simp only [Yp];first | rfl | (simp [Gq];done) | (simp;omega)) (dp)
    exact(bY) (by simp only [Yp];first | rfl | (simp [Gq];done) | (simp;omega)) (dp)
   intro w7 cM;refine(aT) (fun Yq=>?_) fun Yq=>?_
   ·
    rw [if_pos Yq] at q;simp only [Option.some.injEq] at q;subst q;refine df ?_;refine WL.s1 cM.p4 fun w8 _ cS=>?_;refine nx ?_;have O:=cS.u9 (B:=As.blk xb 107 (EA.cells i D.s bb {s1 with e:=45})) (rfl);refine eX ?_;refine EX.qz (.inl rfl) rfl<|?_;exact⟨i,_,rfl,hZ,(As.gr O.g7),(As.gr O.g8),O.p6.p6.tT.p3.k4⟩
   rw [if_neg (by rw [Yq];simp)] at q;simp only [Option.some.injEq] at q;subst q
   have JL:s1.cz.length+1≤1000000:=by simpa using yt
   refine cq ?_;have cS:=cM.p2.dZ (by omega);have MY:=hZ.trans (dU.nA (F:=fun x=>x∈aZ z) Ui) (Nat.le_refl _);have hN9:=cS.bA;refine WC.mJ (m:=15) [0] (E:=bN [(14,fun v _=>v=.agg ((di s1.b k o.value reads).row z C L).toArray)]) cS (aU (⟨fun _ _ _ _ _ _ _ h=>h,trivial⟩)) mixed (by kernel_rfl) rfl ?_;refine df ?_;refine DP .r (fun _ d=>PV.ld1 (j:=3) fb (bM.range (As.gb d.2.g4)) rfl rfl)<|(tW) bu St.g4<|(fe) ak St.g9<|(gp) fq St.g2<|nx ?_;refine DW.c0 (fun U d S=>Ay (k:=k) (v:=o.value) (As.gr d.2.g7) (As.gr d.2.g8) (As.gr d.2.g0))<|(cx) ?_;rintro w8 ⟨ML,O⟩ ⟨_,_⟩;have K:=O;refine(cE) QS (Aw (x:=(di s1.b k o.value reads)) K.e0 (As.gr K.g8) (by omega) (As.gr K.g0) (by show reads.length≤4000;omega)) ?_;rintro _ w9 ⟨p1,p2,p3,Z4,rfl,Sb,oX⟩;have e7:=St.lv K oX Sb;have JJ:(eN s1.b.ah (di s1.b k o.value reads)).length≤s1.b.ah.length+1:=ot (di s1.b k o.value reads) s1.b.ah false;have hgp:=St.dC oX;have sq:=K.size;have FQ:=MY.trans Sb sq;have fX:=e7.dZ (by omega);have GF:=FQ.trans (dU.nA (F:=fun x=>x∈aZ p1) hgp) sq;refine cq ?_;refine WL.s1 (j:=3) fX.p5 fun jP _ ei=>?_;refine WL.nil (EX.np ?_);have X:=ei.u9 (B:=As.blk xb 107 (EA.cells ⟨i.a1,p1,i.a3,i.n1,i.c1,p2,p3,i.n3,i.c3⟩ D.s bb {s1 with b:={s1.b with ah:=eN s1.b.ah (di s1.b k o.value reads)}})) (rfl);refine bJ ?_;have hnr:=((As.gs X.g7)).len;have tg:=X.bA;have yf:=X.hV;have yg:=X.size;refine WC.mJ (m:=7) [0] (E:=bN [(6,PS jP.heap.size 43 1 k.cells)]) X (aU (⟨fun _ _ _ _ _ _ c h=>PS.st tg c h,trivial⟩)) mixed (by kernel_rfl) rfl ?_;refine(gp) gS St.g0<|(fe) ak St.g10<|?_;refine DW.e rfl rfl rfl rfl rfl (fun U d S=>OX.aM (us:=k.cells) cP rfl rfl rfl rfl fun b wy l hb=>⟨⟨Nat.le_trans d.1 l.ext.size,d.2.step l.ext⟩,l.ext.p0,_,rfl,_,rfl,Nat.le_trans d.1 l.ge,hb⟩)<|?_;rintro _ wz _ ⟨b75,rfl,_,_⟩;refine(cx) ?_;rintro kF ⟨uN,gX⟩ ⟨MM,_⟩;have dT:=gX.ov (PS.pb MM) tg yf yg;refine WL.go rfl (OX.qG oK rfl rfl rfl (As.gs dT.g8) (SR.cT (A:=fun _=>True) (x:=k) (As.gb dT.g0) trivial rfl (by simp [Key.cells,Value.oneCell']) rfl) (by show(i.n3+1)*_≤_;omega) (by show i.n3+1≤_;omega) (Nat.zero_le _) fun a76 Dm pH MZ Uk Na Yr=>?_);have iq:=dT.p8.lT Uk MZ Na;refine bJ ?_;refine WL.s1 iq.p2 fun qj _ iR=>?_;refine WL.nil (EX.np ?_);have e6:=iR.u9 (B:=As.blk xb 107 (EA.cells ⟨i.a1,p1,a76,i.n1,i.c1,p2,p3,(i.n3+1),Dm⟩ D.s bb {s1 with b:={s1.b with ah:=eN s1.b.ah (di s1.b k o.value reads)},cz:=s1.cz++[k]})) (rfl);refine fY ?_;refine EX.qz (.inl rfl) rfl<|?_;exact⟨⟨i.a1,p1,a76,i.n1,i.c1,p2,p3,(i.n3+1),Dm⟩,_,rfl,GF,(As.gr e6.g9),(As.gr e6.g3),e6.p1.p8.N2.p3.k4⟩
  rw [if_neg (by rw [JP];simp)] at q;obtain⟨t,JN,Y⟩:=Option.bind_eq_some_iff.1 q;have GC:=Sa JP;have GG:=(bR P Oq).1 _ _ _ JN R9 GC.2;refine(jY) ak V.b0<|?_
  have Ul:t.cz.length≤1000000:=by
   split at Y
   ·
    have:=((bR P Oq).2.2 _ _ _ _ _ Y GG.1 (by simpa using GC.1) (by simp [hlen]) (fun a u=>by rcases List.mem_append.1 u with u | u;exact Oc a u;simp at u;subst u;exact GC.2)).2.cz
    omega
   have:=((bR P Oq).2.2 _ _ _ _ _ Y GG.1 Dl hlen Oc).2.cz
   omega
  have W:=V.p5.p5.p9.p6;refine(cE) L0 (gJ Oq (by omega) _ _ _ _ _ _ _ W.e4 (As.gr W.g7) (As.gr W.g8) R9 GC.2 JN Ul) ?_;rintro _ w5 ⟨E2,Z5,rfl,FR,Yk,Yl,qh⟩;have dP:=St.lv W qh FR;have GF:=hZ.trans FR W.size;have dp:=dP.fr (Yk);have cM:=dp.fr (Yl);have cS:=cM.p9.drop;have O:=cS.p9.drop;refine(bq) uF O.b2<|(aT) (fun FU=>?_) fun FU=>?_
  ·
   simp at FU
   rw [if_pos FU] at Y;have K:=O.p7;have IB:=K.bA;have Sc:=K.hV;have Sd:=K.size;refine WC.GX (m:=16) [5] (fun j w w'=>match j with | 4=>fj (fun x=>x∈aZ z) w w' | _=>fj (fun _=>False) w w') (E:=bN [(3,PS w5.heap.size 43 1 o.ask.cells),(4,fun v w'=>∃a c,v=.slice a (C+1) c∧(∀x∈aZ a,x∈aZ z∨w5.heap.size≤x)∧Ow RR.key 43 2 Z5 w' a (C+1) c (reads++[o.ask]))]) K (jy (⟨⟨trivial,⟨fun _ _ _ _ _ c h=>PS.st (fun x hx=>IB x ⟨_,.head _,hx⟩) c h,trivial⟩⟩,⟨⟨trivial,⟨trivial,trivial⟩⟩,trivial⟩⟩)) mixed (by kernel_rfl) rfl ?_;refine(tW) ak St.g7<|?_;refine DW.e rfl rfl rfl rfl rfl (fun U d S=>OX.aM (us:=o.ask.cells) cP rfl rfl rfl rfl fun b wy l hb=>⟨⟨Nat.le_trans d.1 l.ext.size,d.2.step l.ext⟩,l.ext.p0,_,rfl,_,rfl,Nat.le_trans d.1 l.ge,hb⟩)<|?_;rintro _ wz _ ⟨b91,rfl,_,_⟩
   refine DW.e rfl rfl rfl rfl rfl (fun U d S=>by
    obtain⟨⟨b',Gu,Fy,uK⟩,_⟩:=S;simp only [Value.slice.injEq,Option.some.injEq,Addr.mk.injEq,and_true,true_and] at Gu;subst Gu;exact OX.UY oK rfl rfl rfl (As.gs d.2.g0) (fun x hx=>d.2.jV _ M0 x hx) (SR.cT (A:=fun _=>True) (x:=o.ask) uK trivial rfl (by simp [Key.cells,Value.oneCell']) rfl) (by omega) (by omega) fun a' c' wy h1 h2 h3 h4=>⟨⟨Nat.le_trans d.1 h3.size,d.2.same M0 h3.p h2⟩,h3.p,_,rfl,a',c',rfl,(fun x hx=>by rcases h4 x hx with h | h;exact .inl h;exact .inr (Nat.le_trans d.1 h)),h1⟩) ?_
   rintro _ wz _ ⟨a4,c4,rfl,_,_⟩;refine cD ?_;refine DP .r (fun _ d=>PV.ki Fh (bM.range (As.gb d.2.g3)) rfl rfl)<|(tW) bu St.g3<|(tW) ak St.g7<|(cx)<|?_;rintro w6 ⟨B5,e7⟩ ⟨hF4,⟨hF3,_⟩⟩;obtain⟨_,_,he4,Se,ho4⟩:=hF4;simp only [Value.slice.injEq,true_and] at he4;obtain⟨rfl,rfl⟩:=he4;have fX:=e7;have ei:=fX.swap (B:=As.os RR.key 43 2 a4 (C+1) c4 (reads++[o.ask])) ho4 Se IB Sc Sd;refine(cE) QU (vU (k:=o.ask) P GC.2 (ei.one (.tail _ (.tail _ (.tail _ (.tail _ (.head _)))))) (As.gr ei.g2) (As.gr ei.g1)) ?_;rintro _ w7 ⟨rfl,tb⟩;have X:=ei.xD M4 tb;refine WL.go rfl (OX.aM (us:=[.string (dt (valOf aa x.ab) t.b o.ask)]) ik rfl rfl rfl rfl fun afO w8 Sf Sg=>?_);have gX:=X.du Sf Sg;refine WL.ap rfl rfl gX.p9 (SR.cT (A:=fun _=>True) (x:=dt (valOf aa x.ab) t.b o.ask) (As.gb gX.g0) trivial rfl (by simp [Value.oneCell']) rfl) fun Ys Sh w9 ab0 ab1 dT=>?_;refine bJ ?_;refine WL.nil (EX.np ?_);refine nx ?_;refine eb (Oq,t,E2,reads++[o.ask],ai++[dt (valOf aa x.ab) t.b o.ask],Z5,a4,(C+1),c4,Ys,(N+1),Sh) ⟨dT.p1.drop.p8.drop.p8.p3.p4.p8.p8.p7.p6.p7,⟨Y,GG.1,by omega,GF,by simpa using GC.1,by simp [hlen],(fun a u=>by rcases List.mem_append.1 u with u | u;exact Oc a u;simp at u;subst u;exact GC.2),(fun y hy=>by rcases Se y hy with h | h;exact Ui y h;omega),trivial⟩⟩
  simp at FU
  rw [if_neg FU] at Y;refine bJ ?_;refine eb (Oq,t,E2,reads,ai,Z5,z,C,L,Q,N,R) ⟨O.p6.drop.p8.p1.p2.p6.p6.p5.p8.p8,⟨Y,GG.1,by omega,GF,Dl,hlen,Oc,Ui,trivial⟩⟩
 simp at g13
 rw [if_pos g13] at q;simp only [Option.some.injEq] at q;subst q;refine cD ?_;refine EX.qz (.inr rfl) rfl<|?_;exact⟨i,_,rfl,hZ,(As.gr G.g5),(As.gr G.g6),G.p4.p4.p8.p5.k4⟩
set_option maxHeartbeats 1600000 in
theorem FW{s:ES}{f:Nat}(J:ao aa) (gn:St w M Z w [As.blk xb 107 (E.cells D.s bb s),As.k8 prog 139 aa x D,As.map Key.val bb s.busy,As.os RR.key 43 2 E.a3 E.n3 E.c3 s.cz]) (hi:Rd RR.aA 4 Z w E.a1 E.n1 E.c1 s.b.ab) (hr:Rd RR.fl 8 Z w E.a2 E.n2 E.c2 s.b.ah) (K:Good aa x.ab s) (Y:s.b.ab.length≤1000000) (hk:eB aa k) (gJ:∀g,g<f→Ue aa x D xb bb g) (d:hY aa (valOf aa x.ab) (f+1) s k=some s') (yt:s'.cz.length≤1000000):Calls prog 54 #[.pointer (some ⟨xb,0,none⟩),k.val] w fun e w'=>∃(l:EA) (Z':Nat→Prop),e=.returned (.tuple #[])∧dU w.heap.size Z Z'∧Rd RR.aA 4 Z' w' l.a1 l.n1 l.c1 s'.b.ab∧Rd RR.fl 8 Z' w' l.a2 l.n2 l.c2 s'.b.ah∧St w M Z' w' [As.blk xb 107 (l.cells D.s bb s'),As.k8 prog 139 aa x D,As.map Key.val bb s'.busy,As.os RR.key 43 2 l.a3 l.n3 l.c3 s'.cz]:=by
 unfold hY at d
 have hbk:(aX s.busy k).getD (.bool false)=.bool (s.on k):=by unfold ES.on;rcases K.busy k with h | h <;> rw [h] <;> rfl
 refine enter func54 rfl ntmps54 rfl<|?_;have aR:=gn;have st1:=aR.fr hi;have st2:=st1.fr hr;refine(dy) st2 fun b3 w1 DB uK F=>?_;refine cD ?_;refine WC.dz (t:=14) (v:=.bool (decide (s.e≠0) || aw k)) F ?_<|?_
 ·
  refine(bq) uF F.b3<|(cG) (fun g11=>?_) (fun g11=>?_)
  ·
   exact(bY) (by simp only [g11];first | rfl | simp) (F)
  refine(bf) ak F.b0<|(fw) (cJ (k:=k)) F fun w2 s2 o=>?_;exact(bY) (by simp only [g11];first | rfl | simp) (o)
 intro w2 o;refine(aT) (fun g14=>?_) fun g14=>?_
 ·
  rw [if_pos (by simpa using g14)] at d;simp only [Option.some.injEq] at d;subst d;refine bJ ?_;refine EX.qz (.inl rfl) rfl<|?_;exact⟨E,Z,rfl,dU.refl _ _,(As.gr o.g2),(As.gr o.g1),o.p6.p6.p6.p6.k4⟩
 have Dy:aw k=false:=by simp at g14;exact g14.2
 rw [if_neg (by simpa using g14)] at d;refine cD ?_;have Yt:=o.bA;have Yu:=o.hV;have Yv:=o.size;refine WC.mJ (m:=11) [9] (E:=bN [(6,fun v _=>∃f1 f2 f3,v=.tuple #[.agg ((aF s.b.ah k).row f1 f2 f3).toArray,.bool (az s.b.ah k).isSome]),(10,PB w2.heap.size 50 [.int .i64 0,.string ⟨#[]⟩,.string ⟨#[]⟩,.slice none 0 0,.int .i64 0,.int .i64 0,.int .i64 0,.bool false])]) o (aU (⟨fun _ _ _ _ _ _ _ h=>h,⟨fun _ _ _ _ _ _ c h=>PB.st Yt c h,trivial⟩⟩)) mixed (by kernel_rfl) rfl ?_;refine cD ?_;refine DP .r (fun _ i=>PV.ld1 (j:=3) fb (bM.range (As.gb i.2.g3)) rfl rfl)<|(fe) ak St.g0<|?_;refine DW.e rfl rfl rfl rfl rfl (fun wx i hF=>OX.call rV rfl rfl ((dE (k:=k) (As.gr i.2.g1)).mono ?_))<|?_
 ·
  rintro _ wy ⟨f1,f2,f3,rfl,hy⟩;exact⟨_,rfl,⟨Nat.le_trans i.1 hy.size,i.2.step hy⟩,hy.p0,_,rfl,⟨f1,f2,f3,rfl⟩⟩
 rintro _ wz _ ⟨f1,f2,f3,rfl⟩;refine cq ?_;refine DW.e rfl rfl rfl rfl rfl (fun wx i hF=>OX.alloc oL rfl fun b wy L hb=>⟨⟨Nat.le_trans i.1 L.ext.size,i.2.step L.ext⟩,L.ext.p0,_,rfl,_,rfl,Nat.le_trans i.1 L.ge,hb⟩)<|?_;rintro _ wz _ ⟨b4,rfl,_,_⟩;refine(cx) ?_;rintro w3 ⟨ti,kJ⟩ ⟨vR,⟨_,_⟩⟩;have ke:=kJ.ov vR Yt Yu Yv;refine(dw) gk ke fun w4 kI nj P=>?_;refine nx ?_;refine WL.nil (EX.np ?_);refine bJ ?_;refine WC.dz (t:=35) (v:=.bool (aI s.b k)) P ?_<|?_
 ·
  have Db:=P.bA;refine WC.dS (m:=9) P mixed<|(l9) (fun Q=>?_) (fun Q=>?_)
  ·
   refine(gp) aL St.g0<|cD ?_;refine DP .r (fun _ i=>PV.ld1 (j:=1) aL (bM.range (As.gb i.2.g4)) rfl rfl)<|(cx)<|?_;rintro w5 ⟨ye,q⟩ _;exact(bY) (by unfold aI;simp only [Q];first | rfl | simp) (q)
  refine(cx) ?_;rintro w5 ⟨ye,q⟩ _;exact(bY) (by unfold aI;simp only [Q];first | rfl | simp) (q)
 intro w5 q;refine(aT) (fun R=>?_) fun R=>?_
 ·
  rw [if_pos R] at d;simp only [Option.some.injEq] at d;subst d;refine bJ ?_;refine EX.qz (.inl rfl) rfl<|?_;exact⟨E,Z,rfl,dU.refl _ _,(As.gr q.g3),(As.gr q.g2),q.p7.p7.p7.p7.k4⟩
 rw [if_neg (by rw [R];simp)] at d;refine cD ?_;have Uj:=q.bA;refine WC.dS (m:=5) q mixed<|(gp) pz St.g4<|(fe) ak St.g1<|(cx)<|?_;rintro w6 ⟨sq,G⟩ _;refine WP .r (PV.hW cB fE vC (As.gm G.g6) (hbk) rfl rfl)<|(aT) (fun S=>?_) fun S=>?_
 ·
  rw [if_pos S] at d;refine(bf) ak G.b1<|(fw) (dD (k:=k)) G fun w7 s7 C=>?_;refine(aT) (fun H=>?_) fun H=>?_
  ·
   simp at H
   rw [if_neg (by rw [H];simp)] at d;simp only [Option.some.injEq] at d;subst d;refine cD ?_;refine WL.s1 C.p4 fun w8 _ N=>?_;refine nx ?_;have u:=N.u9 (B:=As.blk xb 107 (EA.cells E D.s bb {s with e:=43})) (rfl);refine cq ?_;refine EX.qz (.inl rfl) rfl<|?_;exact⟨E,Z,rfl,dU.refl _ _,(As.gr u.g4),(As.gr u.g3),u.p7.p7.p7.p3.k4⟩
  simp at H
  rw [if_pos H] at d;simp only [Option.some.injEq] at d;subst d;refine cD ?_;refine EX.qz (.inl rfl) rfl<|?_;exact⟨E,Z,rfl,dU.refl _ _,(As.gr C.g3),(As.gr C.g2),C.p7.p7.p7.p7.k4⟩
 rw [if_neg (by rw [S];simp)] at d;refine cq ?_;have hN7:=G.bA;refine WC.dS (m:=5) G mixed<|(gp) pz St.g4<|(fe) ak St.g1<|(cx)<|?_;rintro w7 ⟨Si,C⟩ _;refine WL.go rfl (OX.put cB fE (As.gm C.g6) rfl rfl rfl fun w8 AB vO=>?_);have N:=C.p6.hJ AB vO;refine nx ?_;obtain⟨⟨s2,r2⟩,hp,d⟩:=Option.bind_eq_some_iff.1 d;obtain⟨s3,y,d⟩:=Option.bind_eq_some_iff.1 d;simp only [Option.some.injEq] at d;subst d;have T:=(bR J f).2.1 _ _ _ _ _ hp (K.on k);have Uh:=hk.gx Dy;have U:s3.cz.length≤1000000:=yt
 have Sj:s2.cz.length≤1000000:=by
  split at y
  ·
   have:=((bR J f).2.2 _ _ _ _ _ y T.1 Uh rfl (fun a ha=>by cases ha)).2.cz
   exact Nat.le_trans this U
  simp only [Option.some.injEq] at y;subst y;exact U
 have Yw:s2.b.ab.length≤1000000:=by rw [T.1.aA,← K.aA];exact Y
 refine(bf) ak N.b2<|?_;have u:=N.p7.p1.p7.p7;refine(cE) WT (yr (s:={s with busy:=bZ s.busy k (.bool true)}) (E:=E) J u.e4 (As.gr u.g7) (As.gr u.g6) (K.on k) Y gJ hp Sj) ?_;rintro _ w9 ⟨E2,Z2,rfl,yu,Yx,Yy,oX⟩;have cM:=St.lv u oX yu;have uM:=(dU.refl w.heap.size Z).trans yu u.size;have cS:=cM.fr (Yx);have fG:=cS.fr (Yy);have hP:=fG.p9.drop;have O:=hP.p8.drop;refine(aT) (fun V=>?_) fun V=>?_
 ·
  rw [if_pos V] at y;refine(bf) ak (bM.range (As.gb O.g7))<|?_;have z:=O.p5.p5.p5.p5;refine(cE) WV (Dk (s:=s2) (E:=E2) J z.e4 (As.gr z.g5) (As.gr z.g4) T.1 Yw Uh gJ y U) ?_;rintro _ jP ⟨E3,Z3,rfl,yv,Yz,YA,mr⟩;have I:=St.lv z mr yv;have W:=uM.trans yv z.size;have eV:=I.fr (Yz);have gX:=eV.fr (YA);have dT:=gX.p7.drop;have iq:=dT.p6.drop;refine bJ ?_;have tg:=iq.bA;refine WC.dS (m:=5) iq mixed<|(gp) pz St.g2<|(fe) ak St.g7<|(cx)<|?_;rintro kF ⟨uN,iR⟩ _;refine WL.go rfl (OX.del cB fE (As.gm iR.g4) rfl rfl fun pH sj sk=>?_);have X:=iR.p4.hJ sj sk;refine nx ?_;refine EX.qz (.inr rfl) rfl<|?_;exact⟨_,_,rfl,W,(As.gr X.g2),(As.gr X.g1),X.p5.p1.p5.p5.k4⟩
 rw [if_neg (by rw [V];simp)] at y;simp only [Option.some.injEq] at y;subst y;have W:=uM;refine bJ ?_;have tg:=O.bA;refine WC.dS (m:=5) O mixed<|(gp) pz St.g2<|(fe) ak St.g7<|(cx)<|?_;rintro jP ⟨uN,z⟩ _;refine WL.go rfl (OX.del cB fE (As.gm z.g4) rfl rfl fun kF Nb Nc=>?_);have I:=z.p4.hJ Nb Nc;refine nx ?_;refine EX.qz (.inr rfl) rfl<|?_;exact⟨_,_,rfl,W,(As.gr I.g2),(As.gr I.g1),I.p5.p1.p5.p5.k4⟩
theorem Nd(c:ao aa) (d:x.ab.length≤1000000):∀f,Ue aa x D xb bb f:=by
 intro f
 induction f using Nat.strongRecOn with
 | _ f e=>
  intro w M Z s E k s' h hi hr a hk b i
  cases f with
  | zero=>simp [hY] at b
  | succ f=>exact FW c h hi hr a (by rw [a.aA];exact d) hk (fun g j=>e g (by omega)) b i
theorem yx(a:s.size≤1000) (w:World):Calls prog 193 #[.string s] w fun e w'=>∃(v:Int) (ok:Bool) (ev:Value),e=.returned (.tuple #[.int .i64 v,ev])∧(-9223372036854775808≤v∧v≤9223372036854775807)∧((ok=true∧ev=.nilIface)∨(ok=false∧∃t y,ev=.iface t y))∧(ok=false→ev=.iface 277 (.int .i64 2)∨ev=.iface 277 (.int .i64 1))∧aK [] w w':=by
 refine(Any.internal_strconv_Atoi_all {laysC172 with} s (by omega) w).mono fun e w' ⟨he,hw⟩=>?_
 have hc:aK [] w w':=by
  rcases hw with rfl | ⟨t,rfl⟩
  ·
   exact aK.refl _ _
  exact uG _ _ _
 cases h:Lib.atoiAll s.data.toList
 ·
  rename_i v
  rw [h] at he;exact⟨v,true,.nilIface,he,Lib.atoiAll_bounds h,.inl ⟨rfl,rfl⟩,(fun e=>by cases e),hc⟩
 ·
  rw [h] at he;exact⟨0,false,_,he,by decide,.inr ⟨rfl,_,_,rfl⟩,fun _=>.inl rfl,hc⟩
 rw [h] at he;exact⟨Lib.atoiSat s.data.toList,false,_,he,Lib.atoiSat_bounds _,.inr ⟨rfl,_,_,rfl⟩,fun _=>.inr rfl,hc⟩
set_option maxHeartbeats 400000
theorem sr :CR prog 151 #[.int .i64 n] w (.bool (decide (30≤n) && decide (n≤32))):=by
 refine enter func151 rfl ntmps151 rfl<|?_;have aR:=St.s0 w;refine fY ?_;refine WC.jf (t:=2) (v:=.bool (decide (30≤n) && decide (n≤32))) aR ?_<|?_
 ·
  refine(cG) (fun g5=>?_) (fun g5=>?_)
  ·
   exact(e8) (by simp only [g5];first | rfl | simp) (aR)
  exact(e8) (by simp only [g5];first | rfl | simp) (aR)
 intro w1 st1;refine(bF) ?_;exact⟨rfl,(St.cg st1)⟩
theorem yy :CR prog 152 #[.int .i64 n] w (.bool (decide (1≤n) && decide (n≤22))):=by
 refine enter func152 rfl ntmps152 rfl<|?_;have aR:=St.s0 w;refine fY ?_;refine WC.jf (t:=2) (v:=.bool (decide (1≤n) && decide (n≤22))) aR ?_<|?_
 ·
  refine(cG) (fun g5=>?_) (fun g5=>?_)
  ·
   exact(e8) (by simp only [g5];first | rfl | simp) (aR)
  exact(e8) (by simp only [g5];first | rfl | simp) (aR)
 intro w1 st1;refine(bF) ?_;exact⟨rfl,(St.cg st1)⟩
theorem cR :CR prog 58 #[k.val] w (.bool (aw k)):=by
 refine enter func58 rfl ntmps58 rfl<|?_;have aR:=St.s0 w;refine(dy) aR fun b1 w1 a b st1=>?_;refine cD ?_;refine WC.jf (t:=2) (v:=.bool (aw k)) st1 ?_<|?_
 ·
  refine(bq) aL st1.b0<|(cG) (fun g6=>?_) (fun g6=>?_)
  ·
   exact(e8) (by unfold aw;simp only [g6];first | rfl | simp) (st1)
  refine(bq) aL st1.b0<|(cG) (fun g11=>?_) (fun g11=>?_)
  ·
   exact(e8) (by unfold aw;simp only [g6,g11];first | rfl | simp) (st1)
  refine(bq) aL st1.b0<|?_;exact(e8) (by unfold aw;simp only [g6,g11];first | rfl | simp) (st1)
 intro w2 st2;refine(bF) ?_;exact⟨rfl,(St.cg st2)⟩
theorem lz :CR prog 114 #[k.val] w (.bool (decide (k.kind=31) || decide (k.kind=32))):=by
 refine enter func114 rfl ntmps114 rfl<|?_;have aR:=St.s0 w;refine(dy) aR fun b1 w1 a b st1=>?_;refine cD ?_;refine WC.jf (t:=2) (v:=.bool (decide (k.kind=31) || decide (k.kind=32))) st1 ?_<|?_
 ·
  refine(bq) aL st1.b0<|(cG) (fun g6=>?_) (fun g6=>?_)
  ·
   exact(e8) (by simp only [g6];first | rfl | simp) (st1)
  refine(bq) aL st1.b0<|?_;exact(e8) (by simp only [g6];first | rfl | simp) (st1)
 intro w2 st2;refine(bF) ?_;exact⟨rfl,(St.cg st2)⟩
theorem jr(hk:eP k):CR prog 120 #[k.val] w (.bool (decide (k.kind=32))):=by
 refine enter func120 rfl ntmps120 rfl<|?_;have aR:=St.s0 w;refine(dy) aR fun b1 w1 a b st1=>?_;refine cD ?_;refine WC.jf (t:=2) (v:=.bool (decide (k.kind=32))) st1 ?_<|?_
 ·
  refine(bq) aL st1.b0<|(cG) (fun g6=>?_) (fun g6=>?_)
  ·
   exact(e8) (by simp only [g6];first | done | rfl | simp) (st1)
  refine(bq) aL st1.b0<|(cE) Q4 (yy (n:=k.kind)) ?_;rintro _ w2 ⟨rfl,s2⟩;rw [show(decide (1≤k.kind) && decide (k.kind≤22))=false by(rcases hk with h | h <;> simp <;> omega)];have st2:=st1.step s2;exact(e8) (by simp only [g6];first | done | rfl | simp) (st2)
 intro w2 st2;refine(bF) ?_;exact⟨rfl,(St.cg st2)⟩
theorem js{n:Nat}(hk:30≤k.kind∧k.kind≤32) (ht:k.text=itoa n) (hn:n≤99):CR prog 116 #[k.val] w (.int .i64 (n:Int)):=by
 obtain⟨kd,j⟩:=k;simp only at hk ht;subst ht;refine enter func116 rfl ntmps116 rfl<|?_;have aR:=St.s0 w;refine(dy) aR fun b1 w1 l o st1=>?_;refine(bq) aL st1.b0<|(cE) Ju (sr (n:=kd)) ?_;rintro _ w2 ⟨rfl,s2⟩;rw [show(decide (30≤kd) && decide (kd≤32))=true by(simp;omega)];have st2:=st1.step s2;refine cq ?_;refine WC.fA rfl<|(bq) fq st2.b0<|(fw) (An hn w2) st2 fun w3 q b=>?_;refine pU ?_;refine WC.dz (t:=31) (v:=.bool false) b ?_<|?_
 ·
  have u:=b.bA;refine WC.cH (m:=15) (E:=bN [(12,fun v _=>v=.string (itoa n))]) b (aU (⟨fun _ _ _ _ _ _ _ h=>h,trivial⟩)) mixed (by kernel_rfl)<|nx ?_;refine DP .r (fun _ g=>PV.Kv vz rfl)<|nx ?_;refine DW.eL (t:=17) rfl (fun g17=>?_) (fun g17=>?_)
  ·
   refine(cx) ?_;rintro w4 ⟨c,a⟩ _;exact(bY) (tG g17) (a)
  refine cD ?_;refine DW.eL (t:=21) rfl (fun g21=>?_) (fun g21=>?_)
  ·
   refine(cx) ?_;rintro w4 ⟨c,a⟩ _;exact(bY) (tG (aj g17 g21)) (a)
  refine cD ?_;refine DW.eL (t:=25) rfl (fun d=>?_) (fun d=>?_)
  ·
   refine(cx) ?_;rintro w4 ⟨c,a⟩ _;exact(bY) (tG (aj g17<|aj g21 d)) (a)
  refine nx ?_;refine DW.c0 (fun i g y=>gF (n:=(n:Int)) (by omega) (by omega) i)<|(gp) fq St.g0<|(cx)<|?_;rintro w4 ⟨c,a⟩ ⟨_,_⟩;exact(bY) (tG (aj g17<|aj g21 d)) (a)
 intro w4 a;refine(aT) (fun e=>?_) fun e=>?_
 ·
  exact absurd e (by simp)
 ·
  refine(bF) ?_;exact⟨rfl,(St.cg a)⟩
 -- z B C.T
theorem fH{n:Nat}(hk:30≤k.kind∧k.kind≤32) (ht:k.text=itoa n) (hn:n≤99):CR prog 113 #[k.val] w (.bool true):=by
 refine enter func113 rfl ntmps113 rfl<|?_;have aR:=St.s0 w;refine(dy) aR fun b1 w1 b c st1=>?_;refine(bq) aL st1.b0<|(cE) Ju (sr (n:=k.kind)) ?_;rintro _ w2 ⟨rfl,s2⟩;rw [show(decide (30≤k.kind) && decide (k.kind≤32))=true by(simp;omega)];have st2:=st1.step s2;refine bJ ?_;refine WC.tH rfl<|(bf) ak st2.b0<|(fw) (js (k:=k) hk ht hn) st2 fun w3 d a=>?_;refine(bF) ?_;exact⟨by simp,(St.cg a)⟩
theorem lR{a:Option Addr}{r c:Nat}(hr:eE A w a r c aa):CR prog 115 #[.slice a r c,.int .i64 n] w ((aH aa n).val):=by
 have hle:=hr.le;have hlen:=hr.len;refine enter func115 rfl ntmps115 rfl<|?_;have aR:=St.s0 w;refine(fy) aR fun b4 w1 o q st1=>?_;refine cD ?_;refine WC.dz (t:=17) (v:=.bool (decide (n<0) || (decide ((r:Int)≤n) || decide (99<n)))) st1 ?_<|?_
 ·
  refine(cG) (fun g8=>?_) (fun g8=>?_)
  ·
   exact(bY) (by simp only [g8];first | rfl | simp) (st1)
  refine(cG) (fun g14=>?_) (fun g14=>?_)
  ·
   exact(bY) (by simp only [g8,g14];first | rfl | simp) (st1)
  exact(bY) (by simp only [g8,g14];first | rfl | simp) (st1)
 intro w2 st2;refine(aT) (fun g17=>?_) fun g17=>?_
 ·
  have hk:aH aa n=bO:=by unfold aH;rw [if_pos (by simp at g17;omega)]
  refine(dw) fW st2 fun w3 u y b=>?_;refine(jt) ak b.b0<|?_;rw [hk];exact⟨rfl,(St.cg b)⟩
 simp at g17
 obtain⟨i,rfl⟩:∃i:Nat,n=i:=⟨n.toNat,by omega⟩
 have hi:i<aa.length:=by omega
 have hk:aH aa i=⟨if ax aa i then 32 else 31,itoa i⟩:=by unfold aH;rw [if_neg (by omega)];rfl
 have g:=bE hi;refine pU ?_;obtain⟨z,B,C,h,_,⟨q1,F,G,rfl,_⟩,l,_⟩:=(hr.ext (St.cg st2)).at (ae hi);refine cq ?_;refine WP .r (PV.dO gT h rfl rfl (by omega))<|nx ?_;refine WP .r (PV.ld1 (j:=0) dm l rfl rfl)<|(aT) (fun g23=>?_) fun g23=>?_
 ·
  have e:aH aa i=⟨32,itoa i⟩:=by rw [hk,g,g23];rfl
  refine(fw) (gF (n:=(i:Int)) (by omega) (by omega) w2) st2 fun w3 m b=>?_;refine WP .r (PV.br (us:=_) vy rfl rfl rfl)<|(dw) fW b fun w4 H I d=>?_;refine(jt) ak d.b0<|?_;rw [e];exact⟨rfl,(St.cg d)⟩
 have e:aH aa i=⟨31,itoa i⟩:=by rw [hk,g,g23];rfl
 refine(fw) (gF (n:=(i:Int)) (by omega) (by omega) w2) st2 fun w3 m b=>?_;refine WP .r (PV.br (us:=_) vy rfl rfl rfl)<|(dw) fW b fun w4 J K d=>?_;refine(jt) ak d.b0<|?_;rw [e];exact⟨rfl,(St.cg d)⟩
set_option maxHeartbeats 400000
set_option maxRecDepth 1000000 in
theorem jb(b:s.size≤1000):CR prog 343 #[.string s] w (.string s):=by
 refine enter func343 rfl ntmps343 rfl<|?_;have aR:=St.s0 w;refine aQ ?_;refine(aT) (fun g6=>?_) fun g6=>?_
 ·
  refine(bF) ?_;exact⟨by rw [show s=⟨#[]⟩ from ByteArray.ext (Array.eq_empty_of_size_eq_zero (show s.size=0 by have:=of_decide_eq_true g6;omega))],(St.cg aR)⟩
 have h0:s.size≠0:=by have:=of_decide_eq_false g6;omega
 obtain⟨i,hi,a⟩:=Option.map_eq_some_iff.1 (show(prog.info? 5).map (fun i=>(i.zero,i.size,i.bytes))=some (some (.int .u8 0),1,1) by kernel_rfl);simp only [Prod.mk.injEq] at a;obtain⟨c,h1,hb⟩:=a;obtain⟨u1,d,e,k1,k2,k3,hc⟩:=vd (S:=9) (it:=3) (U9:=3) (Va:=9) underlying211 hi c h1 hb underlying545 h0 b w;refine fY ?_;refine WL.go rfl (OX.Pf rfl rfl rfl k1 ?_);refine eX ?_;refine WL.go rfl (OX.Pg rfl rfl rfl k2 ?_);refine df ?_;refine WP .r (PV.Dv Jm 0 (show some (⟨w.heap.size,0,none⟩:Addr)=some ⟨w.heap.size,0,none⟩ from rfl) rfl rfl rfl (by omega))<|bJ ?_;refine WL.go rfl (OX.U8 rfl rfl rfl k3 ?_);refine(bF) ?_;exact⟨rfl,hc⟩
theorem tj(d:s.size≤1000) (g:w.cell? ⟨2,0,none⟩=some .nilIface):Calls prog 245 #[.string f,.string s] w fun e w'=>∃b,e=.returned (.pointer (some ⟨b,0,none⟩))∧aK [] w w':=by
 have hr:w.rangeAt 2 0 [.nilIface]:=fun j v a=>by
  cases j with
  | zero=>simp at a;subst a;exact g
  | succ j=>simp at a
 refine enter func245 rfl ntmps245 rfl<|?_;have aR:=St.s0 w;refine fY ?_;have i:=aR.bA;refine WC.cH (m:=4) (E:=bN [(2,fun v _=>v=.string s)]) aR (aU (⟨fun _ _ _ _ _ _ _ h=>h,trivial⟩)) mixed (by kernel_rfl)<|bJ ?_;refine DW.c0 (fun l c o=>jb d)<|?_;refine DP .r (fun _ c=>PV.ki vA (aW hr (St.cg c.2) (by simp)) rfl rfl)<|(cx)<|?_;rintro w1 ⟨q,st1⟩ ⟨_,_⟩;refine WP .r (PV.br (us:=[.string f,.string s,.nilIface]) BX rfl rfl rfl)<|(dy) st1 fun u w2 y z st2=>?_;refine(bF) ?_;exact⟨_,rfl,(St.cg st2)⟩
theorem tk(d:s.size≤1000) (g:w.cell? ⟨2,0,none⟩=some (.iface t p)):Calls prog 245 #[.string f,.string s] w fun e w'=>∃b,e=.returned (.pointer (some ⟨b,0,none⟩))∧aK [] w w':=by
 have hr:w.rangeAt 2 0 [(.iface t p)]:=fun j v a=>by
  cases j with
  | zero=>simp at a;subst a;exact g
  | succ j=>simp at a
 refine enter func245 rfl ntmps245 rfl<|?_;have aR:=St.s0 w;refine fY ?_;have i:=aR.bA;refine WC.cH (m:=4) (E:=bN [(2,fun v _=>v=.string s)]) aR (aU (⟨fun _ _ _ _ _ _ _ h=>h,trivial⟩)) mixed (by kernel_rfl)<|bJ ?_;refine DW.c0 (fun l c o=>jb d)<|?_;refine DP .r (fun _ c=>PV.ki vA (aW hr (St.cg c.2) (by simp)) rfl rfl)<|(cx)<|?_;rintro w1 ⟨q,st1⟩ ⟨_,_⟩;refine WP .r (PV.br (us:=[.string f,.string s,(.iface t p)]) BX rfl rfl rfl)<|(dy) st1 fun u w2 y z st2=>?_;refine(bF) ?_;exact⟨_,rfl,(St.cg st2)⟩
theorem YB:prog.globalNamed "strconv.ErrSyntax" = some 2:=by kernel_rfl
theorem vV(ht:jM prog A w) (a:s.size≤1000):Calls prog 245 #[.string f,.string s] w fun e w'=>∃b,e=.returned (.pointer (some ⟨b,0,none⟩))∧aK [] w w':=by
 obtain⟨ev,c,d⟩:=ht.err (.inl rfl) YB
 rcases d with rfl | ⟨t,p,rfl⟩
 ·
  exact tj a c
 exact tk a c
theorem tm(d:s.size≤1000) (g:w.cell? ⟨3,0,none⟩=some .nilIface):Calls prog 246 #[.string f,.string s] w fun e w'=>∃b,e=.returned (.pointer (some ⟨b,0,none⟩))∧aK [] w w':=by
 have hr:w.rangeAt 3 0 [.nilIface]:=fun j v a=>by
  cases j with
  | zero=>simp at a;subst a;exact g
  | succ j=>simp at a
 refine enter func246 rfl ntmps246 rfl<|?_;have aR:=St.s0 w;refine fY ?_;have i:=aR.bA;refine WC.cH (m:=4) (E:=bN [(2,fun v _=>v=.string s)]) aR (aU (⟨fun _ _ _ _ _ _ _ h=>h,trivial⟩)) mixed (by kernel_rfl)<|bJ ?_;refine DW.c0 (fun l c o=>jb d)<|?_;refine DP .r (fun _ c=>PV.ki vA (aW hr (St.cg c.2) (by simp)) rfl rfl)<|(cx)<|?_;rintro w1 ⟨q,st1⟩ ⟨_,_⟩;refine WP .r (PV.br (us:=[.string f,.string s,.nilIface]) BX rfl rfl rfl)<|(dy) st1 fun u w2 y z st2=>?_;refine(bF) ?_;exact⟨_,rfl,(St.cg st2)⟩
theorem tn(d:s.size≤1000) (g:w.cell? ⟨3,0,none⟩=some (.iface t p)):Calls prog 246 #[.string f,.string s] w fun e w'=>∃b,e=.returned (.pointer (some ⟨b,0,none⟩))∧aK [] w w':=by
 have hr:w.rangeAt 3 0 [(.iface t p)]:=fun j v a=>by
  cases j with
  | zero=>simp at a;subst a;exact g
  | succ j=>simp at a
 refine enter func246 rfl ntmps246 rfl<|?_;have aR:=St.s0 w;refine fY ?_;have i:=aR.bA;refine WC.cH (m:=4) (E:=bN [(2,fun v _=>v=.string s)]) aR (aU (⟨fun _ _ _ _ _ _ _ h=>h,trivial⟩)) mixed (by kernel_rfl)<|bJ ?_;refine DW.c0 (fun l c o=>jb d)<|?_;refine DP .r (fun _ c=>PV.ki vA (aW hr (St.cg c.2) (by simp)) rfl rfl)<|(cx)<|?_;rintro w1 ⟨q,st1⟩ ⟨_,_⟩;refine WP .r (PV.br (us:=[.string f,.string s,(.iface t p)]) BX rfl rfl rfl)<|(dy) st1 fun u w2 y z st2=>?_;refine(bF) ?_;exact⟨_,rfl,(St.cg st2)⟩
theorem YC:prog.globalNamed "strconv.ErrRange" = some 3:=by kernel_rfl
theorem vW(ht:jM prog A w) (a:s.size≤1000):Calls prog 246 #[.string f,.string s] w fun e w'=>∃b,e=.returned (.pointer (some ⟨b,0,none⟩))∧aK [] w w':=by
 obtain⟨ev,c,d⟩:=ht.err (.inr rfl) YC
 rcases d with rfl | ⟨t,p,rfl⟩
 ·
  exact tm a c
 exact tn a c
theorem yz(ht:jM prog A w) (a:s.size≤1000):Calls prog 194 #[.string f,.string s,.int .i64 0,.int .i64 0,.iface 277 (.int .i64 2)] w fun e w'=>∃b,e=.returned (.iface 280 (.pointer (some ⟨b,0,none⟩)))∧aK [] w w':=by
 refine enter func194 rfl ntmps194 rfl<|?_;have aR:=St.s0 w;refine aQ ?_;refine bJ ?_;refine WP .r (PV.Ed underlying277 (by intro ms h;cases h) rfl)<|WP .r (PV.Kx underlying184 (by kernel_rfl) underlying277 rfl rfl)<|(aT) (fun g12=>?_) fun g12=>?_
 ·
  refine(cE) Rq (vV (ht.ext (St.cg aR)) a) ?_;rintro _ w1 ⟨b,rfl,s1⟩;have st1:=aR.step s1;refine WP .r (PV.Ed underlying280 (by intro ms h;cases h) rfl)<|(bF) ?_;exact⟨_,rfl,(St.cg st1)⟩
 ·
  exact et g12
 -- g i j c.0 c.1 d.2 d.3 l
theorem yA(ht:jM prog A w) (a:s.size≤1000):Calls prog 194 #[.string f,.string s,.int .i64 0,.int .i64 0,.iface 277 (.int .i64 1)] w fun e w'=>∃b,e=.returned (.iface 280 (.pointer (some ⟨b,0,none⟩)))∧aK [] w w':=by
 refine enter func194 rfl ntmps194 rfl<|?_;have aR:=St.s0 w;refine aQ ?_;refine bJ ?_;refine WP .r (PV.Ed underlying277 (by intro ms h;cases h) rfl)<|WP .r (PV.Kx underlying184 (by kernel_rfl) underlying277 rfl rfl)<|(aT) (fun g12=>?_) fun g12=>?_
 ·
  exact et g12
 ·
  refine bJ ?_;refine WP .r (PV.Ed underlying277 (by intro ms h;cases h) rfl)<|WP .r (PV.Kx underlying184 (by kernel_rfl) underlying277 rfl rfl)<|(aT) (fun g19=>?_) fun g19=>?_
  ·
   refine(cE) Rr (vW (ht.ext (St.cg aR)) a) ?_;rintro _ w1 ⟨b,rfl,s1⟩;have st1:=aR.step s1;refine WP .r (PV.Ed underlying280 (by intro ms h;cases h) rfl)<|(bF) ?_;exact⟨_,rfl,(St.cg st1)⟩
  exact et g19
 -- d g c.2 c.3 i
theorem yB{ev:Value}(ht:jM prog A w) (a:s.size≤1000) (he:ev=.iface 277 (.int .i64 2)∨ev=.iface 277 (.int .i64 1)):Calls prog 194 #[.string f,.string s,.int .i64 0,.int .i64 0,ev] w fun e w'=>∃b,e=.returned (.iface 280 (.pointer (some ⟨b,0,none⟩)))∧aK [] w w':=by
 rcases he with rfl | rfl
 ·
  exact yz ht a
 exact yA ht a
theorem FX(ht:jM prog A w) (a:s.size≤1000):Calls prog 153 #[.string s] w fun e w'=>∃(v:Int) (ok:Bool) (ev:Value),e=.returned (.tuple #[.int .i64 v,ev])∧(-9223372036854775808≤v∧v≤9223372036854775807)∧((ok=true∧ev=.nilIface)∨(ok=false∧∃t y,ev=.iface t y))∧aK [] w w':=by
 refine enter func153 rfl ntmps153 rfl<|?_;have aR:=St.s0 w;refine(cE) Rk (yx a w) ?_;rintro _ w1 ⟨v,ok,ev,rfl,c,d,g,s1⟩;have st1:=aR.step s1;refine lV ?_;refine WP .r (PV.Pe vz rfl d)<|(aT) (fun g12=>?_) fun g12=>?_
 ·
  refine(cE) Rl (yB (ht.ext (St.cg st1)) a (g (by simpa using g12))) ?_;rintro _ w2 ⟨b,rfl,s2⟩;have st2:=st1.step s2;refine(tV) ?_;exact⟨v,false,_,rfl,c,.inr ⟨rfl,_,_,rfl⟩,(St.cg st2)⟩
 refine(tV) ?_;exact⟨v,true,.nilIface,rfl,c,.inl ⟨rfl,rfl⟩,(St.cg st1)⟩
end Go.Rc

