/- Walks over the program, part WLibE. Conditions: as each theorem says. -/
import Derived.Test.YtfamnpoplgkkcaaGreatDoorOFacts
import Derived.Test.YtfamnpoplgkkcaaGreatDoorOWK
import Derived.Test.YtfamnpoplgkkcaaGreatDoorOBe
import Derived.Test.YtfamnpoplgkkcaaGreatDoorOWB
import Derived.Test.YtfamnpoplgkkcaaGreatDoorOBd
import Derived.Test.YtfamnpoplgkkcaaGreatDoorShelf
import Derived.Test.YtfamnpoplgkkcaaGreatDoorOWD
import Derived.Test.YtfamnpoplgkkcaaGreatDoorOBf
import Derived.Test.YtfamnpoplgkkcaaGreatDoorOBb
set_option linter.all false
namespace Go.Rc
open Go Go.Proofs Go.Proofs.Tryz
variable {aa:List aG}{x:cy}{D:SD}{xb bb:Nat}{w:World}{M Z A:Nat→Prop}{s f:ByteArray}{E:EA}{k:Key}{s':ES}{n:Int}{t:TypeId}{p:Value}
set_option maxHeartbeats 400000
def UpC(aa:List aG) (x:cy) (D:SD) (xb bb f:Nat):Prop:=∀(w:World) (M Z:Nat→Prop) (s:ES) (E:EA) (k:Key) (s':ES),St w M Z w [As.blk xb 153 (E.cells D.s bb s),As.jH prog 137 aa x D,As.map Key.val bb s.busy,As.os RR.key 41 2 E.a3 E.n3 E.c3 s.bf]→Rd RR.aD 4 Z w E.a1 E.n1 E.c1 s.b.ab→Rd RR.dV 8 Z w E.a2 E.n2 E.c2 s.b.ah→Good aa x.ab s→eG aa k→kU aa (valOf aa x.ab) f s k=some s'→s'.bf.length≤1000000→
 Calls prog 102 #[.pointer (some ⟨xb,0,none⟩),k.val] w fun e w'=>∃(E':EA) (Z':Nat→Prop),e=.returned (.tuple #[])∧bH w.heap.size Z Z'∧Rd RR.aD 4 Z' w' E'.a1 E'.n1 E'.c1 s'.b.ab∧Rd RR.dV 8 Z' w' E'.a2 E'.n2 E'.c2 s'.b.ah∧St w M Z' w' [As.blk xb 153 (E'.cells D.s bb s'),As.jH prog 137 aa x D,As.map Key.val bb s'.busy,As.os RR.key 41 2 E'.a3 E'.n3 E'.c3 s'.bf]
set_option maxHeartbeats 1600000 in
theorem Cs{s:ES}{f:Nat}{r:Bool}(hR:aq aa) (gk:St w M Z w [As.blk xb 153 (E.cells D.s bb s),As.jH prog 137 aa x D,As.map Key.val bb s.busy,As.os RR.key 41 2 E.a3 E.n3 E.c3 s.bf]) (hi:Rd RR.aD 4 Z w E.a1 E.n1 E.c1 s.b.ab) (hr:Rd RR.dV 8 Z w E.a2 E.n2 E.c2 s.b.ah) (Fs:Good aa x.ab s) (H0:s.b.ab.length≤1000000) (El:∀g,g<f→UpC aa x D xb bb g) (KF:cO aa (valOf aa x.ab) f s k 0=some (s',r)) (zI:s'.bf.length≤1000000):Calls prog 146 #[.pointer (some ⟨xb,0,none⟩),k.val] w fun e w'=>∃(u:EA) (Z':Nat→Prop),e=.returned (.bool r)∧bH w.heap.size Z Z'∧Rd RR.aD 4 Z' w' u.a1 u.n1 u.c1 s'.b.ab∧Rd RR.dV 8 Z' w' u.a2 u.n2 u.c2 s'.b.ah∧St w M Z' w' [As.blk xb 153 (u.cells D.s bb s'),As.jH prog 137 aa x D,As.map Key.val bb s'.busy,As.os RR.key 41 2 u.a3 u.n3 u.c3 s'.bf]:=by
 refine enter func146 rfl ntmps146 rfl<|?_;have aO:=gk;have st1:=aO.fr hi;have st2:=st1.fr hr;refine(dq) st2 fun b3 w1 HO wE iT=>?_;refine ju ?_;refine WC.hh (σ:=Nat × ES × EA × Nat × (Nat→Prop)) (dj:=fun(y,s1,a,ix,P)=>[(0,.pointer (some ⟨xb,0,none⟩)),(3,.pointer (some ⟨b3,0,none⟩)),(5,.int .i64 (ix:Int))]) (F:=fun(y,s1,a,ix,P)=>[As.blk xb 153 (a.cells D.s bb s1),As.map Key.val bb s1.busy,As.os RR.key 41 2 a.a3 a.n3 a.c3 s1.bf,As.ro RR.aD 4 a.a1 a.n1 a.c1 s1.b.ab,As.ro RR.dV 8 a.a2 a.n2 a.c2 s1.b.ah]) (I:=fun(y,s1,a,ix,P)=>(cO aa (valOf aa x.ab) y s1 k ix=some (s',r))∧(Good aa x.ab s1)∧(y≤f)∧(bH w.heap.size Z P)∧True) (μ:=fun(y,s1,a,ix,P)=>y) (Zf:=fun(y,s1,a,ix,P)=>P) (f,s,E,0,Z) (iT.p1.p2.p6.p6.p5) Sub.t (⟨KF,Fs,Nat.le_refl _,bH.refl _ _,trivial⟩)<|?_;rintro⟨y,s1,a,ix,P⟩ w2 C ⟨d,z,hfu,S,_⟩;simp only [CA,NA] at C d z hfu S ⊢
 obtain⟨T,rfl⟩:∃g,y=g+1:=by cases y with | zero=>simp [cO] at d | succ g=>exact⟨g,rfl⟩
 unfold cO at d
 have hl4:=z.len
 have ae2:s1.b.ab.length≤1000000:=by rw [z.aD,← Fs.aD];exact H0
 refine(aZ) x5 C.b0<|(aR) (fun g17=>?_) fun g17=>?_
 ·
  simp at g17
  rw [if_neg (by simp [g17])] at d;refine cj ?_;have Dz:=C.bL;have KG:=C.jG;have KH:=C.size;refine WC.oV (m:=11) [9] (E:=cA [(6,fun v _=>∃f1 f2 f3,v=.tuple #[.agg ((aC s1.b.ah k).row f1 f2 f3).toArray,.bool (az s1.b.ah k).isSome]),(10,PB w2.heap.size 47 [.int .i64 0,.string ⟨#[]⟩,.string ⟨#[]⟩,.slice none 0 0,.int .i64 0,.int .i64 0,.int .i64 0,.bool false])]) C (bj (⟨fun _ _ _ _ _ _ _ h=>h,⟨fun _ _ _ _ _ _ c h=>PB.st Dz c h,trivial⟩⟩)) mixed (by kernel_rfl) rfl ?_;refine cj ?_;refine DP .r (fun _ i=>PV.ld1 (j:=3) dt (bQ.range (As.gb i.2.g0)) rfl rfl)<|(gI) ao St.g5<|?_;refine DW.e rfl rfl rfl rfl rfl (fun wx i hF=>OX.call pr rfl rfl ((dY (k:=k) (As.gr i.2.g4)).mono ?_))<|?_
  ·
   rintro _ wy ⟨f1,f2,f3,rfl,l⟩;exact⟨_,rfl,⟨Nat.le_trans i.1 l.size,i.2.step l⟩,l.p0,_,rfl,⟨f1,f2,f3,rfl⟩⟩
  rintro _ wz _ ⟨f1,f2,f3,rfl⟩;refine bY ?_;refine DW.e rfl rfl rfl rfl rfl (fun wx i hF=>OX.alloc nF rfl fun b wy G hb=>⟨⟨Nat.le_trans i.1 G.ext.size,i.2.step G.ext⟩,G.ext.p0,_,rfl,_,rfl,Nat.le_trans i.1 G.ge,hb⟩)<|?_;rintro _ wz _ ⟨b6,rfl,_,_⟩;refine(cP) ?_;rintro w3 ⟨px,iY⟩ ⟨zD,⟨_,_⟩⟩;have iC:=iY.tp zD Dz KG KH;refine(cF) fI iC fun w4 jO jZ gW=>?_;refine nx ?_;refine WL.nil (EX.np ?_);refine bY ?_;refine WC.dU (t:=33) (v:=.bool (!(az s1.b.ah k).isSome || (aC s1.b.ah k).bu)) gW ?_<|?_
  ·
   refine(dc) (fun UF=>?_) (fun UF=>?_)
   ·
    exact(cw) (by simp only [UF];first | rfl | simp) (gW)
   refine(aZ) dG gW.b0<|?_;exact(cw) (by simp only [UF];first | rfl | simp) (gW)
  intro w5 U;refine(aR) (fun g33=>?_) fun g33=>?_
  ·
   rw [if_pos g33] at d;simp only [Option.some.injEq,Prod.mk.injEq] at d;obtain⟨o,q⟩:=d;subst o;subst q;refine(bs) ?_;exact⟨a,_,rfl,S,(As.gr U.g4),(As.gr U.g5),U.p3.p3.p7.p4.k4⟩
  rw [if_neg (by rw [g33];simp)] at d;refine cj ?_;have PA:=U.bL;refine WC.dS (m:=7) U mixed<|(il) aN St.g0<|cj ?_;refine DP .r (fun _ i=>PV.ld1 (j:=1) aN (bQ.range (As.gb i.2.g1)) rfl rfl)<|(cP)<|?_;rintro w6 ⟨qD,V⟩ _;refine(aR) (fun W=>?_) fun W=>?_
  ·
   simp at W
   rw [if_pos W] at d;simp only [Option.some.injEq,Prod.mk.injEq] at d;obtain⟨o,q⟩:=d;subst o;subst q;refine(bs) ?_;exact⟨a,_,rfl,S,(As.gr V.g4),(As.gr V.g5),V.p3.p3.p7.p4.k4⟩
  simp at W
  rw [if_neg W] at d;refine bY ?_;have Pr:=V.bL;refine WC.dS (m:=11) V mixed<|cj ?_;refine DP .r (fun _ i=>PV.ld1 (j:=3) dt (bQ.range (As.gb i.2.g1)) rfl rfl)<|cj ?_;refine DP .r (fun _ i=>PV.ld1 (j:=1) aN (bQ.range (As.gb i.2.g1)) rfl rfl)<|(gI) ao St.g6<|(cP)<|?_;rintro w7 ⟨l8,eD⟩ _;have dh:=eD;refine(bX) Pd (vB dh.e0 (As.gr dh.g5) (by omega)) ?_;rintro _ w8 ⟨q1,q2,q3,Z2,rfl,vC,kA⟩;have cW:=St.lv dh kA vC;have Lo:=kh s1.b.ah s1.b.ad k;have hgg:=St.bM kA;have oj:=dh.size;have ae5:=S.trans vC oj;have di:=cW.ba (by omega);have mx:=ae5.trans (bH.dA (F:=fun x=>x∈aI q1) hgg) oj;refine kI ?_;refine WP .r (PV.ld1 (j:=3) dt di.b2 rfl rfl)<|nx ?_;have X:=di;refine(bX) Pc (qz X.e0 (As.gr X.g6) (As.gr X.g0) (yN z (by omega))) ?_;rintro _ w9 ⟨p1,p2,p3,Z3,rfl,qF,nI⟩;have R:=St.lv X nI qF;have Y:=mx.trans qF X.size;have GW:=((As.gs R.g0)).len;have hca:=tM z (group:=(aB s1.b.ah s1.b.ad k)) (by omega);refine(aR) (fun g64=>?_) fun g64=>?_
  ·
   simp at g64
   have LN:(bT s1.b.ah (aB s1.b.ah s1.b.ad k))[ix]?=none:=List.getElem?_eq_none (by omega);rw [LN] at d;simp only [] at d;simp only [Option.some.injEq,Prod.mk.injEq] at d;obtain⟨o,q⟩:=d;subst o;subst q;refine(gX) aL R.b3<|nx ?_;have H:=R;refine(bX) GG (l9 H.e0 (As.gr H.g6) (As.gr H.g7) (As.gr H.g1) (by omega) (by omega)) ?_;rintro _ iN ⟨m1,m2,m3,m4,m5,m6,Z4,rfl,Ct,qG⟩;have L:=St.lv H qG Ct;have qH:=Y.trans Ct H.size;have Ft:=St.bM qG;have Fu:=St.bM qG.p1;have rZ:=H.size;refine bK ?_;refine WL.go rfl (OX.Qs dR (As.gb L.g5) rfl rfl rfl rfl rfl fun iV qV mi=>?_);have N:=L.p5.Bj qV mi;refine nx ?_;have J:=N.rp (B:=As.blk xb 153 (EA.cells ⟨m1,m4,a.a3,m2,m3,m5,m6,a.n3,a.c3⟩ D.s bb {s1 with b:=cH s1.b (aB s1.b.ah s1.b.ad k) false})) (rfl)
   have Yp:(cH s1.b (aB s1.b.ah s1.b.ad k) false).ah.length=s1.b.ah.length:=by simp [cH]
   have SQ:(cH s1.b (aB s1.b.ah s1.b.ad k) false).ab=s1.b.ab:=rfl;have dF:=J.p1.ba (by rw [SQ];omega);have O:=dF.p2.ba (by omega);have yj:=(qH.trans (bH.dA (F:=fun x=>x∈aI m1) Ft) rZ).trans (bH.dA (F:=fun x=>x∈aI m4) Fu) rZ;refine(bs) ?_;exact⟨⟨m1,m4,a.a3,m2,m3,m5,m6,a.n3,a.c3⟩,_,rfl,yj,(As.gr O.g1),(As.gr O.g0),O.p7.p7.ky.p5.k4⟩
  simp at g64
  obtain⟨ch,pF⟩:∃ch,(bT s1.b.ah (aB s1.b.ah s1.b.ad k))[ix]?=some ch:=⟨_,ak (by omega)⟩;rw [pF] at d;simp only [] at d;have Iw:=fP z pF;refine bY ?_;obtain⟨gH,cR⟩:=Ow.addr (As.gs R.g0) pF;refine bY ?_;refine WP .r (PV.dI GA cR rfl rfl (by omega))<|(aY) zk (Ow.jD (As.gs R.g0) (by omega) cR pF)<|(eN) R fun PC iN Fo Fp H=>?_;refine(cF) Ka H fun iV zy tK L=>?_;refine(gX) ao L.b0<|(eS) (Cr (k:=ch.read) (sb:=D.s) (s:=s1) (E:=a) (As.gb L.g4) (As.gm L.g5) z.busy (As.gr L.g8)) L fun k9 s12 N=>?_;refine(aR) (fun Yq=>?_) fun Yq=>?_
  ·
   simp at Yq
   rw [if_pos Yq] at d;obtain⟨t,PE,Fv⟩:=Option.bind_eq_some_iff.1 d;have LF:=(ct hR T).1 _ _ _ PE z Iw;have Yr:=(ct hR T).2.1 _ _ _ _ _ Fv LF.1;refine(gX) ao N.b0<|?_;have J:=N.p6.p6.kx.p7;refine(bX) Kj (El T (by omega) _ _ _ _ _ _ _ J.e4 (As.gr J.g8) (As.gr J.g9) z Iw PE (by have:=Yr.2.bf;omega)) ?_;rintro _ mM ⟨E2,Z5,rfl,vD,LG,hr5,KI⟩;have dF:=St.lv J KI vD;have yj:=Y.trans vD J.size;have O:=dF.fr (LG);have dL:=O.fr (hr5);have Q:=dL.kx.drop;have K:=Q.kx.drop;refine db ?_;refine ef (T,t,E2,ix,Z5) ⟨K.p6.drop.p6.drop.p6.drop.p6.drop.p6.p1.p2.p6.p6.p5,⟨Fv,LF.1,by omega,yj,trivial⟩⟩
  simp at Yq
  rw [if_neg (by rw [Yq];simp)] at d;refine bY ?_;have S0:=N.bL;have Ys:=N.jG;have Yt:=N.size;refine WC.oV (m:=12) [10] (E:=cA [(7,fun v _=>∃f1 f2 f3,v=.tuple #[.agg ((aC s1.b.ah ch.dP).row f1 f2 f3).toArray,.bool (az s1.b.ah ch.dP).isSome]),(11,PB k9.heap.size 47 [.int .i64 0,.string ⟨#[]⟩,.string ⟨#[]⟩,.slice none 0 0,.int .i64 0,.int .i64 0,.int .i64 0,.bool false])]) N (bj (⟨fun _ _ _ _ _ _ _ h=>h,⟨fun _ _ _ _ _ _ c h=>PB.st S0 c h,trivial⟩⟩)) mixed (by kernel_rfl) rfl ?_;refine cj ?_;refine DP .r (fun _ i=>PV.ld1 (j:=3) dt (bQ.range (As.gb i.2.g4)) rfl rfl)<|(tr) ao St.g0<|?_;refine DW.e rfl rfl rfl rfl rfl (fun wx i hF=>OX.call pr rfl rfl ((dY (k:=ch.dP) (As.gr i.2.g8)).mono ?_))<|?_
  ·
   rintro _ wy ⟨f1,f2,f3,rfl,l⟩;exact⟨_,rfl,⟨Nat.le_trans i.1 l.size,i.2.step l⟩,l.p0,_,rfl,⟨f1,f2,f3,rfl⟩⟩
  rintro _ wz _ ⟨f1,f2,f3,rfl⟩;refine bY ?_;refine DW.e rfl rfl rfl rfl rfl (fun wx i hF=>OX.alloc nF rfl fun b wy G hb=>⟨⟨Nat.le_trans i.1 G.ext.size,i.2.step G.ext⟩,G.ext.p0,_,rfl,_,rfl,Nat.le_trans i.1 G.ge,hb⟩)<|?_;rintro _ wz _ ⟨b11,rfl,_,_⟩;refine(cP) ?_;rintro mM ⟨PF,J⟩ ⟨ae9,⟨_,_⟩⟩;have dF:=J.tp ae9 S0 Ys Yt;refine(cF) fI dF fun pH Lv Lx O=>?_;refine nx ?_;refine WL.nil (EX.np ?_);refine bY ?_;have anp:=O.bL;refine WC.dB (m:=13) (E:=cA [(10,fun v _=>v=.int .i64 (aV (valOf aa x.ab) s1.b ch.read))]) O (bj (⟨fun _ _ _ _ _ _ _ h=>h,trivial⟩)) mixed (by kernel_rfl)<|(il) J7 St.g5<|(tr) aL St.g5<|(tr) ao St.g1<|?_;refine DW.e rfl rfl rfl rfl rfl (fun wx i hF=>OX.call Ph rfl rfl ((oH (k:=ch.read) hR Iw (i.2.one (.tail _ (.tail _ (.tail _ (.tail _ (.tail _ (.tail _ (.tail _ (.tail _ (.tail _ (.tail _ (.tail _ (.head _))))))))))))) (As.gr i.2.g8) (As.gr i.2.g9)).mono ?_))<|?_
  ·
   rintro _ wy ⟨rfl,l⟩;exact⟨_,rfl,⟨Nat.le_trans i.1 l.bV.size,i.2.xA iP l⟩,l.bV.mono (fun _ _ hx=>F9 iP hx),_,rfl,rfl⟩
  rintro _ wz _ rfl;refine(il) aN St.g0<|(cP)<|?_;rintro og ⟨Yu,dL⟩ ⟨_,_⟩;refine(aR) (fun N3=>?_) fun N3=>?_
  ·
   simp at N3
   rw [if_pos N3] at d;refine(aY) ao (bQ.range (As.gb dL.g10))<|(eS) (df (k:=k)) dL fun sZ SA Q=>?_;refine(aR) (fun S1=>?_) fun S1=>?_
   ·
    rw [if_pos S1] at d;simp only [Option.some.injEq,Prod.mk.injEq] at d;obtain⟨o,q⟩:=d;subst o;subst q;refine(gX) aL Q.b5<|nx ?_;have K:=Q;refine(bX) GG (l9 K.e0 (As.gr K.g8) (As.gr K.g9) (As.gr K.g3) (by omega) (by omega)) ?_;rintro _ yg ⟨m1,m2,m3,m4,m5,m6,Z4,rfl,Ct,Cu⟩;have ez:=St.lv K Cu Ct;have qH:=Y.trans Ct K.size;have Ft:=St.bM Cu;have Fu:=St.bM Cu.p1;have rZ:=K.size;refine bK ?_;refine WL.go rfl (OX.Qs dR (As.gb ez.g7) rfl rfl rfl rfl rfl fun yh LH DX=>?_);have fj:=ez.p7.Bj LH DX;refine nx ?_;have dM:=fj.rp (B:=As.blk xb 153 (EA.cells ⟨m1,m4,a.a3,m2,m3,m5,m6,a.n3,a.c3⟩ D.s bb {s1 with b:=cH s1.b (aB s1.b.ah s1.b.ad k) true})) (rfl)
    have Yp:(cH s1.b (aB s1.b.ah s1.b.ad k) true).ah.length=s1.b.ah.length:=by simp [cH]
    have SQ:(cH s1.b (aB s1.b.ah s1.b.ad k) true).ab=s1.b.ab:=rfl;have fD:=dM.p1.ba (by rw [SQ];omega);have lL:=fD.p2.ba (by omega);have yj:=(qH.trans (bH.dA (F:=fun x=>x∈aI m1) Ft) rZ).trans (bH.dA (F:=fun x=>x∈aI m4) Fu) rZ;refine(bs) ?_;exact⟨⟨m1,m4,a.a3,m2,m3,m5,m6,a.n3,a.c3⟩,_,rfl,yj,(As.gr lL.g1),(As.gr lL.g0),lL.p9.p9.ox.p5.k4⟩
   rw [if_neg (by rw [S1];simp)] at d;simp only [Option.some.injEq,Prod.mk.injEq] at d;obtain⟨o,q⟩:=d;subst o;subst q;refine aX ?_;refine(bs) ?_;exact⟨a,_,rfl,Y,(As.gr Q.g8),(As.gr Q.g9),Q.p7.p7.ky.p8.k4⟩
  simp at N3
  rw [if_neg (by omega)] at d;refine gL ?_;refine ef (T,s1,a,ix+1,Z3) ⟨dL.drop.drop.drop.drop.drop,⟨d,z,by omega,Y,trivial⟩⟩
 simp at g17
 rw [if_pos g17] at d;simp only [Option.some.injEq,Prod.mk.injEq] at d;obtain⟨o,q⟩:=d;subst o;subst q;refine(bs) ?_;exact⟨a,_,rfl,S,(As.gr C.g3),(As.gr C.g4),C.p2.p2.p6.p3.k4⟩
set_option maxHeartbeats 1600000 in
theorem H3{s:ES}{f:Nat}(P:aq aa) (gk:St w M Z w [As.blk xb 153 (E.cells D.s bb s),As.jH prog 137 aa x D,As.map Key.val bb s.busy,As.os RR.key 41 2 E.a3 E.n3 E.c3 s.bf]) (hi:Rd RR.aD 4 Z w E.a1 E.n1 E.c1 s.b.ab) (hr:Rd RR.dV 8 Z w E.a2 E.n2 E.c2 s.b.ah) (Fs:Good aa x.ab s) (H0:s.b.ab.length≤1000000) (KJ:gV aa k 0) (El:∀g,g<f→UpC aa x D xb bb g) (KF:gO aa (valOf aa x.ab) f s k [] []=some s') (zI:s'.bf.length≤1000000):Calls prog 147 #[.pointer (some ⟨xb,0,none⟩),k.val] w fun e w'=>∃(H:EA) (Z':Nat→Prop),e=.returned (.tuple #[])∧bH w.heap.size Z Z'∧Rd RR.aD 4 Z' w' H.a1 H.n1 H.c1 s'.b.ab∧Rd RR.dV 8 Z' w' H.a2 H.n2 H.c2 s'.b.ah∧St w M Z' w' [As.blk xb 153 (H.cells D.s bb s'),As.jH prog 137 aa x D,As.map Key.val bb s'.busy,As.os RR.key 41 2 H.a3 H.n3 H.c3 s'.bf]:=by
 refine enter func147 rfl ntmps147 rfl<|?_;have aO:=gk;have st1:=aO.fr hi;have st2:=st1.fr hr;have iT:=st2.dp RR.key 41 2;have ik:=iT.dp RR.str 9 1;refine(dq) ik fun b3 w1 HO wE iY=>?_;refine aX ?_;refine nx ?_;refine WC.hh (σ:=Nat × ES × EA × (List Key) × (List ByteArray) × (Nat→Prop) × (Option Addr) × Nat × Nat × (Option Addr) × Nat × Nat) (dj:=fun(J,s1,i,reads,ae,T,z,C,L,Q,N,R)=>[(0,.pointer (some ⟨xb,0,none⟩)),(3,.pointer (some ⟨b3,0,none⟩)),(4,.slice z C L),(5,.slice Q N R)]) (F:=fun(J,s1,i,reads,ae,T,z,C,L,Q,N,R)=>[As.os RR.key 41 2 z C L (reads),As.os RR.str 9 1 Q N R (ae),As.blk xb 153 (i.cells D.s bb s1),As.map Key.val bb s1.busy,As.os RR.key 41 2 i.a3 i.n3 i.c3 s1.bf,As.ro RR.aD 4 i.a1 i.n1 i.c1 s1.b.ab,As.ro RR.dV 8 i.a2 i.n2 i.c2 s1.b.ah]) (I:=fun(J,s1,i,reads,ae,T,z,C,L,Q,N,R)=>(gO aa (valOf aa x.ab) J s1 k reads ae=some s')∧(Good aa x.ab s1)∧(J≤f)∧(bH w.heap.size Z T)∧(gV aa k ae.length)∧(reads.length=ae.length)∧(∀a∈reads,eG aa a)∧(∀y∈aI z,w.heap.size≤y)∧True) (μ:=fun(J,s1,i,reads,ae,T,z,C,L,Q,N,R)=>J) (Zf:=fun(J,s1,i,reads,ae,T,z,C,L,Q,N,R)=>T) (f,s,E,[],[],Z,none,0,0,none,0,0) (iY.p3.p4.p8.p8.p7.p6.p7) Sub.t (⟨KF,Fs,Nat.le_refl _,bH.refl _ _,KJ,rfl,(fun a u=>by cases u),(by simp [aI]),trivial⟩)<|?_;rintro⟨J,s1,i,reads,ae,T,z,C,L,Q,N,R⟩ w2 G ⟨q,Im,hfu,hZ,H4,hlen,Uw,hfr,_⟩;simp only [CA,NA] at G q Im hfu hZ H4 hlen Uw hfr ⊢
 obtain⟨UG,rfl⟩:∃g,J=g+1:=by cases J with | zero=>simp [gO] at q | succ g=>exact⟨g,rfl⟩
 unfold gO at q
 have hl4:=Im.len
 have ae2:s1.b.ab.length≤1000000:=by rw [Im.aD,← Fs.aD];exact H0
 have h6:=H4.le P;have SZ:=((As.gs G.g0)).len;have yc:=((As.gs G.g1)).len;have GW:=((As.gr G.g6)).len;refine(aZ) x5 G.b2<|(aR) (fun g13=>?_) fun g13=>?_
 ·
  simp at g13
  rw [if_neg (by simp [g13])] at q;refine cj ?_;obtain⟨o,NJ⟩:∃t,aH aa k ae=t:=⟨_,rfl⟩;rw [NJ] at q;have Yv:=@gV.next aa k P ae H4;rw [NJ] at Yv;have Yw:=G.bL;have afa:=G.jG;have afb:=G.size;refine WC.dB (m:=11) (E:=cA [(9,fun v _=>v=o.val),(10,PB w2.heap.size 140 [.bool false,.string ⟨#[]⟩,.int .i64 0,.string ⟨#[]⟩])]) G (bj (⟨fun _ _ _ _ _ _ _ h=>h,⟨fun _ _ _ _ _ _ c h=>PB.st Yw c h,trivial⟩⟩)) mixed (by kernel_rfl)<|bY ?_;refine DP .r (fun _ d=>PV.mf J7 (bQ.range (As.gb d.2.g2)) rfl rfl)<|bK ?_;refine DP .r (fun _ d=>V1 jy (bQ.range (As.gvb (d.2.g8))) .r)<|(gI) ao St.g7<|nx ?_;refine DW.c1 (fun U d S=>fB (k:=k) (SD.ht (As.gv (d.2.g8))) (SD.hu (As.gv (d.2.g8))) (Ow.rd (As.gs d.2.g1) (by omega)) P.hb (H4.not P).1) (by rw [NJ])<|?_;refine DW.e rfl rfl rfl rfl rfl (fun U d S=>OX.alloc oD rfl fun b wy l hb=>⟨⟨Nat.le_trans d.1 l.ext.size,d.2.step l.ext⟩,l.ext.p0,_,rfl,_,rfl,Nat.le_trans d.1 l.ge,hb⟩)<|?_;rintro _ wz _ ⟨b6,rfl,_,_⟩;refine(cP) ?_;rintro w3 ⟨rZ,gW⟩ ⟨zD,⟨_,_⟩⟩;have iH:=gW.tp zD Yw afa afb;refine(cF) gy iH fun w4 jO jZ V=>?_;refine(aZ) dG V.b0<|(aR) (fun PG=>?_) fun PG=>?_
  ·
   rw [if_pos PG] at q;refine bK ?_;have PA:=V.bL;have afc:=V.jG;have afd:=V.size;refine WC.oV (m:=11) [9] (E:=cA [(6,fun v _=>∃f1 f2 f3,v=.tuple #[.agg ((aC s1.b.ah k).row f1 f2 f3).toArray,.bool (az s1.b.ah k).isSome]),(10,PB w4.heap.size 47 [.int .i64 0,.string ⟨#[]⟩,.string ⟨#[]⟩,.slice none 0 0,.int .i64 0,.int .i64 0,.int .i64 0,.bool false])]) V (bj (⟨fun _ _ _ _ _ _ _ h=>h,⟨fun _ _ _ _ _ _ c h=>PB.st PA c h,trivial⟩⟩)) mixed (by kernel_rfl) rfl ?_;refine cj ?_;refine DP .r (fun _ d=>PV.ld1 (j:=3) dt (bQ.range (As.gb d.2.g3)) rfl rfl)<|(gI) ao St.g8<|?_;refine DW.e rfl rfl rfl rfl rfl (fun U d S=>OX.call pr rfl rfl ((dY (k:=k) (As.gr d.2.g7)).mono ?_))<|?_
   ·
    rintro _ wy ⟨f1,f2,f3,rfl,hy⟩;exact⟨_,rfl,⟨Nat.le_trans d.1 hy.size,d.2.step hy⟩,hy.p0,_,rfl,⟨f1,f2,f3,rfl⟩⟩
   rintro _ wz _ ⟨f1,f2,f3,rfl⟩;refine bY ?_;refine DW.e rfl rfl rfl rfl rfl (fun U d S=>OX.alloc nF rfl fun b wy l hb=>⟨⟨Nat.le_trans d.1 l.ext.size,d.2.step l.ext⟩,l.ext.p0,_,rfl,_,rfl,Nat.le_trans d.1 l.ge,hb⟩)<|?_;rintro _ wz _ ⟨b7,rfl,_,_⟩;refine(cP) ?_;rintro w5 ⟨qD,W⟩ ⟨zD,⟨_,_⟩⟩;have dh:=W.tp zD PA afc afd;refine(cF) fI dh fun w6 qV mi cW=>?_;refine nx ?_;refine WL.nil (EX.np ?_);refine bK ?_;refine WC.dU (t:=46) (v:=.bool (!(az s1.b.ah k).isSome && decide (4000≤s1.b.ah.length))) cW ?_<|?_
   ·
    refine(dc) (fun g38=>?_) (fun g38=>?_)
    ·
     refine cj ?_;refine WP .r (PV.ld1 (j:=3) dt cW.b4 rfl rfl)<|?_;exact(cw) (by simp only [g38];first | rfl | (simp [GW];done) | (simp;omega)) (cW)
    exact(cw) (by simp only [g38];first | rfl | (simp [GW];done) | (simp;omega)) (cW)
   intro w7 di;refine(aR) (fun g46=>?_) fun g46=>?_
   ·
    rw [if_pos g46] at q;simp only [Option.some.injEq] at q;subst q;refine db ?_;refine WL.s1 di.p4 fun w8 _ da=>?_;refine nx ?_;have O:=da.rp (B:=As.blk xb 153 (EA.cells i D.s bb {s1 with e:=45})) (rfl);refine ed ?_;refine EX.mO (.inl rfl) rfl<|?_;exact⟨i,_,rfl,hZ,(As.gr O.g7),(As.gr O.g8),O.p6.p6.kx.p3.k4⟩
   rw [if_neg (by rw [g46];simp)] at q;simp only [Option.some.injEq] at q;subst q
   have Eo:s1.bf.length+1≤1000000:=by simpa using zI
   refine bY ?_;have da:=di.p2.ba (by omega);have mN:=hZ.trans (bH.dA (F:=fun x=>x∈aI z) hfr) (Nat.le_refl _);have hN9:=da.bL;refine WC.oV (m:=15) [0] (E:=cA [(14,fun v _=>v=.agg ((bJ s1.b k o.value reads).row z C L).toArray)]) da (bj (⟨fun _ _ _ _ _ _ _ h=>h,trivial⟩)) mixed (by kernel_rfl) rfl ?_;refine db ?_;refine DP .r (fun _ d=>PV.ld1 (j:=3) dt (bQ.range (As.gb d.2.g4)) rfl rfl)<|(tr) aL St.g4<|(gI) ao St.g9<|(il) fh St.g2<|nx ?_;refine DW.c0 (fun U d S=>vt (k:=k) (v:=o.value) (As.gr d.2.g7) (As.gr d.2.g8) (As.gr d.2.g0))<|(cP) ?_;rintro w8 ⟨HZ,O⟩ ⟨_,_⟩;have K:=O;refine(bX) Pe (vk (x:=(bJ s1.b k o.value reads)) K.e0 (As.gr K.g8) (by omega) (As.gr K.g0) (by show reads.length≤4000;omega)) ?_;rintro _ w9 ⟨p1,p2,p3,Z4,rfl,Ct,nI⟩;have eu:=St.lv K nI Ct;have Py:(ey s1.b.ah (bJ s1.b k o.value reads)).length≤s1.b.ah.length+1:=rf (bJ s1.b k o.value reads) s1.b.ah false;have Yx:=St.bM nI;have rZ:=K.size;have qH:=mN.trans Ct rZ;have dZ:=eu.ba (by omega);have yj:=qH.trans (bH.dA (F:=fun x=>x∈aI p1) Yx) rZ;refine bY ?_;refine WL.s1 (j:=3) dZ.p5 fun iN _ dE=>?_;refine WL.nil (EX.np ?_);have X:=dE.rp (B:=As.blk xb 153 (EA.cells ⟨i.a1,p1,i.a3,i.n1,i.c1,p2,p3,i.n3,i.c3⟩ D.s bb {s1 with b:={s1.b with ah:=ey s1.b.ah (bJ s1.b k o.value reads)}})) (rfl);refine bK ?_;have hnr:=((As.gs X.g7)).len;have wG:=X.bL;have Cm:=X.jG;have Cn:=X.size;refine WC.oV (m:=7) [0] (E:=cA [(6,PS iN.heap.size 41 1 k.cells)]) X (bj (⟨fun _ _ _ _ _ _ c h=>PS.st wG c h,trivial⟩)) mixed (by kernel_rfl) rfl ?_;refine(il) dC St.g0<|(gI) ao St.g10<|?_;refine DW.e rfl rfl rfl rfl rfl (fun U d S=>OX.aP (us:=k.cells) dz rfl rfl rfl rfl fun b wy l hb=>⟨⟨Nat.le_trans d.1 l.ext.size,d.2.step l.ext⟩,l.ext.p0,_,rfl,_,rfl,Nat.le_trans d.1 l.ge,hb⟩)<|?_;rintro _ wz _ ⟨b75,rfl,_,_⟩;refine(cP) ?_;rintro iV ⟨yd,e7⟩ ⟨SU,_⟩;have dL:=e7.tp (PS.pb SU) wG Cm Cn;refine WL.go rfl (OX.jR l5 rfl rfl rfl (As.gs dL.g8) (SR.dd (A:=fun _=>True) (x:=k) (As.gb dL.g0) trivial rfl (by simp [Key.cells,Value.oneCell']) rfl) (by show(i.n3+1)*_≤_;omega) (by show i.n3+1≤_;omega) (Nat.zero_le _) fun a76 H5 k9 S2 s76 S3 afh=>?_);have fb:=dL.p8.eV s76 S2 S3;refine bK ?_;refine WL.s1 fb.p2 fun mM _ fc=>?_;refine WL.nil (EX.np ?_);have ez:=fc.rp (B:=As.blk xb 153 (EA.cells ⟨i.a1,p1,a76,i.n1,i.c1,p2,p3,(i.n3+1),H5⟩ D.s bb {s1 with b:={s1.b with ah:=ey s1.b.ah (bJ s1.b k o.value reads)},bf:=s1.bf++[k]})) (rfl);refine fO ?_;refine EX.mO (.inl rfl) rfl<|?_;exact⟨⟨i.a1,p1,a76,i.n1,i.c1,p2,p3,(i.n3+1),H5⟩,_,rfl,yj,(As.gr ez.g9),(As.gr ez.g3),ez.p1.p8.ov.p3.k4⟩
  rw [if_neg (by rw [PG];simp)] at q;obtain⟨t,PE,Y⟩:=Option.bind_eq_some_iff.1 q;have GL:=Yv PG;have LF:=(ct P UG).1 _ _ _ PE Im GL.2;refine(gX) ao V.b0<|?_
  have hrt:t.bf.length≤1000000:=by
   split at Y
   ·
    have:=((ct P UG).2.2 _ _ _ _ _ Y LF.1 (by simpa using GL.1) (by simp [hlen]) (fun a u=>by rcases List.mem_append.1 u with u | u;exact Uw a u;simp at u;subst u;exact GL.2)).2.bf
    omega
   have:=((ct P UG).2.2 _ _ _ _ _ Y LF.1 H4 hlen Uw).2.bf
   omega
  have W:=V.p5.p5.p9.p6;refine(bX) Kj (El UG (by omega) _ _ _ _ _ _ _ W.e4 (As.gr W.g7) (As.gr W.g8) Im GL.2 PE hrt) ?_;rintro _ w5 ⟨E2,Z5,rfl,vD,LG,hr5,qB⟩;have dh:=St.lv W qB vD;have yj:=hZ.trans vD W.size;have cW:=dh.fr (LG);have di:=cW.fr (hr5);have da:=di.p9.drop;have O:=da.p9.drop;refine(aZ) x5 O.b2<|(aR) (fun Fw=>?_) fun Fw=>?_
  ·
   simp at Fw
   rw [if_pos Fw] at Y;have K:=O.p7;have N4:=K.bL;have Yy:=K.jG;have Yz:=K.size;refine WC.L5 (m:=16) [5] (fun j w w'=>match j with | 4=>gK (fun x=>x∈aI z) w w' | _=>gK (fun _=>False) w w') (E:=cA [(3,PS w5.heap.size 41 1 o.ask.cells),(4,fun v w'=>∃a c,v=.slice a (C+1) c∧(∀x∈aI a,x∈aI z∨w5.heap.size≤x)∧Ow RR.key 41 2 Z5 w' a (C+1) c (reads++[o.ask]))]) K (lB (⟨⟨trivial,⟨fun _ _ _ _ _ c h=>PS.st (fun x hx=>N4 x ⟨_,.head _,hx⟩) c h,trivial⟩⟩,⟨⟨trivial,⟨trivial,trivial⟩⟩,trivial⟩⟩)) mixed (by kernel_rfl) rfl ?_;refine(tr) ao St.g7<|?_;refine DW.e rfl rfl rfl rfl rfl (fun U d S=>OX.aP (us:=o.ask.cells) dz rfl rfl rfl rfl fun b wy l hb=>⟨⟨Nat.le_trans d.1 l.ext.size,d.2.step l.ext⟩,l.ext.p0,_,rfl,_,rfl,Nat.le_trans d.1 l.ge,hb⟩)<|?_;rintro _ wz _ ⟨b91,rfl,_,_⟩
   refine DW.e rfl rfl rfl rfl rfl (fun U d S=>by
    obtain⟨⟨b',E0,wD,wE⟩,_⟩:=S;simp only [Value.slice.injEq,Option.some.injEq,Addr.mk.injEq,and_true,true_and] at E0;subst E0;exact OX.ab7 l5 rfl rfl rfl (As.gs d.2.g0) (fun x hx=>d.2.lR _ M0 x hx) (SR.dd (A:=fun _=>True) (x:=o.ask) wE trivial rfl (by simp [Key.cells,Value.oneCell']) rfl) (by omega) (by omega) fun a' c' wy h1 h2 h3 h4=>⟨⟨Nat.le_trans d.1 h3.size,d.2.same M0 h3.p h2⟩,h3.p,_,rfl,a',c',rfl,(fun x hx=>by rcases h4 x hx with h | h;exact .inl h;exact .inr (Nat.le_trans d.1 h)),h1⟩) ?_
   rintro _ wz _ ⟨a4,c4,rfl,_,_⟩;refine cj ?_;refine DP .r (fun _ d=>PV.mf J7 (bQ.range (As.gb d.2.g3)) rfl rfl)<|(tr) aL St.g3<|(tr) ao St.g7<|(cP)<|?_;rintro w6 ⟨Cv,eu⟩ ⟨hF4,⟨hF3,_⟩⟩;obtain⟨_,_,he4,YA,ho4⟩:=hF4;simp only [Value.slice.injEq,true_and] at he4;obtain⟨rfl,rfl⟩:=he4;have dZ:=eu;have dE:=dZ.swap (B:=As.os RR.key 41 2 a4 (C+1) c4 (reads++[o.ask])) ho4 YA N4 Yy Yz;refine(bX) Pg (qE (k:=o.ask) P GL.2 (dE.one (.tail _ (.tail _ (.tail _ (.tail _ (.head _)))))) (As.gr dE.g2) (As.gr dE.g1)) ?_;rintro _ w7 ⟨rfl,jB⟩;have X:=dE.xA M4 jB;refine WL.go rfl (OX.aP (us:=[.string (bO (valOf aa x.ab) t.b o.ask)]) jm rfl rfl rfl rfl fun ant w8 YB YC=>?_);have e7:=X.de YB YC;refine WL.ap rfl rfl e7.p9 (SR.dd (A:=fun _=>True) (x:=bO (valOf aa x.ab) t.b o.ask) (As.gb e7.g0) trivial rfl (by simp [Value.oneCell']) rfl) fun afi YD w9 ajv ajw dL=>?_;refine bK ?_;refine WL.nil (EX.np ?_);refine nx ?_;refine ef (UG,t,E2,reads++[o.ask],ae++[bO (valOf aa x.ab) t.b o.ask],Z5,a4,(C+1),c4,afi,(N+1),YD) ⟨dL.p1.drop.p8.drop.p8.p3.p4.p8.p8.p7.p6.p7,⟨Y,LF.1,by omega,yj,by simpa using GL.1,by simp [hlen],(fun a u=>by rcases List.mem_append.1 u with u | u;exact Uw a u;simp at u;subst u;exact GL.2),(fun y hy=>by rcases YA y hy with h | h;exact hfr y h;omega),trivial⟩⟩
  simp at Fw
  rw [if_neg Fw] at Y;refine bK ?_;refine ef (UG,t,E2,reads,ae,Z5,z,C,L,Q,N,R) ⟨O.p6.drop.p8.p1.p2.p6.p6.p5.p8.p8,⟨Y,LF.1,by omega,yj,H4,hlen,Uw,hfr,trivial⟩⟩
 simp at g13
 rw [if_pos g13] at q;simp only [Option.some.injEq] at q;subst q;refine cj ?_;refine EX.mO (.inr rfl) rfl<|?_;exact⟨i,_,rfl,hZ,(As.gr G.g5),(As.gr G.g6),G.p4.p4.p8.p5.k4⟩
set_option maxHeartbeats 1600000 in
theorem KL{s:ES}{f:Nat}(J:aq aa) (gk:St w M Z w [As.blk xb 153 (E.cells D.s bb s),As.jH prog 137 aa x D,As.map Key.val bb s.busy,As.os RR.key 41 2 E.a3 E.n3 E.c3 s.bf]) (hi:Rd RR.aD 4 Z w E.a1 E.n1 E.c1 s.b.ab) (hr:Rd RR.dV 8 Z w E.a2 E.n2 E.c2 s.b.ah) (K:Good aa x.ab s) (H0:s.b.ab.length≤1000000) (hk:eG aa k) (El:∀g,g<f→UpC aa x D xb bb g) (d:kU aa (valOf aa x.ab) (f+1) s k=some s') (zI:s'.bf.length≤1000000):Calls prog 102 #[.pointer (some ⟨xb,0,none⟩),k.val] w fun e w'=>∃(l:EA) (Z':Nat→Prop),e=.returned (.tuple #[])∧bH w.heap.size Z Z'∧Rd RR.aD 4 Z' w' l.a1 l.n1 l.c1 s'.b.ab∧Rd RR.dV 8 Z' w' l.a2 l.n2 l.c2 s'.b.ah∧St w M Z' w' [As.blk xb 153 (l.cells D.s bb s'),As.jH prog 137 aa x D,As.map Key.val bb s'.busy,As.os RR.key 41 2 l.a3 l.n3 l.c3 s'.bf]:=by
 unfold kU at d
 have hbk:(bC s.busy k).getD (.bool false)=.bool (s.on k):=by unfold ES.on;rcases K.busy k with h | h <;> rw [h] <;> rfl
 refine enter func102 rfl ntmps102 rfl<|?_;have aO:=gk;have st1:=aO.fr hi;have st2:=st1.fr hr;refine(dq) st2 fun b3 w1 HO wE F=>?_;refine cj ?_;refine WC.dU (t:=14) (v:=.bool (decide (s.e≠0) || ay k)) F ?_<|?_
 ·
  refine(aZ) x5 F.b3<|(dc) (fun g11=>?_) (fun g11=>?_)
  ·
   exact(cw) (by simp only [g11];first | rfl | simp) (F)
  refine(aY) ao F.b0<|(eS) (ep (k:=k)) F fun w2 s2 o=>?_;exact(cw) (by simp only [g11];first | rfl | simp) (o)
 intro w2 o;refine(aR) (fun g14=>?_) fun g14=>?_
 ·
  rw [if_pos (by simpa using g14)] at d;simp only [Option.some.injEq] at d;subst d;refine bK ?_;refine EX.mO (.inl rfl) rfl<|?_;exact⟨E,Z,rfl,bH.refl _ _,(As.gr o.g2),(As.gr o.g1),o.p6.p6.p6.p6.k4⟩
 have yC:ay k=false:=by simp at g14;exact g14.2
 rw [if_neg (by simpa using g14)] at d;refine cj ?_;have UH:=o.bL;have afj:=o.jG;have afk:=o.size;refine WC.oV (m:=11) [9] (E:=cA [(6,fun v _=>∃f1 f2 f3,v=.tuple #[.agg ((aC s.b.ah k).row f1 f2 f3).toArray,.bool (az s.b.ah k).isSome]),(10,PB w2.heap.size 47 [.int .i64 0,.string ⟨#[]⟩,.string ⟨#[]⟩,.slice none 0 0,.int .i64 0,.int .i64 0,.int .i64 0,.bool false])]) o (bj (⟨fun _ _ _ _ _ _ _ h=>h,⟨fun _ _ _ _ _ _ c h=>PB.st UH c h,trivial⟩⟩)) mixed (by kernel_rfl) rfl ?_;refine cj ?_;refine DP .r (fun _ i=>PV.ld1 (j:=3) dt (bQ.range (As.gb i.2.g3)) rfl rfl)<|(gI) ao St.g0<|?_;refine DW.e rfl rfl rfl rfl rfl (fun wx i hF=>OX.call pr rfl rfl ((dY (k:=k) (As.gr i.2.g1)).mono ?_))<|?_
 ·
  rintro _ wy ⟨f1,f2,f3,rfl,P⟩;exact⟨_,rfl,⟨Nat.le_trans i.1 P.size,i.2.step P⟩,P.p0,_,rfl,⟨f1,f2,f3,rfl⟩⟩
 rintro _ wz _ ⟨f1,f2,f3,rfl⟩;refine bY ?_;refine DW.e rfl rfl rfl rfl rfl (fun wx i hF=>OX.alloc nF rfl fun b wy L hb=>⟨⟨Nat.le_trans i.1 L.ext.size,i.2.step L.ext⟩,L.ext.p0,_,rfl,_,rfl,Nat.le_trans i.1 L.ge,hb⟩)<|?_;rintro _ wz _ ⟨b4,rfl,_,_⟩;refine(cP) ?_;rintro w3 ⟨oj,iY⟩ ⟨zD,⟨_,_⟩⟩;have iC:=iY.tp zD UH afj afk;refine(cF) fI iC fun w4 jO jZ Q=>?_;refine nx ?_;refine WL.nil (EX.np ?_);refine bK ?_;refine WC.dU (t:=35) (v:=.bool (aA s.b k)) Q ?_<|?_
 ·
  have Dz:=Q.bL;refine WC.dS (m:=9) Q mixed<|(ob) (fun R=>?_) (fun R=>?_)
  ·
   refine(il) aN St.g0<|cj ?_;refine DP .r (fun _ i=>PV.ld1 (j:=1) aN (bQ.range (As.gb i.2.g4)) rfl rfl)<|(cP)<|?_;rintro w5 ⟨px,q⟩ _;exact(cw) (by unfold aA;simp only [R];first | rfl | simp) (q)
  refine(cP) ?_;rintro w5 ⟨px,q⟩ _;exact(cw) (by unfold aA;simp only [R];first | rfl | simp) (q)
 intro w5 q;refine(aR) (fun S=>?_) fun S=>?_
 ·
  rw [if_pos S] at d;simp only [Option.some.injEq] at d;subst d;refine bK ?_;refine EX.mO (.inl rfl) rfl<|?_;exact⟨E,Z,rfl,bH.refl _ _,(As.gr q.g3),(As.gr q.g2),q.p7.p7.p7.p7.k4⟩
 rw [if_neg (by rw [S];simp)] at d;refine cj ?_;have Yw:=q.bL;refine WC.dS (m:=5) q mixed<|(il) nE St.g4<|(gI) ao St.g1<|(cP)<|?_;rintro w6 ⟨rZ,G⟩ _;refine WP .r (PV.jK cZ gE B7 (As.gm G.g6) (hbk) rfl rfl)<|(aR) (fun T=>?_) fun T=>?_
 ·
  rw [if_pos T] at d;refine(aY) ao G.b1<|(eS) (df (k:=k)) G fun w7 s7 C=>?_;refine(aR) (fun H=>?_) fun H=>?_
  ·
   simp at H
   rw [if_neg (by rw [H];simp)] at d;simp only [Option.some.injEq] at d;subst d;refine cj ?_;refine WL.s1 C.p4 fun w8 _ N=>?_;refine nx ?_;have u:=N.rp (B:=As.blk xb 153 (EA.cells E D.s bb {s with e:=43})) (rfl);refine bY ?_;refine EX.mO (.inl rfl) rfl<|?_;exact⟨E,Z,rfl,bH.refl _ _,(As.gr u.g4),(As.gr u.g3),u.p7.p7.p7.p3.k4⟩
  simp at H
  rw [if_pos H] at d;simp only [Option.some.injEq] at d;subst d;refine cj ?_;refine EX.mO (.inl rfl) rfl<|?_;exact⟨E,Z,rfl,bH.refl _ _,(As.gr C.g3),(As.gr C.g2),C.p7.p7.p7.p7.k4⟩
 rw [if_neg (by rw [T];simp)] at d;refine bY ?_;have hN7:=G.bL;refine WC.dS (m:=5) G mixed<|(il) nE St.g4<|(gI) ao St.g1<|(cP)<|?_;rintro w7 ⟨S4,C⟩ _;refine WL.go rfl (OX.put cZ gE (As.gm C.g6) rfl rfl rfl fun w8 zB vx=>?_);have N:=C.p6.jS zB vx;refine nx ?_;obtain⟨⟨s2,r2⟩,hp,d⟩:=Option.bind_eq_some_iff.1 d;obtain⟨s3,y,d⟩:=Option.bind_eq_some_iff.1 d;simp only [Option.some.injEq] at d;subst d;have U:=(ct J f).2.1 _ _ _ _ _ hp (K.on k);have KJ:=hk.gF yC;have V:s3.bf.length≤1000000:=zI
 have YE:s2.bf.length≤1000000:=by
  split at y
  ·
   have:=((ct J f).2.2 _ _ _ _ _ y U.1 KJ rfl (fun a ha=>by cases ha)).2.bf
   exact Nat.le_trans this V
  simp only [Option.some.injEq] at y;subst y;exact V
 have afl:s2.b.ab.length≤1000000:=by rw [U.1.aD,← K.aD];exact H0
 refine(aY) ao N.b2<|?_;have u:=N.p7.p1.p7.p7;refine(bX) Xl (Cs (s:={s with busy:=cJ s.busy k (.bool true)}) (E:=E) J u.e4 (As.gr u.g7) (As.gr u.g6) (K.on k) H0 El hp YE) ?_;rintro _ w9 ⟨E2,Z2,rfl,vC,afm,afn,nI⟩;have di:=St.lv u nI vC;have mx:=(bH.refl w.heap.size Z).trans vC u.size;have da:=di.fr (afm);have eb:=da.fr (afn);have fX:=eb.p9.drop;have O:=fX.p8.drop;refine(aR) (fun W=>?_) fun W=>?_
 ·
  rw [if_pos W] at y;refine(aY) ao (bQ.range (As.gb O.g7))<|?_;have z:=O.p5.p5.p5.p5;refine(bX) Xm (H3 (s:=s2) (E:=E2) J z.e4 (As.gr z.g5) (As.gr z.g4) U.1 afl KJ El y V) ?_;rintro _ iN ⟨E3,Z3,rfl,qF,afo,afp,qG⟩;have I:=St.lv z qG qF;have X:=mx.trans qF z.size;have dF:=I.fr (afo);have e7:=dF.fr (afp);have dL:=e7.p7.drop;have fb:=dL.p6.drop;refine bK ?_;have wG:=fb.bL;refine WC.dS (m:=5) fb mixed<|(il) nE St.g2<|(gI) ao St.g7<|(cP)<|?_;rintro iV ⟨yd,fc⟩ _;refine WL.go rfl (OX.del cZ gE (As.gm fc.g4) rfl rfl fun k9 zF zG=>?_);have Y:=fc.p4.jS zF zG;refine nx ?_;refine EX.mO (.inr rfl) rfl<|?_;exact⟨_,_,rfl,X,(As.gr Y.g2),(As.gr Y.g1),Y.p5.p1.p5.p5.k4⟩
 rw [if_neg (by rw [W];simp)] at y;simp only [Option.some.injEq] at y;subst y;have X:=mx;refine bK ?_;have wG:=O.bL;refine WC.dS (m:=5) O mixed<|(il) nE St.g2<|(gI) ao St.g7<|(cP)<|?_;rintro iN ⟨yd,z⟩ _;refine WL.go rfl (OX.del cZ gE (As.gm z.g4) rfl rfl fun iV S5 S6=>?_);have I:=z.p4.jS S5 S6;refine nx ?_;refine EX.mO (.inr rfl) rfl<|?_;exact⟨_,_,rfl,X,(As.gr I.g2),(As.gr I.g1),I.p5.p1.p5.p5.k4⟩
theorem S7(c:aq aa) (d:x.ab.length≤1000000):∀f,UpC aa x D xb bb f:=by
 intro f
 induction f using Nat.strongRecOn with
 | _ f e=>
  intro w M Z s E k s' h hi hr a hk b i
  cases f with
  | zero=>simp [kU] at b
  | succ f=>exact KL c h hi hr a (by rw [a.aD];exact d) hk (fun g j=>e g (by omega)) b i
theorem Cw(a:s.size≤1000) (w:World):Calls prog 204 #[.string s] w fun e w'=>∃(v:Int) (ok:Bool) (ev:Value),e=.returned (.tuple #[.int .i64 v,ev])∧(-9223372036854775808≤v∧v≤9223372036854775807)∧((ok=true∧ev=.nilIface)∨(ok=false∧∃t y,ev=.iface t y))∧(ok=false→ev=.iface 296 (.int .i64 2)∨ev=.iface 296 (.int .i64 1))∧aS [] w w':=by
 refine(Any.internal_strconv_Atoi_all {laysC172 with} s (by omega) w).mono fun e w' ⟨he,hw⟩=>?_
 have hc:aS [] w w':=by
  rcases hw with rfl | ⟨t,rfl⟩
  ·
   exact aS.refl _ _
  exact x8 _ _ _
 cases h:Lib.atoiAll s.data.toList
 ·
  rename_i v
  rw [h] at he;exact⟨v,true,.nilIface,he,Lib.atoiAll_bounds h,.inl ⟨rfl,rfl⟩,(fun e=>by cases e),hc⟩
 ·
  rw [h] at he;exact⟨0,false,_,he,by decide,.inr ⟨rfl,_,_,rfl⟩,fun _=>.inl rfl,hc⟩
 rw [h] at he;exact⟨Lib.atoiSat s.data.toList,false,_,he,Lib.atoiSat_bounds _,.inr ⟨rfl,_,_,rfl⟩,fun _=>.inr rfl,hc⟩
set_option maxHeartbeats 400000
theorem vE :CR prog 150 #[.int .i64 n] w (.bool (decide (30≤n) && decide (n≤32))):=by
 refine enter func150 rfl ntmps150 rfl<|?_;have aO:=St.s0 w;refine fO ?_;refine WC.kQ (t:=2) (v:=.bool (decide (30≤n) && decide (n≤32))) aO ?_<|?_
 ·
  refine(dc) (fun g5=>?_) (fun g5=>?_)
  ·
   exact(gz) (by simp only [g5];first | rfl | simp) (aO)
  exact(gz) (by simp only [g5];first | rfl | simp) (aO)
 intro w1 st1;refine(bs) ?_;exact⟨rfl,(St.cg st1)⟩
theorem Cx :CR prog 151 #[.int .i64 n] w (.bool (decide (1≤n) && decide (n≤22))):=by
 refine enter func151 rfl ntmps151 rfl<|?_;have aO:=St.s0 w;refine fO ?_;refine WC.kQ (t:=2) (v:=.bool (decide (1≤n) && decide (n≤22))) aO ?_<|?_
 ·
  refine(dc) (fun g5=>?_) (fun g5=>?_)
  ·
   exact(gz) (by simp only [g5];first | rfl | simp) (aO)
  exact(gz) (by simp only [g5];first | rfl | simp) (aO)
 intro w1 st1;refine(bs) ?_;exact⟨rfl,(St.cg st1)⟩
theorem cM :CR prog 42 #[k.val] w (.bool (ay k)):=by
 refine enter func42 rfl ntmps42 rfl<|?_;have aO:=St.s0 w;refine(dq) aO fun b1 w1 a b st1=>?_;refine cj ?_;refine WC.kQ (t:=2) (v:=.bool (ay k)) st1 ?_<|?_
 ·
  refine(aZ) aN st1.b0<|(dc) (fun g6=>?_) (fun g6=>?_)
  ·
   exact(gz) (by unfold ay;simp only [g6];first | rfl | simp) (st1)
  refine(aZ) aN st1.b0<|(dc) (fun g11=>?_) (fun g11=>?_)
  ·
   exact(gz) (by unfold ay;simp only [g6,g11];first | rfl | simp) (st1)
  refine(aZ) aN st1.b0<|?_;exact(gz) (by unfold ay;simp only [g6,g11];first | rfl | simp) (st1)
 intro w2 st2;refine(bs) ?_;exact⟨rfl,(St.cg st2)⟩
theorem nJ :CR prog 111 #[k.val] w (.bool (decide (k.kind=31) || decide (k.kind=32))):=by
 refine enter func111 rfl ntmps111 rfl<|?_;have aO:=St.s0 w;refine(dq) aO fun b1 w1 a b st1=>?_;refine cj ?_;refine WC.kQ (t:=2) (v:=.bool (decide (k.kind=31) || decide (k.kind=32))) st1 ?_<|?_
 ·
  refine(aZ) aN st1.b0<|(dc) (fun g6=>?_) (fun g6=>?_)
  ·
   exact(gz) (by simp only [g6];first | rfl | simp) (st1)
  refine(aZ) aN st1.b0<|?_;exact(gz) (by simp only [g6];first | rfl | simp) (st1)
 intro w2 st2;refine(bs) ?_;exact⟨rfl,(St.cg st2)⟩
theorem fJ(hk:cX k):CR prog 117 #[k.val] w (.bool (decide (k.kind=32))):=by
 refine enter func117 rfl ntmps117 rfl<|?_;have aO:=St.s0 w;refine(dq) aO fun b1 w1 a b st1=>?_;refine cj ?_;refine WC.kQ (t:=2) (v:=.bool (decide (k.kind=32))) st1 ?_<|?_
 ·
  refine(aZ) aN st1.b0<|(dc) (fun g6=>?_) (fun g6=>?_)
  ·
   exact(gz) (by simp only [g6];first | done | rfl | simp) (st1)
  refine(aZ) aN st1.b0<|(bX) Xp (Cx (n:=k.kind)) ?_;rintro _ w2 ⟨rfl,s2⟩;rw [show(decide (1≤k.kind) && decide (k.kind≤22))=false by(rcases hk with h | h <;> simp <;> omega)];have st2:=st1.step s2;exact(gz) (by simp only [g6];first | done | rfl | simp) (st2)
 intro w2 st2;refine(bs) ?_;exact⟨rfl,(St.cg st2)⟩
theorem lj{n:Nat}(hk:30≤k.kind∧k.kind≤32) (ht:k.text=itoa n) (hn:n≤99):CR prog 113 #[k.val] w (.int .i64 (n:Int)):=by
 obtain⟨kd,j⟩:=k;simp only at hk ht;subst ht;refine enter func113 rfl ntmps113 rfl<|?_;have aO:=St.s0 w;refine(dq) aO fun b1 w1 l o st1=>?_;refine(aZ) aN st1.b0<|(bX) O9 (vE (n:=kd)) ?_;rintro _ w2 ⟨rfl,s2⟩;rw [show(decide (30≤kd) && decide (kd≤32))=true by(simp;omega)];have st2:=st1.step s2;refine bY ?_;refine WC.eA rfl<|(aZ) fh st2.b0<|(eS) (EV hn w2) st2 fun w3 q b=>?_;refine kI ?_;refine WC.dU (t:=31) (v:=.bool false) b ?_<|?_
 ·
  have u:=b.bL;refine WC.dB (m:=15) (E:=cA [(12,fun v _=>v=.string (itoa n))]) b (bj (⟨fun _ _ _ _ _ _ _ h=>h,trivial⟩)) mixed (by kernel_rfl)<|nx ?_;refine DP .r (fun _ g=>PV.QB zl rfl)<|nx ?_;refine DW.cI (t:=17) rfl (fun g17=>?_) (fun g17=>?_)
  ·
   refine(cP) ?_;rintro w4 ⟨c,a⟩ _;exact(cw) (tG g17) (a)
  refine cj ?_;refine DW.cI (t:=21) rfl (fun g21=>?_) (fun g21=>?_)
  ·
   refine(cP) ?_;rintro w4 ⟨c,a⟩ _;exact(cw) (tG (aj g17 g21)) (a)
  refine cj ?_;refine DW.cI (t:=25) rfl (fun d=>?_) (fun d=>?_)
  ·
   refine(cP) ?_;rintro w4 ⟨c,a⟩ _;exact(cw) (tG (aj g17<|aj g21 d)) (a)
  refine nx ?_;refine DW.c0 (fun i g y=>ji (n:=(n:Int)) (by omega) (by omega) i)<|(il) fh St.g0<|(cP)<|?_;rintro w4 ⟨c,a⟩ ⟨_,_⟩;exact(cw) (tG (aj g17<|aj g21 d)) (a)
 intro w4 a;refine(aR) (fun e=>?_) fun e=>?_
 ·
  exact absurd e (by simp)
 ·
  refine(bs) ?_;exact⟨rfl,(St.cg a)⟩
 -- z B C.T
theorem hM{n:Nat}(hk:30≤k.kind∧k.kind≤32) (ht:k.text=itoa n) (hn:n≤99):CR prog 110 #[k.val] w (.bool true):=by
 refine enter func110 rfl ntmps110 rfl<|?_;have aO:=St.s0 w;refine(dq) aO fun b1 w1 b c st1=>?_;refine(aZ) aN st1.b0<|(bX) O9 (vE (n:=k.kind)) ?_;rintro _ w2 ⟨rfl,s2⟩;rw [show(decide (30≤k.kind) && decide (k.kind≤32))=true by(simp;omega)];have st2:=st1.step s2;refine bK ?_;refine WC.oo rfl<|(aY) ao st2.b0<|(eS) (lj (k:=k) hk ht hn) st2 fun w3 d a=>?_;refine(bs) ?_;exact⟨by simp,(St.cg a)⟩
theorem n9{a:Option Addr}{r c:Nat}(hr:fK A w a r c aa):CR prog 112 #[.slice a r c,.int .i64 n] w ((aM aa n).val):=by
 have hle:=hr.le;have hlen:=hr.len;refine enter func112 rfl ntmps112 rfl<|?_;have aO:=St.s0 w;refine(eN) aO fun b4 w1 o q st1=>?_;refine cj ?_;refine WC.dU (t:=17) (v:=.bool (decide (n<0) || (decide ((r:Int)≤n) || decide (99<n)))) st1 ?_<|?_
 ·
  refine(dc) (fun g8=>?_) (fun g8=>?_)
  ·
   exact(cw) (by simp only [g8];first | rfl | simp) (st1)
  refine(dc) (fun g14=>?_) (fun g14=>?_)
  ·
   exact(cw) (by simp only [g8,g14];first | rfl | simp) (st1)
  exact(cw) (by simp only [g8,g14];first | rfl | simp) (st1)
 intro w2 st2;refine(aR) (fun g17=>?_) fun g17=>?_
 ·
  have hk:aM aa n=eU:=by unfold aM;rw [if_pos (by simp at g17;omega)]
  refine(cF) gQ st2 fun w3 u y b=>?_;refine(kR) ao b.b0<|?_;rw [hk];exact⟨rfl,(St.cg b)⟩
 simp at g17
 obtain⟨i,rfl⟩:∃i:Nat,n=i:=⟨n.toNat,by omega⟩
 have hi:i<aa.length:=by omega
 have hk:aM aa i=⟨if aF aa i then 32 else 31,itoa i⟩:=by unfold aM;rw [if_neg (by omega)];rfl
 have g:=bW hi;refine kI ?_;obtain⟨z,B,C,h,_,⟨q1,F,G,rfl,_⟩,l,_⟩:=(hr.ext (St.cg st2)).at (ak hi);refine bY ?_;refine WP .r (PV.dI jh h rfl rfl (by omega))<|nx ?_;refine WP .r (PV.ld1 (j:=0) dG l rfl rfl)<|(aR) (fun g23=>?_) fun g23=>?_
 ·
  have e:aM aa i=⟨32,itoa i⟩:=by rw [hk,g,g23];rfl
  refine(eS) (ji (n:=(i:Int)) (by omega) (by omega) w2) st2 fun w3 m b=>?_;refine WP .r (PV.bz (us:=_) B4 rfl rfl rfl)<|(cF) gQ b fun w4 H I d=>?_;refine(kR) ao d.b0<|?_;rw [e];exact⟨rfl,(St.cg d)⟩
 have e:aM aa i=⟨31,itoa i⟩:=by rw [hk,g,g23];rfl
 refine(eS) (ji (n:=(i:Int)) (by omega) (by omega) w2) st2 fun w3 m b=>?_;refine WP .r (PV.bz (us:=_) B4 rfl rfl rfl)<|(cF) gQ b fun w4 J K d=>?_;refine(kR) ao d.b0<|?_;rw [e];exact⟨rfl,(St.cg d)⟩
set_option maxHeartbeats 400000
set_option maxRecDepth 1000000 in
theorem kP(b:s.size≤1000):CR prog 360 #[.string s] w (.string s):=by
 refine enter func360 rfl ntmps360 rfl<|?_;have aO:=St.s0 w;refine aX ?_;refine(aR) (fun g6=>?_) fun g6=>?_
 ·
  refine(bs) ?_;exact⟨by rw [show s=⟨#[]⟩ from ByteArray.ext (Array.eq_empty_of_size_eq_zero (show s.size=0 by have:=of_decide_eq_true g6;omega))],(St.cg aO)⟩
 have h0:s.size≠0:=by have:=of_decide_eq_false g6;omega
 obtain⟨i,hi,a⟩:=Option.map_eq_some_iff.1 (show(prog.info? 5).map (fun i=>(i.zero,i.size,i.bytes))=some (some (.int .u8 0),1,1) by kernel_rfl);simp only [Prod.mk.injEq] at a;obtain⟨c,h1,hb⟩:=a;obtain⟨u1,d,e,k1,k2,k3,hc⟩:=yH (S:=9) (it:=3) (ty1:=3) (ty2:=9) underlying219 hi c h1 hb underlying564 h0 b w;refine fO ?_;refine WL.go rfl (OX.Vv rfl rfl rfl k1 ?_);refine ed ?_;refine WL.go rfl (OX.Vw rfl rfl rfl k2 ?_);refine db ?_;refine WP .r (PV.DJ OT 0 (show some (⟨w.heap.size,0,none⟩:Addr)=some ⟨w.heap.size,0,none⟩ from rfl) rfl rfl rfl (by omega))<|bK ?_;refine WL.go rfl (OX.ach rfl rfl rfl k3 ?_);refine(bs) ?_;exact⟨rfl,hc⟩
theorem wH(d:s.size≤1000) (g:w.cell? ⟨2,0,none⟩=some .nilIface):Calls prog 262 #[.string f,.string s] w fun e w'=>∃b,e=.returned (.pointer (some ⟨b,0,none⟩))∧aS [] w w':=by
 have hr:w.rangeAt 2 0 [.nilIface]:=fun j v a=>by
  cases j with
  | zero=>simp at a;subst a;exact g
  | succ j=>simp at a
 refine enter func262 rfl ntmps262 rfl<|?_;have aO:=St.s0 w;refine fO ?_;have i:=aO.bL;refine WC.dB (m:=4) (E:=cA [(2,fun v _=>v=.string s)]) aO (bj (⟨fun _ _ _ _ _ _ _ h=>h,trivial⟩)) mixed (by kernel_rfl)<|bK ?_;refine DW.c0 (fun l c o=>kP d)<|?_;refine DP .r (fun _ c=>PV.mf zm (aW hr (St.cg c.2) (by simp)) rfl rfl)<|(cP)<|?_;rintro w1 ⟨q,st1⟩ ⟨_,_⟩;refine WP .r (PV.bz (us:=[.string f,.string s,.nilIface]) Gz rfl rfl rfl)<|(dq) st1 fun u w2 y z st2=>?_;refine(bs) ?_;exact⟨_,rfl,(St.cg st2)⟩
theorem wI(d:s.size≤1000) (g:w.cell? ⟨2,0,none⟩=some (.iface t p)):Calls prog 262 #[.string f,.string s] w fun e w'=>∃b,e=.returned (.pointer (some ⟨b,0,none⟩))∧aS [] w w':=by
 have hr:w.rangeAt 2 0 [(.iface t p)]:=fun j v a=>by
  cases j with
  | zero=>simp at a;subst a;exact g
  | succ j=>simp at a
 refine enter func262 rfl ntmps262 rfl<|?_;have aO:=St.s0 w;refine fO ?_;have i:=aO.bL;refine WC.dB (m:=4) (E:=cA [(2,fun v _=>v=.string s)]) aO (bj (⟨fun _ _ _ _ _ _ _ h=>h,trivial⟩)) mixed (by kernel_rfl)<|bK ?_;refine DW.c0 (fun l c o=>kP d)<|?_;refine DP .r (fun _ c=>PV.mf zm (aW hr (St.cg c.2) (by simp)) rfl rfl)<|(cP)<|?_;rintro w1 ⟨q,st1⟩ ⟨_,_⟩;refine WP .r (PV.bz (us:=[.string f,.string s,(.iface t p)]) Gz rfl rfl rfl)<|(dq) st1 fun u w2 y z st2=>?_;refine(bs) ?_;exact⟨_,rfl,(St.cg st2)⟩
theorem afq:prog.globalNamed "strconv.ErrSyntax" = some 2:=by kernel_rfl
theorem zJ(ht:lq prog A w) (a:s.size≤1000):Calls prog 262 #[.string f,.string s] w fun e w'=>∃b,e=.returned (.pointer (some ⟨b,0,none⟩))∧aS [] w w':=by
 obtain⟨ev,c,d⟩:=ht.err (.inl rfl) afq
 rcases d with rfl | ⟨t,p,rfl⟩
 ·
  exact wH a c
 exact wI a c
theorem wJ(d:s.size≤1000) (g:w.cell? ⟨3,0,none⟩=some .nilIface):Calls prog 263 #[.string f,.string s] w fun e w'=>∃b,e=.returned (.pointer (some ⟨b,0,none⟩))∧aS [] w w':=by
 have hr:w.rangeAt 3 0 [.nilIface]:=fun j v a=>by
  cases j with
  | zero=>simp at a;subst a;exact g
  | succ j=>simp at a
 refine enter func263 rfl ntmps263 rfl<|?_;have aO:=St.s0 w;refine fO ?_;have i:=aO.bL;refine WC.dB (m:=4) (E:=cA [(2,fun v _=>v=.string s)]) aO (bj (⟨fun _ _ _ _ _ _ _ h=>h,trivial⟩)) mixed (by kernel_rfl)<|bK ?_;refine DW.c0 (fun l c o=>kP d)<|?_;refine DP .r (fun _ c=>PV.mf zm (aW hr (St.cg c.2) (by simp)) rfl rfl)<|(cP)<|?_;rintro w1 ⟨q,st1⟩ ⟨_,_⟩;refine WP .r (PV.bz (us:=[.string f,.string s,.nilIface]) Gz rfl rfl rfl)<|(dq) st1 fun u w2 y z st2=>?_;refine(bs) ?_;exact⟨_,rfl,(St.cg st2)⟩
theorem wK(d:s.size≤1000) (g:w.cell? ⟨3,0,none⟩=some (.iface t p)):Calls prog 263 #[.string f,.string s] w fun e w'=>∃b,e=.returned (.pointer (some ⟨b,0,none⟩))∧aS [] w w':=by
 have hr:w.rangeAt 3 0 [(.iface t p)]:=fun j v a=>by
  cases j with
  | zero=>simp at a;subst a;exact g
  | succ j=>simp at a
 refine enter func263 rfl ntmps263 rfl<|?_;have aO:=St.s0 w;refine fO ?_;have i:=aO.bL;refine WC.dB (m:=4) (E:=cA [(2,fun v _=>v=.string s)]) aO (bj (⟨fun _ _ _ _ _ _ _ h=>h,trivial⟩)) mixed (by kernel_rfl)<|bK ?_;refine DW.c0 (fun l c o=>kP d)<|?_;refine DP .r (fun _ c=>PV.mf zm (aW hr (St.cg c.2) (by simp)) rfl rfl)<|(cP)<|?_;rintro w1 ⟨q,st1⟩ ⟨_,_⟩;refine WP .r (PV.bz (us:=[.string f,.string s,(.iface t p)]) Gz rfl rfl rfl)<|(dq) st1 fun u w2 y z st2=>?_;refine(bs) ?_;exact⟨_,rfl,(St.cg st2)⟩
theorem afr:prog.globalNamed "strconv.ErrRange" = some 3:=by kernel_rfl
theorem zK(ht:lq prog A w) (a:s.size≤1000):Calls prog 263 #[.string f,.string s] w fun e w'=>∃b,e=.returned (.pointer (some ⟨b,0,none⟩))∧aS [] w w':=by
 obtain⟨ev,c,d⟩:=ht.err (.inr rfl) afr
 rcases d with rfl | ⟨t,p,rfl⟩
 ·
  exact wJ a c
 exact wK a c
theorem Cy(ht:lq prog A w) (a:s.size≤1000):Calls prog 205 #[.string f,.string s,.int .i64 0,.int .i64 0,.iface 296 (.int .i64 2)] w fun e w'=>∃b,e=.returned (.iface 299 (.pointer (some ⟨b,0,none⟩)))∧aS [] w w':=by
 refine enter func205 rfl ntmps205 rfl<|?_;have aO:=St.s0 w;refine aX ?_;refine bK ?_;refine WP .r (PV.Jb underlying296 (by intro ms h;cases h) rfl)<|WP .r (PV.QD underlying189 (by kernel_rfl) underlying296 rfl rfl)<|(aR) (fun g12=>?_) fun g12=>?_
 ·
  refine(bX) XT (zJ (ht.ext (St.cg aO)) a) ?_;rintro _ w1 ⟨b,rfl,s1⟩;have st1:=aO.step s1;refine WP .r (PV.Jb underlying299 (by intro ms h;cases h) rfl)<|(bs) ?_;exact⟨_,rfl,(St.cg st1)⟩
 ·
  exact dm g12
 -- g i j c.0 c.1 d.2 d.3 l
theorem Cz(ht:lq prog A w) (a:s.size≤1000):Calls prog 205 #[.string f,.string s,.int .i64 0,.int .i64 0,.iface 296 (.int .i64 1)] w fun e w'=>∃b,e=.returned (.iface 299 (.pointer (some ⟨b,0,none⟩)))∧aS [] w w':=by
 refine enter func205 rfl ntmps205 rfl<|?_;have aO:=St.s0 w;refine aX ?_;refine bK ?_;refine WP .r (PV.Jb underlying296 (by intro ms h;cases h) rfl)<|WP .r (PV.QD underlying189 (by kernel_rfl) underlying296 rfl rfl)<|(aR) (fun g12=>?_) fun g12=>?_
 ·
  exact dm g12
 ·
  refine bK ?_;refine WP .r (PV.Jb underlying296 (by intro ms h;cases h) rfl)<|WP .r (PV.QD underlying189 (by kernel_rfl) underlying296 rfl rfl)<|(aR) (fun g19=>?_) fun g19=>?_
  ·
   refine(bX) XU (zK (ht.ext (St.cg aO)) a) ?_;rintro _ w1 ⟨b,rfl,s1⟩;have st1:=aO.step s1;refine WP .r (PV.Jb underlying299 (by intro ms h;cases h) rfl)<|(bs) ?_;exact⟨_,rfl,(St.cg st1)⟩
  exact dm g19
 -- d g c.2 c.3 i
theorem CB{ev:Value}(ht:lq prog A w) (a:s.size≤1000) (he:ev=.iface 296 (.int .i64 2)∨ev=.iface 296 (.int .i64 1)):Calls prog 205 #[.string f,.string s,.int .i64 0,.int .i64 0,ev] w fun e w'=>∃b,e=.returned (.iface 299 (.pointer (some ⟨b,0,none⟩)))∧aS [] w w':=by
 rcases he with rfl | rfl
 ·
  exact Cy ht a
 exact Cz ht a
theorem KN(ht:lq prog A w) (a:s.size≤1000):Calls prog 152 #[.string s] w fun e w'=>∃(v:Int) (ok:Bool) (ev:Value),e=.returned (.tuple #[.int .i64 v,ev])∧(-9223372036854775808≤v∧v≤9223372036854775807)∧((ok=true∧ev=.nilIface)∨(ok=false∧∃t y,ev=.iface t y))∧aS [] w w':=by
 refine enter func152 rfl ntmps152 rfl<|?_;have aO:=St.s0 w;refine(bX) XI (Cw a w) ?_;rintro _ w1 ⟨v,ok,ev,rfl,c,d,g,s1⟩;have st1:=aO.step s1;refine jT ?_;refine WP .r (PV.Vt zl rfl d)<|(aR) (fun g12=>?_) fun g12=>?_
 ·
  refine(bX) XJ (CB (ht.ext (St.cg st1)) a (g (by simpa using g12))) ?_;rintro _ w2 ⟨b,rfl,s2⟩;have st2:=st1.step s2;refine(yE) ?_;exact⟨v,false,_,rfl,c,.inr ⟨rfl,_,_,rfl⟩,(St.cg st2)⟩
 refine(yE) ?_;exact⟨v,true,.nilIface,rfl,c,.inl ⟨rfl,rfl⟩,(St.cg st1)⟩
end Go.Rc

