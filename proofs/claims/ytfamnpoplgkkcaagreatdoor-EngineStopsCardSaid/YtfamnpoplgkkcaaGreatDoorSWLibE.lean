/- Walks over the program, part WLibE. Conditions: as each theorem says. -/
import Derived.Test.YtfamnpoplgkkcaaGreatDoorSFacts
import Derived.Test.YtfamnpoplgkkcaaGreatDoorSWK
import Derived.Test.YtfamnpoplgkkcaaGreatDoorSBe
import Derived.Test.YtfamnpoplgkkcaaGreatDoorSWB
import Derived.Test.YtfamnpoplgkkcaaGreatDoorSBd
import Derived.Test.YtfamnpoplgkkcaaGreatDoorShelf
import Derived.Test.YtfamnpoplgkkcaaGreatDoorSWD
import Derived.Test.YtfamnpoplgkkcaaGreatDoorSBf
import Derived.Test.YtfamnpoplgkkcaaGreatDoorSBb
set_option linter.all false
namespace Go.Rc
open Go Go.Proofs Go.Proofs.Tryz
variable {aa:List aG}{x:cz}{D:SD}{xb bb:Nat}{w:World}{M Z A:Nat→Prop}{s f:ByteArray}{E:EA}{k:Key}{s':ES}{n:Int}{t:TypeId}{p:Value}
set_option maxHeartbeats 400000
def UpC(aa:List aG) (x:cz) (D:SD) (xb bb f:Nat):Prop:=∀(w:World) (M Z:Nat→Prop) (s:ES) (E:EA) (k:Key) (s':ES),St w M Z w [As.blk xb 153 (E.cells D.s bb s),As.jH prog 137 aa x D,As.map Key.val bb s.busy,As.os RR.key 41 2 E.a3 E.n3 E.c3 s.bf]→Rd RR.aD 4 Z w E.a1 E.n1 E.c1 s.b.ab→Rd RR.ew 8 Z w E.a2 E.n2 E.c2 s.b.ah→Good aa x.ab s→eA aa k→kZ aa (valOf aa x.ab) f s k=some s'→s'.bf.length≤1000000→
 Calls prog 102 #[.pointer (some ⟨xb,0,none⟩),k.val] w fun e w'=>∃(E':EA) (Z':Nat→Prop),e=.returned (.tuple #[])∧bJ w.heap.size Z Z'∧Rd RR.aD 4 Z' w' E'.a1 E'.n1 E'.c1 s'.b.ab∧Rd RR.ew 8 Z' w' E'.a2 E'.n2 E'.c2 s'.b.ah∧St w M Z' w' [As.blk xb 153 (E'.cells D.s bb s'),As.jH prog 137 aa x D,As.map Key.val bb s'.busy,As.os RR.key 41 2 E'.a3 E'.n3 E'.c3 s'.bf]
set_option maxHeartbeats 1600000 in
theorem CJ{s:ES}{f:Nat}{r:Bool}(hR:aq aa) (gp:St w M Z w [As.blk xb 153 (E.cells D.s bb s),As.jH prog 137 aa x D,As.map Key.val bb s.busy,As.os RR.key 41 2 E.a3 E.n3 E.c3 s.bf]) (hi:Rd RR.aD 4 Z w E.a1 E.n1 E.c1 s.b.ab) (hr:Rd RR.ew 8 Z w E.a2 E.n2 E.c2 s.b.ah) (FP:Good aa x.ab s) (Is:s.b.ab.length≤1000000) (j8:∀g,g<f→UpC aa x D xb bb g) (K9:cP aa (valOf aa x.ab) f s k 0=some (s',r)) (zQ:s'.bf.length≤1000000):Calls prog 146 #[.pointer (some ⟨xb,0,none⟩),k.val] w fun e w'=>∃(u:EA) (Z':Nat→Prop),e=.returned (.bool r)∧bJ w.heap.size Z Z'∧Rd RR.aD 4 Z' w' u.a1 u.n1 u.c1 s'.b.ab∧Rd RR.ew 8 Z' w' u.a2 u.n2 u.c2 s'.b.ah∧St w M Z' w' [As.blk xb 153 (u.cells D.s bb s'),As.jH prog 137 aa x D,As.map Key.val bb s'.busy,As.os RR.key 41 2 u.a3 u.n3 u.c3 s'.bf]:=by
 refine enter func146 rfl ntmps146 rfl<|?_;have aQ:=gp;have st1:=aQ.fr hi;have st2:=st1.fr hr;refine(dz) st2 fun b3 w1 Ib wO ir=>?_;refine i7 ?_;refine WC.gY (σ:=Nat × ES × EA × Nat × (Nat→Prop)) (dn:=fun(y,s1,a,ix,P)=>[(0,.pointer (some ⟨xb,0,none⟩)),(3,.pointer (some ⟨b3,0,none⟩)),(5,.int .i64 (ix:Int))]) (F:=fun(y,s1,a,ix,P)=>[As.blk xb 153 (a.cells D.s bb s1),As.map Key.val bb s1.busy,As.os RR.key 41 2 a.a3 a.n3 a.c3 s1.bf,As.ro RR.aD 4 a.a1 a.n1 a.c1 s1.b.ab,As.ro RR.ew 8 a.a2 a.n2 a.c2 s1.b.ah]) (I:=fun(y,s1,a,ix,P)=>(cP aa (valOf aa x.ab) y s1 k ix=some (s',r))∧(Good aa x.ab s1)∧(y≤f)∧(bJ w.heap.size Z P)∧True) (μ:=fun(y,s1,a,ix,P)=>y) (Zf:=fun(y,s1,a,ix,P)=>P) (f,s,E,0,Z) (ir.p1.p2.p6.p6.p5) Sub.t (⟨K9,FP,Nat.le_refl _,bJ.refl _ _,trivial⟩)<|?_;rintro⟨y,s1,a,ix,P⟩ w2 C ⟨d,z,hfu,S,_⟩;simp only [CA,NA] at C d z hfu S ⊢
 obtain⟨T,rfl⟩:∃g,y=g+1:=by cases y with | zero=>simp [cP] at d | succ g=>exact⟨g,rfl⟩
 unfold cP at d
 have hl4:=z.len
 have afn:s1.b.ab.length≤1000000:=by rw [z.aD,← FP.aD];exact Is
 refine(aZ) yi C.b0<|(aS) (fun g17=>?_) fun g17=>?_
 ·
  simp at g17
  rw [if_neg (by simp [g17])] at d;refine ck ?_;have DU:=C.bQ;have La:=C.jG;have Lb:=C.size;refine WC.pa (m:=11) [9] (E:=cF [(6,fun v _=>∃f1 f2 f3,v=.tuple #[.agg ((aC s1.b.ah k).row f1 f2 f3).toArray,.bool (aB s1.b.ah k).isSome]),(10,PB w2.heap.size 47 [.int .i64 0,.string ⟨#[]⟩,.string ⟨#[]⟩,.slice none 0 0,.int .i64 0,.int .i64 0,.int .i64 0,.bool false])]) C (bj (⟨fun _ _ _ _ _ _ _ h=>h,⟨fun _ _ _ _ _ _ c h=>PB.st DU c h,trivial⟩⟩)) mixed (by kernel_rfl) rfl ?_;refine ck ?_;refine DP .r (fun _ i=>PV.ld1 (j:=3) dF (bR.range (As.gb i.2.g0)) rfl rfl)<|(gU) ao St.g5<|?_;refine DW.e rfl rfl rfl rfl rfl (fun wx i hF=>OX.call ou rfl rfl ((dZ (k:=k) (As.gr i.2.g4)).mono ?_))<|?_
  ·
   rintro _ wy ⟨f1,f2,f3,rfl,l⟩;exact⟨_,rfl,⟨Nat.le_trans i.1 l.size,i.2.step l⟩,l.p0,_,rfl,⟨f1,f2,f3,rfl⟩⟩
  rintro _ wz _ ⟨f1,f2,f3,rfl⟩;refine cm ?_;refine DW.e rfl rfl rfl rfl rfl (fun wx i hF=>OX.alloc nJ rfl fun b wy G hb=>⟨⟨Nat.le_trans i.1 G.ext.size,i.2.step G.ext⟩,G.ext.p0,_,rfl,_,rfl,Nat.le_trans i.1 G.ge,hb⟩)<|?_;rintro _ wz _ ⟨b6,rfl,_,_⟩;refine(cS) ?_;rintro w3 ⟨pI,iY⟩ ⟨zM,⟨_,_⟩⟩;have hM:=iY.tt zM DU La Lb;refine(cI) fI hM fun w4 jW ka hh=>?_;refine nx ?_;refine WL.nil (EX.np ?_);refine cm ?_;refine WC.dJ (t:=33) (v:=.bool (!(aB s1.b.ah k).isSome || (aC s1.b.ah k).bp)) hh ?_<|?_
  ·
   refine(de) (fun U4=>?_) (fun U4=>?_)
   ·
    exact(bZ) (by simp only [U4];first | rfl | simp) (hh)
   refine(aZ) dA hh.b0<|?_;exact(bZ) (by simp only [U4];first | rfl | simp) (hh)
  intro w5 U;refine(aS) (fun g33=>?_) fun g33=>?_
  ·
   rw [if_pos g33] at d;simp only [Option.some.injEq,Prod.mk.injEq] at d;obtain⟨o,q⟩:=d;subst o;subst q;refine(bA) ?_;exact⟨a,_,rfl,S,(As.gr U.g4),(As.gr U.g5),U.p3.p3.p7.p4.k4⟩
  rw [if_neg (by rw [g33];simp)] at d;refine ck ?_;have Tj:=U.bQ;refine WC.dS (m:=7) U mixed<|(iD) aO St.g0<|ck ?_;refine DP .r (fun _ i=>PV.ld1 (j:=1) aO (bR.range (As.gb i.2.g1)) rfl rfl)<|(cS)<|?_;rintro w6 ⟨tM,V⟩ _;refine(aS) (fun W=>?_) fun W=>?_
  ·
   simp at W
   rw [if_pos W] at d;simp only [Option.some.injEq,Prod.mk.injEq] at d;obtain⟨o,q⟩:=d;subst o;subst q;refine(bA) ?_;exact⟨a,_,rfl,S,(As.gr V.g4),(As.gr V.g5),V.p3.p3.p7.p4.k4⟩
  simp at W
  rw [if_neg W] at d;refine cm ?_;have PW:=V.bQ;refine WC.dS (m:=11) V mixed<|ck ?_;refine DP .r (fun _ i=>PV.ld1 (j:=3) dF (bR.range (As.gb i.2.g1)) rfl rfl)<|ck ?_;refine DP .r (fun _ i=>PV.ld1 (j:=1) aO (bR.range (As.gb i.2.g1)) rfl rfl)<|(gU) ao St.g6<|(cS)<|?_;rintro w7 ⟨mf,eE⟩ _;have di:=eE;refine(bY) PI (vJ di.e0 (As.gr di.g5) (by omega)) ?_;rintro _ w8 ⟨q1,q2,q3,Z2,rfl,vK,kG⟩;have cX:=St.lv di kG vK;have LY:=ko s1.b.ah s1.b.ad k;have hgg:=St.bN kG;have oz:=di.size;have afq:=S.trans vK oz;have dm:=cX.a8 (by omega);have mC:=afq.trans (bJ.dC (F:=fun x=>x∈aJ q1) hgg) oz;refine kU ?_;refine WP .r (PV.ld1 (j:=3) dF dm.b2 rfl rfl)<|nx ?_;have X:=dm;refine(bY) PH (qI X.e0 (As.gr X.g6) (As.gr X.g0) (yZ z (by omega))) ?_;rintro _ w9 ⟨p1,p2,p3,Z3,rfl,qO,nL⟩;have R:=St.lv X nL qO;have Y:=mC.trans qO X.size;have Hf:=((As.gs R.g0)).len;have hca:=tT z (group:=(aA s1.b.ah s1.b.ad k)) (by omega);refine(aS) (fun g64=>?_) fun g64=>?_
  ·
   simp at g64
   have Mn:(bB s1.b.ah (aA s1.b.ah s1.b.ad k))[ix]?=none:=List.getElem?_eq_none (by omega);rw [Mn] at d;simp only [] at d;simp only [Option.some.injEq,Prod.mk.injEq] at d;obtain⟨o,q⟩:=d;subst o;subst q;refine(ia) aN R.b3<|nx ?_;have H:=R;refine(bY) G5 (mg H.e0 (As.gr H.g6) (As.gr H.g7) (As.gr H.g1) (by omega) (by omega)) ?_;rintro _ iP ⟨m1,m2,m3,m4,m5,m6,Z4,rfl,CK,mF⟩;have L:=St.lv H mF CK;have qP:=Y.trans CK H.size;have AZ:=St.bN mF;have FQ:=St.bN mF.p1;have si:=H.size;refine bO ?_;refine WL.go rfl (OX.QL dP (As.gb L.g5) rfl rfl rfl rfl rfl fun iW ry mu=>?_);have N:=L.p5.Bt ry mu;refine nx ?_;have J:=N.rH (B:=As.blk xb 153 (EA.cells ⟨m1,m4,a.a3,m2,m3,m5,m6,a.n3,a.c3⟩ D.s bb {s1 with b:=cL s1.b (aA s1.b.ah s1.b.ad k) false})) (rfl)
   have YU:(cL s1.b (aA s1.b.ah s1.b.ad k) false).ah.length=s1.b.ah.length:=by simp [cL]
   have Ti:(cL s1.b (aA s1.b.ah s1.b.ad k) false).ab=s1.b.ab:=rfl;have dI:=J.p1.a8 (by rw [Ti];omega);have O:=dI.p2.a8 (by omega);have yv:=(qP.trans (bJ.dC (F:=fun x=>x∈aJ m1) AZ) si).trans (bJ.dC (F:=fun x=>x∈aJ m4) FQ) si;refine(bA) ?_;exact⟨⟨m1,m4,a.a3,m2,m3,m5,m6,a.n3,a.c3⟩,_,rfl,yv,(As.gr O.g1),(As.gr O.g0),O.p7.p7.kE.p5.k4⟩
  simp at g64
  obtain⟨ch,pP⟩:∃ch,(bB s1.b.ah (aA s1.b.ah s1.b.ad k))[ix]?=some ch:=⟨_,ak (by omega)⟩;rw [pP] at d;simp only [] at d;have IX:=fO z pP;refine cm ?_;obtain⟨gJ,cR⟩:=Ow.addr (As.gs R.g0) pP;refine cm ?_;refine WP .r (PV.dV G0 cR rfl rfl (by omega))<|(aX) zw (Ow.jD (As.gs R.g0) (by omega) cR pP)<|(eT) R fun K6 iP FL FM H=>?_;refine(cI) Kx H fun iW zH tR L=>?_;refine(ia) ao L.b0<|(eV) (CI (k:=ch.read) (sb:=D.s) (s:=s1) (E:=a) (As.gb L.g4) (As.gm L.g5) z.busy (As.gr L.g8)) L fun lB s12 N=>?_;refine(aS) (fun YV=>?_) fun YV=>?_
  ·
   simp at YV
   rw [if_pos YV] at d;obtain⟨t,P4,FR⟩:=Option.bind_eq_some_iff.1 d;have Me:=(cA hR T).1 _ _ _ P4 z IX;have YW:=(cA hR T).2.1 _ _ _ _ _ FR Me.1;refine(ia) ao N.b0<|?_;have J:=N.p6.p6.kD.p7;refine(bY) KG (j8 T (by omega) _ _ _ _ _ _ _ J.e4 (As.gr J.g8) (As.gr J.g9) z IX P4 (by have:=YW.2.bf;omega)) ?_;rintro _ oh ⟨E2,Z5,rfl,vL,Mf,hr5,Lc⟩;have dI:=St.lv J Lc vL;have yv:=Y.trans vL J.size;have O:=dI.fr (Mf);have dN:=O.fr (hr5);have Q:=dN.kD.drop;have K:=Q.kD.drop;refine dd ?_;refine ez (T,t,E2,ix,Z5) ⟨K.p6.drop.p6.drop.p6.drop.p6.drop.p6.p1.p2.p6.p6.p5,⟨FR,Me.1,by omega,yv,trivial⟩⟩
  simp at YV
  rw [if_neg (by rw [YV];simp)] at d;refine cm ?_;have To:=N.bQ;have YX:=N.jG;have YY:=N.size;refine WC.pa (m:=12) [10] (E:=cF [(7,fun v _=>∃f1 f2 f3,v=.tuple #[.agg ((aC s1.b.ah ch.dE).row f1 f2 f3).toArray,.bool (aB s1.b.ah ch.dE).isSome]),(11,PB lB.heap.size 47 [.int .i64 0,.string ⟨#[]⟩,.string ⟨#[]⟩,.slice none 0 0,.int .i64 0,.int .i64 0,.int .i64 0,.bool false])]) N (bj (⟨fun _ _ _ _ _ _ _ h=>h,⟨fun _ _ _ _ _ _ c h=>PB.st To c h,trivial⟩⟩)) mixed (by kernel_rfl) rfl ?_;refine ck ?_;refine DP .r (fun _ i=>PV.ld1 (j:=3) dF (bR.range (As.gb i.2.g4)) rfl rfl)<|(tv) ao St.g0<|?_;refine DW.e rfl rfl rfl rfl rfl (fun wx i hF=>OX.call ou rfl rfl ((dZ (k:=ch.dE) (As.gr i.2.g8)).mono ?_))<|?_
  ·
   rintro _ wy ⟨f1,f2,f3,rfl,l⟩;exact⟨_,rfl,⟨Nat.le_trans i.1 l.size,i.2.step l⟩,l.p0,_,rfl,⟨f1,f2,f3,rfl⟩⟩
  rintro _ wz _ ⟨f1,f2,f3,rfl⟩;refine cm ?_;refine DW.e rfl rfl rfl rfl rfl (fun wx i hF=>OX.alloc nJ rfl fun b wy G hb=>⟨⟨Nat.le_trans i.1 G.ext.size,i.2.step G.ext⟩,G.ext.p0,_,rfl,_,rfl,Nat.le_trans i.1 G.ge,hb⟩)<|?_;rintro _ wz _ ⟨b11,rfl,_,_⟩;refine(cS) ?_;rintro oh ⟨P5,J⟩ ⟨afu,⟨_,_⟩⟩;have dI:=J.tt afu To YX YY;refine(cI) fI dI fun sg L7 L8 O=>?_;refine nx ?_;refine WL.nil (EX.np ?_);refine cm ?_;have aoa:=O.bQ;refine WC.dD (m:=13) (E:=cF [(10,fun v _=>v=.int .i64 (aR (valOf aa x.ab) s1.b ch.read))]) O (bj (⟨fun _ _ _ _ _ _ _ h=>h,trivial⟩)) mixed (by kernel_rfl)<|(iD) Ku St.g5<|(tv) aN St.g5<|(tv) ao St.g1<|?_;refine DW.e rfl rfl rfl rfl rfl (fun wx i hF=>OX.call PO rfl rfl ((oQ (k:=ch.read) hR IX (i.2.one (.tail _ (.tail _ (.tail _ (.tail _ (.tail _ (.tail _ (.tail _ (.tail _ (.tail _ (.tail _ (.tail _ (.head _))))))))))))) (As.gr i.2.g8) (As.gr i.2.g9)).mono ?_))<|?_
  ·
   rintro _ wy ⟨rfl,l⟩;exact⟨_,rfl,⟨Nat.le_trans i.1 l.bW.size,i.2.xL iJ l⟩,l.bW.mono (fun _ _ hx=>Gw iJ hx),_,rfl,rfl⟩
  rintro _ wz _ rfl;refine(iD) aO St.g0<|(cS)<|?_;rintro pR ⟨YZ,dN⟩ ⟨_,_⟩;refine(aS) (fun Oz=>?_) fun Oz=>?_
  ·
   simp at Oz
   rw [if_pos Oz] at d;refine(aX) ao (bR.range (As.gb dN.g10))<|(eV) (df (k:=k)) dN fun tL S4 Q=>?_;refine(aS) (fun Tp=>?_) fun Tp=>?_
   ·
    rw [if_pos Tp] at d;simp only [Option.some.injEq,Prod.mk.injEq] at d;obtain⟨o,q⟩:=d;subst o;subst q;refine(ia) aN Q.b5<|nx ?_;have K:=Q;refine(bY) G5 (mg K.e0 (As.gr K.g8) (As.gr K.g9) (As.gr K.g3) (by omega) (by omega)) ?_;rintro _ zN ⟨m1,m2,m3,m4,m5,m6,Z4,rfl,CK,CL⟩;have dQ:=St.lv K CL CK;have qP:=Y.trans CK K.size;have AZ:=St.bN CL;have FQ:=St.bN CL.p1;have si:=K.size;refine bO ?_;refine WL.go rfl (OX.QL dP (As.gb dQ.g7) rfl rfl rfl rfl rfl fun yt Mg Ed=>?_);have eZ:=dQ.p7.Bt Mg Ed;refine nx ?_;have dB:=eZ.rH (B:=As.blk xb 153 (EA.cells ⟨m1,m4,a.a3,m2,m3,m5,m6,a.n3,a.c3⟩ D.s bb {s1 with b:=cL s1.b (aA s1.b.ah s1.b.ad k) true})) (rfl)
    have YU:(cL s1.b (aA s1.b.ah s1.b.ad k) true).ah.length=s1.b.ah.length:=by simp [cL]
    have Ti:(cL s1.b (aA s1.b.ah s1.b.ad k) true).ab=s1.b.ab:=rfl;have eK:=dB.p1.a8 (by rw [Ti];omega);have kH:=eK.p2.a8 (by omega);have yv:=(qP.trans (bJ.dC (F:=fun x=>x∈aJ m1) AZ) si).trans (bJ.dC (F:=fun x=>x∈aJ m4) FQ) si;refine(bA) ?_;exact⟨⟨m1,m4,a.a3,m2,m3,m5,m6,a.n3,a.c3⟩,_,rfl,yv,(As.gr kH.g1),(As.gr kH.g0),kH.p9.p9.qd.p5.k4⟩
   rw [if_neg (by rw [Tp];simp)] at d;simp only [Option.some.injEq,Prod.mk.injEq] at d;obtain⟨o,q⟩:=d;subst o;subst q;refine aW ?_;refine(bA) ?_;exact⟨a,_,rfl,Y,(As.gr Q.g8),(As.gr Q.g9),Q.p7.p7.kE.p8.k4⟩
  simp at Oz
  rw [if_neg (by omega)] at d;refine gK ?_;refine ez (T,s1,a,ix+1,Z3) ⟨dN.drop.drop.drop.drop.drop,⟨d,z,by omega,Y,trivial⟩⟩
 simp at g17
 rw [if_pos g17] at d;simp only [Option.some.injEq,Prod.mk.injEq] at d;obtain⟨o,q⟩:=d;subst o;subst q;refine(bA) ?_;exact⟨a,_,rfl,S,(As.gr C.g3),(As.gr C.g4),C.p2.p2.p6.p3.k4⟩
set_option maxHeartbeats 1600000 in
theorem It{s:ES}{f:Nat}(P:aq aa) (gp:St w M Z w [As.blk xb 153 (E.cells D.s bb s),As.jH prog 137 aa x D,As.map Key.val bb s.busy,As.os RR.key 41 2 E.a3 E.n3 E.c3 s.bf]) (hi:Rd RR.aD 4 Z w E.a1 E.n1 E.c1 s.b.ab) (hr:Rd RR.ew 8 Z w E.a2 E.n2 E.c2 s.b.ah) (FP:Good aa x.ab s) (Is:s.b.ab.length≤1000000) (Le:gZ aa k 0) (j8:∀g,g<f→UpC aa x D xb bb g) (K9:gO aa (valOf aa x.ab) f s k [] []=some s') (zQ:s'.bf.length≤1000000):Calls prog 147 #[.pointer (some ⟨xb,0,none⟩),k.val] w fun e w'=>∃(H:EA) (Z':Nat→Prop),e=.returned (.tuple #[])∧bJ w.heap.size Z Z'∧Rd RR.aD 4 Z' w' H.a1 H.n1 H.c1 s'.b.ab∧Rd RR.ew 8 Z' w' H.a2 H.n2 H.c2 s'.b.ah∧St w M Z' w' [As.blk xb 153 (H.cells D.s bb s'),As.jH prog 137 aa x D,As.map Key.val bb s'.busy,As.os RR.key 41 2 H.a3 H.n3 H.c3 s'.bf]:=by
 refine enter func147 rfl ntmps147 rfl<|?_;have aQ:=gp;have st1:=aQ.fr hi;have st2:=st1.fr hr;have ir:=st2.dp RR.key 41 2;have hJ:=ir.dp RR.str 9 1;refine(dz) hJ fun b3 w1 Ib wO iY=>?_;refine aW ?_;refine nx ?_;refine WC.gY (σ:=Nat × ES × EA × (List Key) × (List ByteArray) × (Nat→Prop) × (Option Addr) × Nat × Nat × (Option Addr) × Nat × Nat) (dn:=fun(J,s1,i,reads,ae,T,z,C,L,Q,N,R)=>[(0,.pointer (some ⟨xb,0,none⟩)),(3,.pointer (some ⟨b3,0,none⟩)),(4,.slice z C L),(5,.slice Q N R)]) (F:=fun(J,s1,i,reads,ae,T,z,C,L,Q,N,R)=>[As.os RR.key 41 2 z C L (reads),As.os RR.str 9 1 Q N R (ae),As.blk xb 153 (i.cells D.s bb s1),As.map Key.val bb s1.busy,As.os RR.key 41 2 i.a3 i.n3 i.c3 s1.bf,As.ro RR.aD 4 i.a1 i.n1 i.c1 s1.b.ab,As.ro RR.ew 8 i.a2 i.n2 i.c2 s1.b.ah]) (I:=fun(J,s1,i,reads,ae,T,z,C,L,Q,N,R)=>(gO aa (valOf aa x.ab) J s1 k reads ae=some s')∧(Good aa x.ab s1)∧(J≤f)∧(bJ w.heap.size Z T)∧(gZ aa k ae.length)∧(reads.length=ae.length)∧(∀a∈reads,eA aa a)∧(∀y∈aJ z,w.heap.size≤y)∧True) (μ:=fun(J,s1,i,reads,ae,T,z,C,L,Q,N,R)=>J) (Zf:=fun(J,s1,i,reads,ae,T,z,C,L,Q,N,R)=>T) (f,s,E,[],[],Z,none,0,0,none,0,0) (iY.p3.p4.p8.p8.p7.p6.p7) Sub.t (⟨K9,FP,Nat.le_refl _,bJ.refl _ _,Le,rfl,(fun a u=>by cases u),(by simp [aJ]),trivial⟩)<|?_;rintro⟨J,s1,i,reads,ae,T,z,C,L,Q,N,R⟩ w2 G ⟨q,IK,hfu,hZ,Iu,hlen,UW,hfr,_⟩;simp only [CA,NA] at G q IK hfu hZ Iu hlen UW hfr ⊢
 obtain⟨U5,rfl⟩:∃g,J=g+1:=by cases J with | zero=>simp [gO] at q | succ g=>exact⟨g,rfl⟩
 unfold gO at q
 have hl4:=IK.len
 have afn:s1.b.ab.length≤1000000:=by rw [IK.aD,← FP.aD];exact Is
 have h6:=Iu.le P;have Tn:=((As.gs G.g0)).len;have yo:=((As.gs G.g1)).len;have Hf:=((As.gr G.g6)).len;refine(aZ) yi G.b2<|(aS) (fun g13=>?_) fun g13=>?_
 ·
  simp at g13
  rw [if_neg (by simp [g13])] at q;refine ck ?_;obtain⟨o,Oc⟩:∃t,aH aa k ae=t:=⟨_,rfl⟩;rw [Oc] at q;have Y0:=@gZ.next aa k P ae Iu;rw [Oc] at Y0;have Y1:=G.bQ;have afv:=G.jG;have afw:=G.size;refine WC.dD (m:=11) (E:=cF [(9,fun v _=>v=o.val),(10,PB w2.heap.size 140 [.bool false,.string ⟨#[]⟩,.int .i64 0,.string ⟨#[]⟩])]) G (bj (⟨fun _ _ _ _ _ _ _ h=>h,⟨fun _ _ _ _ _ _ c h=>PB.st Y1 c h,trivial⟩⟩)) mixed (by kernel_rfl)<|cm ?_;refine DP .r (fun _ d=>PV.mn Ku (bR.range (As.gb d.2.g2)) rfl rfl)<|bO ?_;refine DP .r (fun _ d=>V1 jy (bR.range (As.gvb (d.2.g8))) .r)<|(gU) ao St.g7<|nx ?_;refine DW.c1 (fun U d S=>fy (k:=k) (SD.ht (As.gv (d.2.g8))) (SD.hu (As.gv (d.2.g8))) (Ow.rd (As.gs d.2.g1) (by omega)) P.hb (Iu.not P).1) (by rw [Oc])<|?_;refine DW.e rfl rfl rfl rfl rfl (fun U d S=>OX.alloc oM rfl fun b wy l hb=>⟨⟨Nat.le_trans d.1 l.ext.size,d.2.step l.ext⟩,l.ext.p0,_,rfl,_,rfl,Nat.le_trans d.1 l.ge,hb⟩)<|?_;rintro _ wz _ ⟨b6,rfl,_,_⟩;refine(cS) ?_;rintro w3 ⟨si,hh⟩ ⟨zM,⟨_,_⟩⟩;have iI:=hh.tt zM Y1 afv afw;refine(cI) gB iI fun w4 jW ka V=>?_;refine(aZ) dA V.b0<|(aS) (fun P6=>?_) fun P6=>?_
  ·
   rw [if_pos P6] at q;refine bO ?_;have Tj:=V.bQ;have afx:=V.jG;have afy:=V.size;refine WC.pa (m:=11) [9] (E:=cF [(6,fun v _=>∃f1 f2 f3,v=.tuple #[.agg ((aC s1.b.ah k).row f1 f2 f3).toArray,.bool (aB s1.b.ah k).isSome]),(10,PB w4.heap.size 47 [.int .i64 0,.string ⟨#[]⟩,.string ⟨#[]⟩,.slice none 0 0,.int .i64 0,.int .i64 0,.int .i64 0,.bool false])]) V (bj (⟨fun _ _ _ _ _ _ _ h=>h,⟨fun _ _ _ _ _ _ c h=>PB.st Tj c h,trivial⟩⟩)) mixed (by kernel_rfl) rfl ?_;refine ck ?_;refine DP .r (fun _ d=>PV.ld1 (j:=3) dF (bR.range (As.gb d.2.g3)) rfl rfl)<|(gU) ao St.g8<|?_;refine DW.e rfl rfl rfl rfl rfl (fun U d S=>OX.call ou rfl rfl ((dZ (k:=k) (As.gr d.2.g7)).mono ?_))<|?_
   ·
    rintro _ wy ⟨f1,f2,f3,rfl,hy⟩;exact⟨_,rfl,⟨Nat.le_trans d.1 hy.size,d.2.step hy⟩,hy.p0,_,rfl,⟨f1,f2,f3,rfl⟩⟩
   rintro _ wz _ ⟨f1,f2,f3,rfl⟩;refine cm ?_;refine DW.e rfl rfl rfl rfl rfl (fun U d S=>OX.alloc nJ rfl fun b wy l hb=>⟨⟨Nat.le_trans d.1 l.ext.size,d.2.step l.ext⟩,l.ext.p0,_,rfl,_,rfl,Nat.le_trans d.1 l.ge,hb⟩)<|?_;rintro _ wz _ ⟨b7,rfl,_,_⟩;refine(cS) ?_;rintro w5 ⟨tM,W⟩ ⟨zM,⟨_,_⟩⟩;have di:=W.tt zM Tj afx afy;refine(cI) fI di fun w6 ry mu cX=>?_;refine nx ?_;refine WL.nil (EX.np ?_);refine bO ?_;refine WC.dJ (t:=46) (v:=.bool (!(aB s1.b.ah k).isSome && decide (4000≤s1.b.ah.length))) cX ?_<|?_
   ·
    refine(de) (fun g38=>?_) (fun g38=>?_)
    ·
     refine ck ?_;refine WP .r (PV.ld1 (j:=3) dF cX.b4 rfl rfl)<|?_;exact(bZ) (by simp only [g38];first | rfl | (simp [Hf];done) | (simp;omega)) (cX)
    exact(bZ) (by simp only [g38];first | rfl | (simp [Hf];done) | (simp;omega)) (cX)
   intro w7 dm;refine(aS) (fun g46=>?_) fun g46=>?_
   ·
    rw [if_pos g46] at q;simp only [Option.some.injEq] at q;subst q;refine dd ?_;refine WL.s1 dm.p4 fun w8 _ cW=>?_;refine nx ?_;have O:=cW.rH (B:=As.blk xb 153 (EA.cells i D.s bb {s1 with e:=45})) (rfl);refine eD ?_;refine EX.mT (.inl rfl) rfl<|?_;exact⟨i,_,rfl,hZ,(As.gr O.g7),(As.gr O.g8),O.p6.p6.kD.p3.k4⟩
   rw [if_neg (by rw [g46];simp)] at q;simp only [Option.some.injEq] at q;subst q
   have EE:s1.bf.length+1≤1000000:=by simpa using zQ
   refine cm ?_;have cW:=dm.p2.a8 (by omega);have mS:=hZ.trans (bJ.dC (F:=fun x=>x∈aJ z) hfr) (Nat.le_refl _);have hN9:=cW.bQ;refine WC.pa (m:=15) [0] (E:=cF [(14,fun v _=>v=.agg ((bL s1.b k o.value reads).row z C L).toArray)]) cW (bj (⟨fun _ _ _ _ _ _ _ h=>h,trivial⟩)) mixed (by kernel_rfl) rfl ?_;refine dd ?_;refine DP .r (fun _ d=>PV.ld1 (j:=3) dF (bR.range (As.gb d.2.g4)) rfl rfl)<|(tv) aN St.g4<|(gU) ao St.g9<|(iD) e7 St.g2<|nx ?_;refine DW.c0 (fun U d S=>vB (k:=k) (v:=o.value) (As.gr d.2.g7) (As.gr d.2.g8) (As.gr d.2.g0))<|(cS) ?_;rintro w8 ⟨Ir,O⟩ ⟨_,_⟩;have K:=O;refine(bY) PJ (vw (x:=(bL s1.b k o.value reads)) K.e0 (As.gr K.g8) (by omega) (As.gr K.g0) (by show reads.length≤4000;omega)) ?_;rintro _ w9 ⟨p1,p2,p3,Z4,rfl,CK,nL⟩;have ep:=St.lv K nL CK;have P1:(eu s1.b.ah (bL s1.b k o.value reads)).length≤s1.b.ah.length+1:=rD (bL s1.b k o.value reads) s1.b.ah false;have Y2:=St.bN nL;have si:=K.size;have qP:=mS.trans CK si;have eb:=ep.a8 (by omega);have yv:=qP.trans (bJ.dC (F:=fun x=>x∈aJ p1) Y2) si;refine cm ?_;refine WL.s1 (j:=3) eb.p5 fun iP _ dH=>?_;refine WL.nil (EX.np ?_);have X:=dH.rH (B:=As.blk xb 153 (EA.cells ⟨i.a1,p1,i.a3,i.n1,i.c1,p2,p3,i.n3,i.c3⟩ D.s bb {s1 with b:={s1.b with ah:=eu s1.b.ah (bL s1.b k o.value reads)}})) (rfl);refine bO ?_;have hnr:=((As.gs X.g7)).len;have wQ:=X.bQ;have Cy:=X.jG;have Cz:=X.size;refine WC.pa (m:=7) [0] (E:=cF [(6,PS iP.heap.size 41 1 k.cells)]) X (bj (⟨fun _ _ _ _ _ _ c h=>PS.st wQ c h,trivial⟩)) mixed (by kernel_rfl) rfl ?_;refine(iD) dK St.g0<|(gU) ao St.g10<|?_;refine DW.e rfl rfl rfl rfl rfl (fun U d S=>OX.aP (us:=k.cells) dt rfl rfl rfl rfl fun b wy l hb=>⟨⟨Nat.le_trans d.1 l.ext.size,d.2.step l.ext⟩,l.ext.p0,_,rfl,_,rfl,Nat.le_trans d.1 l.ge,hb⟩)<|?_;rintro _ wz _ ⟨b75,rfl,_,_⟩;refine(cS) ?_;rintro iW ⟨yp,fb⟩ ⟨Tk,_⟩;have dN:=fb.tt (PS.pb Tk) wQ Cy Cz;refine WL.go rfl (OX.jO mb rfl rfl rfl (As.gs dN.g8) (SR.dc (A:=fun _=>True) (x:=k) (As.gb dN.g0) trivial rfl (by simp [Key.cells,Value.oneCell']) rfl) (by show(i.n3+1)*_≤_;omega) (by show i.n3+1≤_;omega) (Nat.zero_le _) fun a76 Iv lB Tq s76 Tr afC=>?_);have eN:=dN.p8.eU s76 Tq Tr;refine bO ?_;refine WL.s1 eN.p2 fun oh _ fh=>?_;refine WL.nil (EX.np ?_);have dQ:=fh.rH (B:=As.blk xb 153 (EA.cells ⟨i.a1,p1,a76,i.n1,i.c1,p2,p3,(i.n3+1),Iv⟩ D.s bb {s1 with b:={s1.b with ah:=eu s1.b.ah (bL s1.b k o.value reads)},bf:=s1.bf++[k]})) (rfl);refine fH ?_;refine EX.mT (.inl rfl) rfl<|?_;exact⟨⟨i.a1,p1,a76,i.n1,i.c1,p2,p3,(i.n3+1),Iv⟩,_,rfl,yv,(As.gr dQ.g9),(As.gr dQ.g3),dQ.p1.p8.o9.p3.k4⟩
  rw [if_neg (by rw [P6];simp)] at q;obtain⟨t,P4,Y⟩:=Option.bind_eq_some_iff.1 q;have G7:=Y0 P6;have Me:=(cA P U5).1 _ _ _ P4 IK G7.2;refine(ia) ao V.b0<|?_
  have hrt:t.bf.length≤1000000:=by
   split at Y
   ·
    have:=((cA P U5).2.2 _ _ _ _ _ Y Me.1 (by simpa using G7.1) (by simp [hlen]) (fun a u=>by rcases List.mem_append.1 u with u | u;exact UW a u;simp at u;subst u;exact G7.2)).2.bf
    omega
   have:=((cA P U5).2.2 _ _ _ _ _ Y Me.1 Iu hlen UW).2.bf
   omega
  have W:=V.p5.p5.p9.p6;refine(bY) KG (j8 U5 (by omega) _ _ _ _ _ _ _ W.e4 (As.gr W.g7) (As.gr W.g8) IK G7.2 P4 hrt) ?_;rintro _ w5 ⟨E2,Z5,rfl,vL,Mf,hr5,qK⟩;have di:=St.lv W qK vL;have yv:=hZ.trans vL W.size;have cX:=di.fr (Mf);have dm:=cX.fr (hr5);have cW:=dm.p9.drop;have O:=cW.p9.drop;refine(aZ) yi O.b2<|(aS) (fun FU=>?_) fun FU=>?_
  ·
   simp at FU
   rw [if_pos FU] at Y;have K:=O.p7;have OA:=K.bQ;have Y3:=K.jG;have Y4:=K.size;refine WC.MA (m:=16) [5] (fun j w w'=>match j with | 4=>gM (fun x=>x∈aJ z) w w' | _=>gM (fun _=>False) w w') (E:=cF [(3,PS w5.heap.size 41 1 o.ask.cells),(4,fun v w'=>∃a c,v=.slice a (C+1) c∧(∀x∈aJ a,x∈aJ z∨w5.heap.size≤x)∧Ow RR.key 41 2 Z5 w' a (C+1) c (reads++[o.ask]))]) K (lF (⟨⟨trivial,⟨fun _ _ _ _ _ c h=>PS.st (fun x hx=>OA x ⟨_,.head _,hx⟩) c h,trivial⟩⟩,⟨⟨trivial,⟨trivial,trivial⟩⟩,trivial⟩⟩)) mixed (by kernel_rfl) rfl ?_;refine(tv) ao St.g7<|?_;refine DW.e rfl rfl rfl rfl rfl (fun U d S=>OX.aP (us:=o.ask.cells) dt rfl rfl rfl rfl fun b wy l hb=>⟨⟨Nat.le_trans d.1 l.ext.size,d.2.step l.ext⟩,l.ext.p0,_,rfl,_,rfl,Nat.le_trans d.1 l.ge,hb⟩)<|?_;rintro _ wz _ ⟨b91,rfl,_,_⟩
   refine DW.e rfl rfl rfl rfl rfl (fun U d S=>by
    obtain⟨⟨b',Fk,wN,wO⟩,_⟩:=S;simp only [Value.slice.injEq,Option.some.injEq,Addr.mk.injEq,and_true,true_and] at Fk;subst Fk;exact OX.acy mb rfl rfl rfl (As.gs d.2.g0) (fun x hx=>d.2.lV _ M0 x hx) (SR.dc (A:=fun _=>True) (x:=o.ask) wO trivial rfl (by simp [Key.cells,Value.oneCell']) rfl) (by omega) (by omega) fun a' c' wy h1 h2 h3 h4=>⟨⟨Nat.le_trans d.1 h3.size,d.2.same M0 h3.p h2⟩,h3.p,_,rfl,a',c',rfl,(fun x hx=>by rcases h4 x hx with h | h;exact .inl h;exact .inr (Nat.le_trans d.1 h)),h1⟩) ?_
   rintro _ wz _ ⟨a4,c4,rfl,_,_⟩;refine ck ?_;refine DP .r (fun _ d=>PV.mn Ku (bR.range (As.gb d.2.g3)) rfl rfl)<|(tv) aN St.g3<|(tv) ao St.g7<|(cS)<|?_;rintro w6 ⟨CN,ep⟩ ⟨hF4,⟨hF3,_⟩⟩;obtain⟨_,_,he4,Y5,ho4⟩:=hF4;simp only [Value.slice.injEq,true_and] at he4;obtain⟨rfl,rfl⟩:=he4;have eb:=ep;have dH:=eb.swap (B:=As.os RR.key 41 2 a4 (C+1) c4 (reads++[o.ask])) ho4 Y5 OA Y3 Y4;refine(bY) PN (qN (k:=o.ask) P G7.2 (dH.one (.tail _ (.tail _ (.tail _ (.tail _ (.head _)))))) (As.gr dH.g2) (As.gr dH.g1)) ?_;rintro _ w7 ⟨rfl,jB⟩;have X:=dH.xL M4 jB;refine WL.go rfl (OX.aP (us:=[.string (bP (valOf aa x.ab) t.b o.ask)]) jq rfl rfl rfl rfl fun aoc w8 Y6 Y7=>?_);have fb:=X.cZ Y6 Y7;refine WL.ap rfl rfl fb.p9 (SR.dc (A:=fun _=>True) (x:=bP (valOf aa x.ab) t.b o.ask) (As.gb fb.g0) trivial rfl (by simp [Value.oneCell']) rfl) fun afD Y8 w9 aka akb dN=>?_;refine bO ?_;refine WL.nil (EX.np ?_);refine nx ?_;refine ez (U5,t,E2,reads++[o.ask],ae++[bP (valOf aa x.ab) t.b o.ask],Z5,a4,(C+1),c4,afD,(N+1),Y8) ⟨dN.p1.drop.p8.drop.p8.p3.p4.p8.p8.p7.p6.p7,⟨Y,Me.1,by omega,yv,by simpa using G7.1,by simp [hlen],(fun a u=>by rcases List.mem_append.1 u with u | u;exact UW a u;simp at u;subst u;exact G7.2),(fun y hy=>by rcases Y5 y hy with h | h;exact hfr y h;omega),trivial⟩⟩
  simp at FU
  rw [if_neg FU] at Y;refine bO ?_;refine ez (U5,t,E2,reads,ae,Z5,z,C,L,Q,N,R) ⟨O.p6.drop.p8.p1.p2.p6.p6.p5.p8.p8,⟨Y,Me.1,by omega,yv,Iu,hlen,UW,hfr,trivial⟩⟩
 simp at g13
 rw [if_pos g13] at q;simp only [Option.some.injEq] at q;subst q;refine ck ?_;refine EX.mT (.inr rfl) rfl<|?_;exact⟨i,_,rfl,hZ,(As.gr G.g5),(As.gr G.g6),G.p4.p4.p8.p5.k4⟩
set_option maxHeartbeats 1600000 in
theorem Lf{s:ES}{f:Nat}(J:aq aa) (gp:St w M Z w [As.blk xb 153 (E.cells D.s bb s),As.jH prog 137 aa x D,As.map Key.val bb s.busy,As.os RR.key 41 2 E.a3 E.n3 E.c3 s.bf]) (hi:Rd RR.aD 4 Z w E.a1 E.n1 E.c1 s.b.ab) (hr:Rd RR.ew 8 Z w E.a2 E.n2 E.c2 s.b.ah) (K:Good aa x.ab s) (Is:s.b.ab.length≤1000000) (hk:eA aa k) (j8:∀g,g<f→UpC aa x D xb bb g) (d:kZ aa (valOf aa x.ab) (f+1) s k=some s') (zQ:s'.bf.length≤1000000):Calls prog 102 #[.pointer (some ⟨xb,0,none⟩),k.val] w fun e w'=>∃(l:EA) (Z':Nat→Prop),e=.returned (.tuple #[])∧bJ w.heap.size Z Z'∧Rd RR.aD 4 Z' w' l.a1 l.n1 l.c1 s'.b.ab∧Rd RR.ew 8 Z' w' l.a2 l.n2 l.c2 s'.b.ah∧St w M Z' w' [As.blk xb 153 (l.cells D.s bb s'),As.jH prog 137 aa x D,As.map Key.val bb s'.busy,As.os RR.key 41 2 l.a3 l.n3 l.c3 s'.bf]:=by
 unfold kZ at d
 have hbk:(bE s.busy k).getD (.bool false)=.bool (s.on k):=by unfold ES.on;rcases K.busy k with h | h <;> rw [h] <;> rfl
 refine enter func102 rfl ntmps102 rfl<|?_;have aQ:=gp;have st1:=aQ.fr hi;have st2:=st1.fr hr;refine(dz) st2 fun b3 w1 Ib wO F=>?_;refine ck ?_;refine WC.dJ (t:=14) (v:=.bool (decide (s.e≠0) || ay k)) F ?_<|?_
 ·
  refine(aZ) yi F.b3<|(de) (fun g11=>?_) (fun g11=>?_)
  ·
   exact(bZ) (by simp only [g11];first | rfl | simp) (F)
  refine(aX) ao F.b0<|(eV) (ei (k:=k)) F fun w2 s2 o=>?_;exact(bZ) (by simp only [g11];first | rfl | simp) (o)
 intro w2 o;refine(aS) (fun g14=>?_) fun g14=>?_
 ·
  rw [if_pos (by simpa using g14)] at d;simp only [Option.some.injEq] at d;subst d;refine bO ?_;refine EX.mT (.inl rfl) rfl<|?_;exact⟨E,Z,rfl,bJ.refl _ _,(As.gr o.g2),(As.gr o.g1),o.p6.p6.p6.p6.k4⟩
 have yN:ay k=false:=by simp at g14;exact g14.2
 rw [if_neg (by simpa using g14)] at d;refine ck ?_;have U6:=o.bQ;have afE:=o.jG;have afF:=o.size;refine WC.pa (m:=11) [9] (E:=cF [(6,fun v _=>∃f1 f2 f3,v=.tuple #[.agg ((aC s.b.ah k).row f1 f2 f3).toArray,.bool (aB s.b.ah k).isSome]),(10,PB w2.heap.size 47 [.int .i64 0,.string ⟨#[]⟩,.string ⟨#[]⟩,.slice none 0 0,.int .i64 0,.int .i64 0,.int .i64 0,.bool false])]) o (bj (⟨fun _ _ _ _ _ _ _ h=>h,⟨fun _ _ _ _ _ _ c h=>PB.st U6 c h,trivial⟩⟩)) mixed (by kernel_rfl) rfl ?_;refine ck ?_;refine DP .r (fun _ i=>PV.ld1 (j:=3) dF (bR.range (As.gb i.2.g3)) rfl rfl)<|(gU) ao St.g0<|?_;refine DW.e rfl rfl rfl rfl rfl (fun wx i hF=>OX.call ou rfl rfl ((dZ (k:=k) (As.gr i.2.g1)).mono ?_))<|?_
 ·
  rintro _ wy ⟨f1,f2,f3,rfl,P⟩;exact⟨_,rfl,⟨Nat.le_trans i.1 P.size,i.2.step P⟩,P.p0,_,rfl,⟨f1,f2,f3,rfl⟩⟩
 rintro _ wz _ ⟨f1,f2,f3,rfl⟩;refine cm ?_;refine DW.e rfl rfl rfl rfl rfl (fun wx i hF=>OX.alloc nJ rfl fun b wy L hb=>⟨⟨Nat.le_trans i.1 L.ext.size,i.2.step L.ext⟩,L.ext.p0,_,rfl,_,rfl,Nat.le_trans i.1 L.ge,hb⟩)<|?_;rintro _ wz _ ⟨b4,rfl,_,_⟩;refine(cS) ?_;rintro w3 ⟨oz,iY⟩ ⟨zM,⟨_,_⟩⟩;have hM:=iY.tt zM U6 afE afF;refine(cI) fI hM fun w4 jW ka Q=>?_;refine nx ?_;refine WL.nil (EX.np ?_);refine bO ?_;refine WC.dJ (t:=35) (v:=.bool (az s.b k)) Q ?_<|?_
 ·
  have DU:=Q.bQ;refine WC.dS (m:=9) Q mixed<|(om) (fun R=>?_) (fun R=>?_)
  ·
   refine(iD) aO St.g0<|ck ?_;refine DP .r (fun _ i=>PV.ld1 (j:=1) aO (bR.range (As.gb i.2.g4)) rfl rfl)<|(cS)<|?_;rintro w5 ⟨pI,q⟩ _;exact(bZ) (by unfold az;simp only [R];first | rfl | simp) (q)
  refine(cS) ?_;rintro w5 ⟨pI,q⟩ _;exact(bZ) (by unfold az;simp only [R];first | rfl | simp) (q)
 intro w5 q;refine(aS) (fun S=>?_) fun S=>?_
 ·
  rw [if_pos S] at d;simp only [Option.some.injEq] at d;subst d;refine bO ?_;refine EX.mT (.inl rfl) rfl<|?_;exact⟨E,Z,rfl,bJ.refl _ _,(As.gr q.g3),(As.gr q.g2),q.p7.p7.p7.p7.k4⟩
 rw [if_neg (by rw [S];simp)] at d;refine ck ?_;have Y1:=q.bQ;refine WC.dS (m:=5) q mixed<|(iD) nI St.g4<|(gU) ao St.g1<|(cS)<|?_;rintro w6 ⟨si,G⟩ _;refine WP .r (PV.jJ db gG Cl (As.gm G.g6) (hbk) rfl rfl)<|(aS) (fun T=>?_) fun T=>?_
 ·
  rw [if_pos T] at d;refine(aX) ao G.b1<|(eV) (df (k:=k)) G fun w7 s7 C=>?_;refine(aS) (fun H=>?_) fun H=>?_
  ·
   simp at H
   rw [if_neg (by rw [H];simp)] at d;simp only [Option.some.injEq] at d;subst d;refine ck ?_;refine WL.s1 C.p4 fun w8 _ N=>?_;refine nx ?_;have u:=N.rH (B:=As.blk xb 153 (EA.cells E D.s bb {s with e:=43})) (rfl);refine cm ?_;refine EX.mT (.inl rfl) rfl<|?_;exact⟨E,Z,rfl,bJ.refl _ _,(As.gr u.g4),(As.gr u.g3),u.p7.p7.p7.p3.k4⟩
  simp at H
  rw [if_pos H] at d;simp only [Option.some.injEq] at d;subst d;refine ck ?_;refine EX.mT (.inl rfl) rfl<|?_;exact⟨E,Z,rfl,bJ.refl _ _,(As.gr C.g3),(As.gr C.g2),C.p7.p7.p7.p7.k4⟩
 rw [if_neg (by rw [T];simp)] at d;refine cm ?_;have hN7:=G.bQ;refine WC.dS (m:=5) G mixed<|(iD) nI St.g4<|(gU) ao St.g1<|(cS)<|?_;rintro w7 ⟨Ts,C⟩ _;refine WL.go rfl (OX.put db gG (As.gm C.g6) rfl rfl rfl fun w8 zK vF=>?_);have N:=C.p6.jQ zK vF;refine nx ?_;obtain⟨⟨s2,r2⟩,hp,d⟩:=Option.bind_eq_some_iff.1 d;obtain⟨s3,y,d⟩:=Option.bind_eq_some_iff.1 d;simp only [Option.some.injEq] at d;subst d;have U:=(cA J f).2.1 _ _ _ _ _ hp (K.on k);have Le:=hk.gH yN;have V:s3.bf.length≤1000000:=zQ
 have Y9:s2.bf.length≤1000000:=by
  split at y
  ·
   have:=((cA J f).2.2 _ _ _ _ _ y U.1 Le rfl (fun a ha=>by cases ha)).2.bf
   exact Nat.le_trans this V
  simp only [Option.some.injEq] at y;subst y;exact V
 have afG:s2.b.ab.length≤1000000:=by rw [U.1.aD,← K.aD];exact Is
 refine(aX) ao N.b2<|?_;have u:=N.p7.p1.p7.p7;refine(bY) XM (CJ (s:={s with busy:=cM s.busy k (.bool true)}) (E:=E) J u.e4 (As.gr u.g7) (As.gr u.g6) (K.on k) Is j8 hp Y9) ?_;rintro _ w9 ⟨E2,Z2,rfl,vK,afH,afI,nL⟩;have dm:=St.lv u nL vK;have mC:=(bJ.refl w.heap.size Z).trans vK u.size;have cW:=dm.fr (afH);have ed:=cW.fr (afI);have fJ:=ed.p9.drop;have O:=fJ.p8.drop;refine(aS) (fun W=>?_) fun W=>?_
 ·
  rw [if_pos W] at y;refine(aX) ao (bR.range (As.gb O.g7))<|?_;have z:=O.p5.p5.p5.p5;refine(bY) XN (It (s:=s2) (E:=E2) J z.e4 (As.gr z.g5) (As.gr z.g4) U.1 afG Le j8 y V) ?_;rintro _ iP ⟨E3,Z3,rfl,qO,afJ,afK,mF⟩;have I:=St.lv z mF qO;have X:=mC.trans qO z.size;have dI:=I.fr (afJ);have fb:=dI.fr (afK);have dN:=fb.p7.drop;have eN:=dN.p6.drop;refine bO ?_;have wQ:=eN.bQ;refine WC.dS (m:=5) eN mixed<|(iD) nI St.g2<|(gU) ao St.g7<|(cS)<|?_;rintro iW ⟨yp,fh⟩ _;refine WL.go rfl (OX.del db gG (As.gm fh.g4) rfl rfl fun lB zO zP=>?_);have Y:=fh.p4.jQ zO zP;refine nx ?_;refine EX.mT (.inr rfl) rfl<|?_;exact⟨_,_,rfl,X,(As.gr Y.g2),(As.gr Y.g1),Y.p5.p1.p5.p5.k4⟩
 rw [if_neg (by rw [W];simp)] at y;simp only [Option.some.injEq] at y;subst y;have X:=mC;refine bO ?_;have wQ:=O.bQ;refine WC.dS (m:=5) O mixed<|(iD) nI St.g2<|(gU) ao St.g7<|(cS)<|?_;rintro iP ⟨yp,z⟩ _;refine WL.go rfl (OX.del db gG (As.gm z.g4) rfl rfl fun iW Tt Tu=>?_);have I:=z.p4.jQ Tt Tu;refine nx ?_;refine EX.mT (.inr rfl) rfl<|?_;exact⟨_,_,rfl,X,(As.gr I.g2),(As.gr I.g1),I.p5.p1.p5.p5.k4⟩
theorem Tv(c:aq aa) (d:x.ab.length≤1000000):∀f,UpC aa x D xb bb f:=by
 intro f
 induction f using Nat.strongRecOn with
 | _ f e=>
  intro w M Z s E k s' h hi hr a hk b i
  cases f with
  | zero=>simp [kZ] at b
  | succ f=>exact Lf c h hi hr a (by rw [a.aD];exact d) hk (fun g j=>e g (by omega)) b i
theorem CO(a:s.size≤1000) (w:World):Calls prog 204 #[.string s] w fun e w'=>∃(v:Int) (ok:Bool) (ev:Value),e=.returned (.tuple #[.int .i64 v,ev])∧(-9223372036854775808≤v∧v≤9223372036854775807)∧((ok=true∧ev=.nilIface)∨(ok=false∧∃t y,ev=.iface t y))∧(ok=false→ev=.iface 296 (.int .i64 2)∨ev=.iface 296 (.int .i64 1))∧aU [] w w':=by
 refine(Any.internal_strconv_Atoi_all {laysC172 with} s (by omega) w).mono fun e w' ⟨he,hw⟩=>?_
 have hc:aU [] w w':=by
  rcases hw with rfl | ⟨t,rfl⟩
  ·
   exact aU.refl _ _
  exact yk _ _ _
 cases h:Lib.atoiAll s.data.toList
 ·
  rename_i v
  rw [h] at he;exact⟨v,true,.nilIface,he,Lib.atoiAll_bounds h,.inl ⟨rfl,rfl⟩,(fun e=>by cases e),hc⟩
 ·
  rw [h] at he;exact⟨0,false,_,he,by decide,.inr ⟨rfl,_,_,rfl⟩,fun _=>.inl rfl,hc⟩
 rw [h] at he;exact⟨Lib.atoiSat s.data.toList,false,_,he,Lib.atoiSat_bounds _,.inr ⟨rfl,_,_,rfl⟩,fun _=>.inr rfl,hc⟩
set_option maxHeartbeats 400000
theorem vM :CR prog 150 #[.int .i64 n] w (.bool (decide (30≤n) && decide (n≤32))):=by
 refine enter func150 rfl ntmps150 rfl<|?_;have aQ:=St.s0 w;refine fH ?_;refine WC.kf (t:=2) (v:=.bool (decide (30≤n) && decide (n≤32))) aQ ?_<|?_
 ·
  refine(de) (fun g5=>?_) (fun g5=>?_)
  ·
   exact(gu) (by simp only [g5];first | rfl | simp) (aQ)
  exact(gu) (by simp only [g5];first | rfl | simp) (aQ)
 intro w1 st1;refine(bA) ?_;exact⟨rfl,(St.cg st1)⟩
theorem CP :CR prog 151 #[.int .i64 n] w (.bool (decide (1≤n) && decide (n≤22))):=by
 refine enter func151 rfl ntmps151 rfl<|?_;have aQ:=St.s0 w;refine fH ?_;refine WC.kf (t:=2) (v:=.bool (decide (1≤n) && decide (n≤22))) aQ ?_<|?_
 ·
  refine(de) (fun g5=>?_) (fun g5=>?_)
  ·
   exact(gu) (by simp only [g5];first | rfl | simp) (aQ)
  exact(gu) (by simp only [g5];first | rfl | simp) (aQ)
 intro w1 st1;refine(bA) ?_;exact⟨rfl,(St.cg st1)⟩
theorem cN :CR prog 42 #[k.val] w (.bool (ay k)):=by
 refine enter func42 rfl ntmps42 rfl<|?_;have aQ:=St.s0 w;refine(dz) aQ fun b1 w1 a b st1=>?_;refine ck ?_;refine WC.kf (t:=2) (v:=.bool (ay k)) st1 ?_<|?_
 ·
  refine(aZ) aO st1.b0<|(de) (fun g6=>?_) (fun g6=>?_)
  ·
   exact(gu) (by unfold ay;simp only [g6];first | rfl | simp) (st1)
  refine(aZ) aO st1.b0<|(de) (fun g11=>?_) (fun g11=>?_)
  ·
   exact(gu) (by unfold ay;simp only [g6,g11];first | rfl | simp) (st1)
  refine(aZ) aO st1.b0<|?_;exact(gu) (by unfold ay;simp only [g6,g11];first | rfl | simp) (st1)
 intro w2 st2;refine(bA) ?_;exact⟨rfl,(St.cg st2)⟩
theorem nM :CR prog 111 #[k.val] w (.bool (decide (k.kind=31) || decide (k.kind=32))):=by
 refine enter func111 rfl ntmps111 rfl<|?_;have aQ:=St.s0 w;refine(dz) aQ fun b1 w1 a b st1=>?_;refine ck ?_;refine WC.kf (t:=2) (v:=.bool (decide (k.kind=31) || decide (k.kind=32))) st1 ?_<|?_
 ·
  refine(aZ) aO st1.b0<|(de) (fun g6=>?_) (fun g6=>?_)
  ·
   exact(gu) (by simp only [g6];first | rfl | simp) (st1)
  refine(aZ) aO st1.b0<|?_;exact(gu) (by simp only [g6];first | rfl | simp) (st1)
 intro w2 st2;refine(bA) ?_;exact⟨rfl,(St.cg st2)⟩
theorem fF(hk:cY k):CR prog 117 #[k.val] w (.bool (decide (k.kind=32))):=by
 refine enter func117 rfl ntmps117 rfl<|?_;have aQ:=St.s0 w;refine(dz) aQ fun b1 w1 a b st1=>?_;refine ck ?_;refine WC.kf (t:=2) (v:=.bool (decide (k.kind=32))) st1 ?_<|?_
 ·
  refine(aZ) aO st1.b0<|(de) (fun g6=>?_) (fun g6=>?_)
  ·
   exact(gu) (by simp only [g6];first | done | rfl | simp) (st1)
  refine(aZ) aO st1.b0<|(bY) XQ (CP (n:=k.kind)) ?_;rintro _ w2 ⟨rfl,s2⟩;rw [show(decide (1≤k.kind) && decide (k.kind≤22))=false by(rcases hk with h | h <;> simp <;> omega)];have st2:=st1.step s2;exact(gu) (by simp only [g6];first | done | rfl | simp) (st2)
 intro w2 st2;refine(bA) ?_;exact⟨rfl,(St.cg st2)⟩
theorem lx{n:Nat}(hk:30≤k.kind∧k.kind≤32) (ht:k.text=itoa n) (hn:n≤99):CR prog 113 #[k.val] w (.int .i64 (n:Int)):=by
 obtain⟨kd,j⟩:=k;simp only at hk ht;subst ht;refine enter func113 rfl ntmps113 rfl<|?_;have aQ:=St.s0 w;refine(dz) aQ fun b1 w1 l o st1=>?_;refine(aZ) aO st1.b0<|(bY) PE (vM (n:=kd)) ?_;rintro _ w2 ⟨rfl,s2⟩;rw [show(decide (30≤kd) && decide (kd≤32))=true by(simp;omega)];have st2:=st1.step s2;refine cm ?_;refine WC.fX rfl<|(aZ) e7 st2.b0<|(eV) (Ff hn w2) st2 fun w3 q b=>?_;refine kU ?_;refine WC.dJ (t:=31) (v:=.bool false) b ?_<|?_
 ·
  have u:=b.bQ;refine WC.dD (m:=15) (E:=cF [(12,fun v _=>v=.string (itoa n))]) b (bj (⟨fun _ _ _ _ _ _ _ h=>h,trivial⟩)) mixed (by kernel_rfl)<|nx ?_;refine DP .r (fun _ g=>PV.QU zx rfl)<|nx ?_;refine DW.cq (t:=17) rfl (fun g17=>?_) (fun g17=>?_)
  ·
   refine(cS) ?_;rintro w4 ⟨c,a⟩ _;exact(bZ) (tG g17) (a)
  refine ck ?_;refine DW.cq (t:=21) rfl (fun g21=>?_) (fun g21=>?_)
  ·
   refine(cS) ?_;rintro w4 ⟨c,a⟩ _;exact(bZ) (tG (aj g17 g21)) (a)
  refine ck ?_;refine DW.cq (t:=25) rfl (fun d=>?_) (fun d=>?_)
  ·
   refine(cS) ?_;rintro w4 ⟨c,a⟩ _;exact(bZ) (tG (aj g17<|aj g21 d)) (a)
  refine nx ?_;refine DW.c0 (fun i g y=>jj (n:=(n:Int)) (by omega) (by omega) i)<|(iD) e7 St.g0<|(cS)<|?_;rintro w4 ⟨c,a⟩ ⟨_,_⟩;exact(bZ) (tG (aj g17<|aj g21 d)) (a)
 intro w4 a;refine(aS) (fun e=>?_) fun e=>?_
 ·
  exact absurd e (by simp)
 ·
  refine(bA) ?_;exact⟨rfl,(St.cg a)⟩
 -- z B C.T
theorem hY{n:Nat}(hk:30≤k.kind∧k.kind≤32) (ht:k.text=itoa n) (hn:n≤99):CR prog 110 #[k.val] w (.bool true):=by
 refine enter func110 rfl ntmps110 rfl<|?_;have aQ:=St.s0 w;refine(dz) aQ fun b1 w1 b c st1=>?_;refine(aZ) aO st1.b0<|(bY) PE (vM (n:=k.kind)) ?_;rintro _ w2 ⟨rfl,s2⟩;rw [show(decide (30≤k.kind) && decide (k.kind≤32))=true by(simp;omega)];have st2:=st1.step s2;refine bO ?_;refine WC.oD rfl<|(aX) ao st2.b0<|(eV) (lx (k:=k) hk ht hn) st2 fun w3 d a=>?_;refine(bA) ?_;exact⟨by simp,(St.cg a)⟩
theorem oi{a:Option Addr}{r c:Nat}(hr:fG A w a r c aa):CR prog 112 #[.slice a r c,.int .i64 n] w ((aI aa n).val):=by
 have hle:=hr.le;have hlen:=hr.len;refine enter func112 rfl ntmps112 rfl<|?_;have aQ:=St.s0 w;refine(eT) aQ fun b4 w1 o q st1=>?_;refine ck ?_;refine WC.dJ (t:=17) (v:=.bool (decide (n<0) || (decide ((r:Int)≤n) || decide (99<n)))) st1 ?_<|?_
 ·
  refine(de) (fun g8=>?_) (fun g8=>?_)
  ·
   exact(bZ) (by simp only [g8];first | rfl | simp) (st1)
  refine(de) (fun g14=>?_) (fun g14=>?_)
  ·
   exact(bZ) (by simp only [g8,g14];first | rfl | simp) (st1)
  exact(bZ) (by simp only [g8,g14];first | rfl | simp) (st1)
 intro w2 st2;refine(aS) (fun g17=>?_) fun g17=>?_
 ·
  have hk:aI aa n=dW:=by unfold aI;rw [if_pos (by simp at g17;omega)]
  refine(cI) gR st2 fun w3 u y b=>?_;refine(kV) ao b.b0<|?_;rw [hk];exact⟨rfl,(St.cg b)⟩
 simp at g17
 obtain⟨i,rfl⟩:∃i:Nat,n=i:=⟨n.toNat,by omega⟩
 have hi:i<aa.length:=by omega
 have hk:aI aa i=⟨if aF aa i then 32 else 31,itoa i⟩:=by unfold aI;rw [if_neg (by omega)];rfl
 have g:=bU hi;refine kU ?_;obtain⟨z,B,C,h,_,⟨q1,F,G,rfl,_⟩,l,_⟩:=(hr.ext (St.cg st2)).at (ak hi);refine cm ?_;refine WP .r (PV.dV iU h rfl rfl (by omega))<|nx ?_;refine WP .r (PV.ld1 (j:=0) dA l rfl rfl)<|(aS) (fun g23=>?_) fun g23=>?_
 ·
  have e:aI aa i=⟨32,itoa i⟩:=by rw [hk,g,g23];rfl
  refine(eV) (jj (n:=(i:Int)) (by omega) (by omega) w2) st2 fun w3 m b=>?_;refine WP .r (PV.bC (us:=_) Cg rfl rfl rfl)<|(cI) gR b fun w4 H I d=>?_;refine(kV) ao d.b0<|?_;rw [e];exact⟨rfl,(St.cg d)⟩
 have e:aI aa i=⟨31,itoa i⟩:=by rw [hk,g,g23];rfl
 refine(eV) (jj (n:=(i:Int)) (by omega) (by omega) w2) st2 fun w3 m b=>?_;refine WP .r (PV.bC (us:=_) Cg rfl rfl rfl)<|(cI) gR b fun w4 J K d=>?_;refine(kV) ao d.b0<|?_;rw [e];exact⟨rfl,(St.cg d)⟩
set_option maxHeartbeats 400000
set_option maxRecDepth 1000000 in
theorem kS(b:s.size≤1000):CR prog 360 #[.string s] w (.string s):=by
 refine enter func360 rfl ntmps360 rfl<|?_;have aQ:=St.s0 w;refine aW ?_;refine(aS) (fun g6=>?_) fun g6=>?_
 ·
  refine(bA) ?_;exact⟨by rw [show s=⟨#[]⟩ from ByteArray.ext (Array.eq_empty_of_size_eq_zero (show s.size=0 by have:=of_decide_eq_true g6;omega))],(St.cg aQ)⟩
 have h0:s.size≠0:=by have:=of_decide_eq_false g6;omega
 obtain⟨i,hi,a⟩:=Option.map_eq_some_iff.1 (show(prog.info? 5).map (fun i=>(i.zero,i.size,i.bytes))=some (some (.int .u8 0),1,1) by kernel_rfl);simp only [Prod.mk.injEq] at a;obtain⟨c,h1,hb⟩:=a;obtain⟨u1,d,e,k1,k2,k3,hc⟩:=yT (S:=9) (it:=3) (ty1:=3) (ty2:=9) underlying219 hi c h1 hb underlying564 h0 b w;refine fH ?_;refine WL.go rfl (OX.VW rfl rfl rfl k1 ?_);refine eD ?_;refine WL.go rfl (OX.VX rfl rfl rfl k2 ?_);refine dd ?_;refine WP .r (PV.D3 Pm 0 (show some (⟨w.heap.size,0,none⟩:Addr)=some ⟨w.heap.size,0,none⟩ from rfl) rfl rfl rfl (by omega))<|bO ?_;refine WL.go rfl (OX.acH rfl rfl rfl k3 ?_);refine(bA) ?_;exact⟨rfl,hc⟩
theorem wR(d:s.size≤1000) (g:w.cell? ⟨2,0,none⟩=some .nilIface):Calls prog 262 #[.string f,.string s] w fun e w'=>∃b,e=.returned (.pointer (some ⟨b,0,none⟩))∧aU [] w w':=by
 have hr:w.rangeAt 2 0 [.nilIface]:=fun j v a=>by
  cases j with
  | zero=>simp at a;subst a;exact g
  | succ j=>simp at a
 refine enter func262 rfl ntmps262 rfl<|?_;have aQ:=St.s0 w;refine fH ?_;have i:=aQ.bQ;refine WC.dD (m:=4) (E:=cF [(2,fun v _=>v=.string s)]) aQ (bj (⟨fun _ _ _ _ _ _ _ h=>h,trivial⟩)) mixed (by kernel_rfl)<|bO ?_;refine DW.c0 (fun l c o=>kS d)<|?_;refine DP .r (fun _ c=>PV.mn zy (a7 hr (St.cg c.2) (by simp)) rfl rfl)<|(cS)<|?_;rintro w1 ⟨q,st1⟩ ⟨_,_⟩;refine WP .r (PV.bC (us:=[.string f,.string s,.nilIface]) GZ rfl rfl rfl)<|(dz) st1 fun u w2 y z st2=>?_;refine(bA) ?_;exact⟨_,rfl,(St.cg st2)⟩
theorem wS(d:s.size≤1000) (g:w.cell? ⟨2,0,none⟩=some (.iface t p)):Calls prog 262 #[.string f,.string s] w fun e w'=>∃b,e=.returned (.pointer (some ⟨b,0,none⟩))∧aU [] w w':=by
 have hr:w.rangeAt 2 0 [(.iface t p)]:=fun j v a=>by
  cases j with
  | zero=>simp at a;subst a;exact g
  | succ j=>simp at a
 refine enter func262 rfl ntmps262 rfl<|?_;have aQ:=St.s0 w;refine fH ?_;have i:=aQ.bQ;refine WC.dD (m:=4) (E:=cF [(2,fun v _=>v=.string s)]) aQ (bj (⟨fun _ _ _ _ _ _ _ h=>h,trivial⟩)) mixed (by kernel_rfl)<|bO ?_;refine DW.c0 (fun l c o=>kS d)<|?_;refine DP .r (fun _ c=>PV.mn zy (a7 hr (St.cg c.2) (by simp)) rfl rfl)<|(cS)<|?_;rintro w1 ⟨q,st1⟩ ⟨_,_⟩;refine WP .r (PV.bC (us:=[.string f,.string s,(.iface t p)]) GZ rfl rfl rfl)<|(dz) st1 fun u w2 y z st2=>?_;refine(bA) ?_;exact⟨_,rfl,(St.cg st2)⟩
theorem afL:prog.globalNamed "strconv.ErrSyntax" = some 2:=by kernel_rfl
theorem zR(ht:lA prog A w) (a:s.size≤1000):Calls prog 262 #[.string f,.string s] w fun e w'=>∃b,e=.returned (.pointer (some ⟨b,0,none⟩))∧aU [] w w':=by
 obtain⟨ev,c,d⟩:=ht.err (.inl rfl) afL
 rcases d with rfl | ⟨t,p,rfl⟩
 ·
  exact wR a c
 exact wS a c
theorem wT(d:s.size≤1000) (g:w.cell? ⟨3,0,none⟩=some .nilIface):Calls prog 263 #[.string f,.string s] w fun e w'=>∃b,e=.returned (.pointer (some ⟨b,0,none⟩))∧aU [] w w':=by
 have hr:w.rangeAt 3 0 [.nilIface]:=fun j v a=>by
  cases j with
  | zero=>simp at a;subst a;exact g
  | succ j=>simp at a
 refine enter func263 rfl ntmps263 rfl<|?_;have aQ:=St.s0 w;refine fH ?_;have i:=aQ.bQ;refine WC.dD (m:=4) (E:=cF [(2,fun v _=>v=.string s)]) aQ (bj (⟨fun _ _ _ _ _ _ _ h=>h,trivial⟩)) mixed (by kernel_rfl)<|bO ?_;refine DW.c0 (fun l c o=>kS d)<|?_;refine DP .r (fun _ c=>PV.mn zy (a7 hr (St.cg c.2) (by simp)) rfl rfl)<|(cS)<|?_;rintro w1 ⟨q,st1⟩ ⟨_,_⟩;refine WP .r (PV.bC (us:=[.string f,.string s,.nilIface]) GZ rfl rfl rfl)<|(dz) st1 fun u w2 y z st2=>?_;refine(bA) ?_;exact⟨_,rfl,(St.cg st2)⟩
theorem wU(d:s.size≤1000) (g:w.cell? ⟨3,0,none⟩=some (.iface t p)):Calls prog 263 #[.string f,.string s] w fun e w'=>∃b,e=.returned (.pointer (some ⟨b,0,none⟩))∧aU [] w w':=by
 have hr:w.rangeAt 3 0 [(.iface t p)]:=fun j v a=>by
  cases j with
  | zero=>simp at a;subst a;exact g
  | succ j=>simp at a
 refine enter func263 rfl ntmps263 rfl<|?_;have aQ:=St.s0 w;refine fH ?_;have i:=aQ.bQ;refine WC.dD (m:=4) (E:=cF [(2,fun v _=>v=.string s)]) aQ (bj (⟨fun _ _ _ _ _ _ _ h=>h,trivial⟩)) mixed (by kernel_rfl)<|bO ?_;refine DW.c0 (fun l c o=>kS d)<|?_;refine DP .r (fun _ c=>PV.mn zy (a7 hr (St.cg c.2) (by simp)) rfl rfl)<|(cS)<|?_;rintro w1 ⟨q,st1⟩ ⟨_,_⟩;refine WP .r (PV.bC (us:=[.string f,.string s,(.iface t p)]) GZ rfl rfl rfl)<|(dz) st1 fun u w2 y z st2=>?_;refine(bA) ?_;exact⟨_,rfl,(St.cg st2)⟩
theorem afM:prog.globalNamed "strconv.ErrRange" = some 3:=by kernel_rfl
theorem zS(ht:lA prog A w) (a:s.size≤1000):Calls prog 263 #[.string f,.string s] w fun e w'=>∃b,e=.returned (.pointer (some ⟨b,0,none⟩))∧aU [] w w':=by
 obtain⟨ev,c,d⟩:=ht.err (.inr rfl) afM
 rcases d with rfl | ⟨t,p,rfl⟩
 ·
  exact wT a c
 exact wU a c
theorem CQ(ht:lA prog A w) (a:s.size≤1000):Calls prog 205 #[.string f,.string s,.int .i64 0,.int .i64 0,.iface 296 (.int .i64 2)] w fun e w'=>∃b,e=.returned (.iface 299 (.pointer (some ⟨b,0,none⟩)))∧aU [] w w':=by
 refine enter func205 rfl ntmps205 rfl<|?_;have aQ:=St.s0 w;refine aW ?_;refine bO ?_;refine WP .r (PV.Jv underlying296 (by intro ms h;cases h) rfl)<|WP .r (PV.QW underlying189 (by kernel_rfl) underlying296 rfl rfl)<|(aS) (fun g12=>?_) fun g12=>?_
 ·
  refine(bY) Yk (zR (ht.ext (St.cg aQ)) a) ?_;rintro _ w1 ⟨b,rfl,s1⟩;have st1:=aQ.step s1;refine WP .r (PV.Jv underlying299 (by intro ms h;cases h) rfl)<|(bA) ?_;exact⟨_,rfl,(St.cg st1)⟩
 ·
  exact dr g12
 -- g i j c.0 c.1 d.2 d.3 l
theorem CS(ht:lA prog A w) (a:s.size≤1000):Calls prog 205 #[.string f,.string s,.int .i64 0,.int .i64 0,.iface 296 (.int .i64 1)] w fun e w'=>∃b,e=.returned (.iface 299 (.pointer (some ⟨b,0,none⟩)))∧aU [] w w':=by
 refine enter func205 rfl ntmps205 rfl<|?_;have aQ:=St.s0 w;refine aW ?_;refine bO ?_;refine WP .r (PV.Jv underlying296 (by intro ms h;cases h) rfl)<|WP .r (PV.QW underlying189 (by kernel_rfl) underlying296 rfl rfl)<|(aS) (fun g12=>?_) fun g12=>?_
 ·
  exact dr g12
 ·
  refine bO ?_;refine WP .r (PV.Jv underlying296 (by intro ms h;cases h) rfl)<|WP .r (PV.QW underlying189 (by kernel_rfl) underlying296 rfl rfl)<|(aS) (fun g19=>?_) fun g19=>?_
  ·
   refine(bY) Yl (zS (ht.ext (St.cg aQ)) a) ?_;rintro _ w1 ⟨b,rfl,s1⟩;have st1:=aQ.step s1;refine WP .r (PV.Jv underlying299 (by intro ms h;cases h) rfl)<|(bA) ?_;exact⟨_,rfl,(St.cg st1)⟩
  exact dr g19
 -- d g c.2 c.3 i
theorem CT{ev:Value}(ht:lA prog A w) (a:s.size≤1000) (he:ev=.iface 296 (.int .i64 2)∨ev=.iface 296 (.int .i64 1)):Calls prog 205 #[.string f,.string s,.int .i64 0,.int .i64 0,ev] w fun e w'=>∃b,e=.returned (.iface 299 (.pointer (some ⟨b,0,none⟩)))∧aU [] w w':=by
 rcases he with rfl | rfl
 ·
  exact CQ ht a
 exact CS ht a
theorem Lg(ht:lA prog A w) (a:s.size≤1000):Calls prog 152 #[.string s] w fun e w'=>∃(v:Int) (ok:Bool) (ev:Value),e=.returned (.tuple #[.int .i64 v,ev])∧(-9223372036854775808≤v∧v≤9223372036854775807)∧((ok=true∧ev=.nilIface)∨(ok=false∧∃t y,ev=.iface t y))∧aU [] w w':=by
 refine enter func152 rfl ntmps152 rfl<|?_;have aQ:=St.s0 w;refine(bY) X9 (CO a w) ?_;rintro _ w1 ⟨v,ok,ev,rfl,c,d,g,s1⟩;have st1:=aQ.step s1;refine kg ?_;refine WP .r (PV.VU zx rfl d)<|(aS) (fun g12=>?_) fun g12=>?_
 ·
  refine(bY) Ya (CT (ht.ext (St.cg st1)) a (g (by simpa using g12))) ?_;rintro _ w2 ⟨b,rfl,s2⟩;have st2:=st1.step s2;refine(yP) ?_;exact⟨v,false,_,rfl,c,.inr ⟨rfl,_,_,rfl⟩,(St.cg st2)⟩
 refine(yP) ?_;exact⟨v,true,.nilIface,rfl,c,.inl ⟨rfl,rfl⟩,(St.cg st1)⟩
end Go.Rc

