/- Walks over the program, part WLibE. Conditions: as each theorem says. -/
import Derived.Test.YtmpkegmkoclbhaaGreatDoorDFacts
import Derived.Test.YtmpkegmkoclbhaaGreatDoorDWK
import Derived.Test.YtmpkegmkoclbhaaGreatDoorDBe
import Derived.Test.YtmpkegmkoclbhaaGreatDoorDWB
import Derived.Test.YtmpkegmkoclbhaaGreatDoorDBd
import Derived.Test.YtmpkegmkoclbhaaGreatDoorShelf
import Derived.Test.YtmpkegmkoclbhaaGreatDoorDWD
import Derived.Test.YtmpkegmkoclbhaaGreatDoorDBf
import Derived.Test.YtmpkegmkoclbhaaGreatDoorDBb
set_option linter.all false
namespace Go.Rc
open Go Go.Proofs Go.Proofs.Tryz
variable {aa:List aH}{x:bZ}{D:SD}{xb bb:Nat}{w:World}{M Z A:Nat→Prop}{s f:ByteArray}{E:EA}{k:Key}{s':ES}{n:Int}{t:TypeId}{p:Value}
set_option maxHeartbeats 400000
def UpC(aa:List aH) (x:bZ) (D:SD) (xb bb f:Nat):Prop:=∀(w:World) (M Z:Nat→Prop) (s:ES) (E:EA) (k:Key) (s':ES),St w M Z w [As.blk xb 140 (E.cells D.s bb s),As.jO prog 176 aa x D,As.map Key.val bb s.busy,As.os RR.key 40 2 E.a3 E.n3 E.c3 s.a8]→Rd RR.aD 4 Z w E.a1 E.n1 E.c1 s.b.ab→Rd RR.ei 8 Z w E.a2 E.n2 E.c2 s.b.ah→Good aa x.ab s→ep aa k→kW aa (valOf aa x.ab) f s k=some s'→s'.a8.length≤1000000→
 Calls prog 91 #[.pointer (some ⟨xb,0,none⟩),k.val] w fun e w'=>∃(E':EA) (Z':Nat→Prop),e=.returned (.tuple #[])∧bK w.heap.size Z Z'∧Rd RR.aD 4 Z' w' E'.a1 E'.n1 E'.c1 s'.b.ab∧Rd RR.ei 8 Z' w' E'.a2 E'.n2 E'.c2 s'.b.ah∧St w M Z' w' [As.blk xb 140 (E'.cells D.s bb s'),As.jO prog 176 aa x D,As.map Key.val bb s'.busy,As.os RR.key 40 2 E'.a3 E'.n3 E'.c3 s'.a8]
set_option maxHeartbeats 1600000 in
theorem CD{s:ES}{f:Nat}{r:Bool}(hR:aq aa) (gF:St w M Z w [As.blk xb 140 (E.cells D.s bb s),As.jO prog 176 aa x D,As.map Key.val bb s.busy,As.os RR.key 40 2 E.a3 E.n3 E.c3 s.a8]) (hi:Rd RR.aD 4 Z w E.a1 E.n1 E.c1 s.b.ab) (hr:Rd RR.ei 8 Z w E.a2 E.n2 E.c2 s.b.ah) (FK:Good aa x.ab s) (LU:s.b.ab.length≤1000000) (wG:∀g,g<f→UpC aa x D xb bb g) (KY:cP aa (valOf aa x.ab) f s k 0=some (s',r)) (zJ:s'.a8.length≤1000000):Calls prog 136 #[.pointer (some ⟨xb,0,none⟩),k.val] w fun e w'=>∃(q:EA) (Z':Nat→Prop),e=.returned (.bool r)∧bK w.heap.size Z Z'∧Rd RR.aD 4 Z' w' q.a1 q.n1 q.c1 s'.b.ab∧Rd RR.ei 8 Z' w' q.a2 q.n2 q.c2 s'.b.ah∧St w M Z' w' [As.blk xb 140 (q.cells D.s bb s'),As.jO prog 176 aa x D,As.map Key.val bb s'.busy,As.os RR.key 40 2 q.a3 q.n3 q.c3 s'.a8]:=by
 refine enter func136 rfl ntmps136 rfl<|?_;have aQ:=gF;have st1:=aQ.fr hi;have st2:=st1.fr hr;refine(dy) st2 fun b3 w1 H6 wK iW=>?_;refine jM ?_;refine WC.gY (σ:=Nat × ES × EA × Nat × (Nat→Prop)) (dn:=fun(u,s1,a,ix,O)=>[(0,.pointer (some ⟨xb,0,none⟩)),(3,.pointer (some ⟨b3,0,none⟩)),(5,.int .i64 (ix:Int))]) (F:=fun(u,s1,a,ix,O)=>[As.blk xb 140 (a.cells D.s bb s1),As.map Key.val bb s1.busy,As.os RR.key 40 2 a.a3 a.n3 a.c3 s1.a8,As.ro RR.aD 4 a.a1 a.n1 a.c1 s1.b.ab,As.ro RR.ei 8 a.a2 a.n2 a.c2 s1.b.ah]) (I:=fun(u,s1,a,ix,O)=>(cP aa (valOf aa x.ab) u s1 k ix=some (s',r))∧(Good aa x.ab s1)∧(u≤f)∧(bK w.heap.size Z O)∧True) (μ:=fun(u,s1,a,ix,O)=>u) (Zf:=fun(u,s1,a,ix,O)=>O) (f,s,E,0,Z) (iW.p1.p2.p6.p6.p5) Sub.t (⟨KY,FK,Nat.le_refl _,bK.refl _ _,trivial⟩)<|?_;rintro⟨u,s1,a,ix,O⟩ w2 z ⟨d,y,hfu,R,_⟩;simp only [CA,NA] at z d y hfu R ⊢
 obtain⟨S,rfl⟩:∃g,u=g+1:=by cases u with | zero=>simp [cP] at d | succ g=>exact⟨g,rfl⟩
 unfold cP at d
 have hl4:=y.len
 have aff:s1.b.ab.length≤1000000:=by rw [y.aD,← FK.aD];exact LU
 refine(a7) ya z.b0<|(aS) (fun g17=>?_) fun g17=>?_
 ·
  simp at g17
  rw [if_neg (by simp [g17])] at d;refine cy ?_;have DK:=z.bN;have KZ:=z.jL;have K2:=z.size;refine WC.o7 (m:=11) [9] (E:=cB [(6,fun v _=>∃f1 f2 f3,v=.tuple #[.agg ((aC s1.b.ah k).row f1 f2 f3).toArray,.bool (aA s1.b.ah k).isSome]),(10,PB w2.heap.size 88 [.int .i64 0,.string ⟨#[]⟩,.string ⟨#[]⟩,.slice none 0 0,.int .i64 0,.int .i64 0,.int .i64 0,.bool false])]) z (bm (⟨fun _ _ _ _ _ _ _ h=>h,⟨fun _ _ _ _ _ _ c h=>PB.st DK c h,trivial⟩⟩)) mixed (by kernel_rfl) rfl ?_;refine cy ?_;refine DP .r (fun _ i=>PV.ld1 (j:=3) dD (bU.range (As.gb i.2.g0)) rfl rfl)<|(gN) ao St.g5<|?_;refine DW.e rfl rfl rfl rfl rfl (fun wx i hF=>OX.call kN rfl rfl ((ee (k:=k) (As.gr i.2.g4)).mono ?_))<|?_
  ·
   rintro _ wy ⟨f1,f2,f3,rfl,hy⟩;exact⟨_,rfl,⟨Nat.le_trans i.1 hy.size,i.2.step hy⟩,hy.p0,_,rfl,⟨f1,f2,f3,rfl⟩⟩
  rintro _ wz _ ⟨f1,f2,f3,rfl⟩;refine cq ?_;refine DW.e rfl rfl rfl rfl rfl (fun wx i hF=>OX.alloc nL rfl fun b wy C hb=>⟨⟨Nat.le_trans i.1 C.ext.size,i.2.step C.ext⟩,C.ext.p0,_,rfl,_,rfl,Nat.le_trans i.1 C.ge,hb⟩)<|?_;rintro _ wz _ ⟨b6,rfl,_,_⟩;refine(cQ) ?_;rintro w3 ⟨pC,ja⟩ ⟨zD,⟨_,_⟩⟩;have hY:=ja.tj zD DK KZ K2;refine(cJ) fY hY fun w4 jU j3 hh=>?_;refine nx ?_;refine WL.nil (EX.np ?_);refine cq ?_;refine WC.dZ (t:=33) (v:=.bool (!(aA s1.b.ah k).isSome || (aC s1.b.ah k).bq)) hh ?_<|?_
  ·
   refine(db) (fun UZ=>?_) (fun UZ=>?_)
   ·
    exact(cA) (by simp only [UZ];first | rfl | simp) (hh)
   refine(a7) dH hh.b0<|?_;exact(cA) (by simp only [UZ];first | rfl | simp) (hh)
  intro w5 T;refine(aS) (fun g33=>?_) fun g33=>?_
  ·
   rw [if_pos g33] at d;simp only [Option.some.injEq,Prod.mk.injEq] at d;obtain⟨l,o⟩:=d;subst l;subst o;refine(bz) ?_;exact⟨a,_,rfl,R,(As.gr T.g4),(As.gr T.g5),T.p3.p3.p7.p4.k4⟩
  rw [if_neg (by rw [g33];simp)] at d;refine cy ?_;have PI:=T.bN;refine WC.dS (m:=7) T mixed<|(iv) aP St.g0<|cy ?_;refine DP .r (fun _ i=>PV.ld1 (j:=1) aP (bU.range (As.gb i.2.g1)) rfl rfl)<|(cQ)<|?_;rintro w6 ⟨qB,U⟩ _;refine(aS) (fun V=>?_) fun V=>?_
  ·
   simp at V
   rw [if_pos V] at d;simp only [Option.some.injEq,Prod.mk.injEq] at d;obtain⟨l,o⟩:=d;subst l;subst o;refine(bz) ?_;exact⟨a,_,rfl,R,(As.gr U.g4),(As.gr U.g5),U.p3.p3.p7.p4.k4⟩
  simp at V
  rw [if_neg V] at d;refine cq ?_;have PA:=U.bN;refine WC.dS (m:=11) U mixed<|cy ?_;refine DP .r (fun _ i=>PV.ld1 (j:=3) dD (bU.range (As.gb i.2.g1)) rfl rfl)<|cy ?_;refine DP .r (fun _ i=>PV.ld1 (j:=1) aP (bU.range (As.gb i.2.g1)) rfl rfl)<|(gN) ao St.g6<|(cQ)<|?_;rintro w7 ⟨mc,eE⟩ _;have dh:=eE;refine(bY) Pk (vC dh.e0 (As.gr dh.g5) (by omega)) ?_;rintro _ w8 ⟨q1,q2,q3,Z2,rfl,vD,kE⟩;have cX:=St.lv dh kE vD;have LJ:=kn s1.b.ah s1.b.ad k;have hgg:=St.bP kE;have oy:=dh.size;have afi:=R.trans vD oy;have dj:=cX.ba (by omega);have mC:=afi.trans (bK.dA (F:=fun x=>x∈aJ q1) hgg) oy;refine kS ?_;refine WP .r (PV.ld1 (j:=3) dD dj.b2 rfl rfl)<|nx ?_;have W:=dj;refine(bY) Pj (qy W.e0 (As.gr W.g6) (As.gr W.g0) (yN y (by omega))) ?_;rintro _ w9 ⟨p1,p2,p3,Z3,rfl,qD,nP⟩;have Q:=St.lv W nP qD;have X:=mC.trans qD W.size;have Ha:=((As.gs Q.g0)).len;have hca:=tM y (group:=(aB s1.b.ah s1.b.ad k)) (by omega);refine(aS) (fun g64=>?_) fun g64=>?_
  ·
   simp at g64
   have L8:(bR s1.b.ah (aB s1.b.ah s1.b.ad k))[ix]?=none:=List.getElem?_eq_none (by omega);rw [L8] at d;simp only [] at d;simp only [Option.some.injEq,Prod.mk.injEq] at d;obtain⟨l,o⟩:=d;subst l;subst o;refine(hW) aO Q.b3<|nx ?_;have G:=Q;refine(bY) GY (mf G.e0 (As.gr G.g6) (As.gr G.g7) (As.gr G.g1) (by omega) (by omega)) ?_;rintro _ iT ⟨m1,m2,m3,m4,m5,m6,Z4,rfl,Y,qE⟩;have K:=St.lv G qE Y;have qF:=X.trans Y G.size;have FL:=St.bP qE;have FM:=St.bP qE.p1;have rY:=G.size;refine bO ?_;refine WL.go rfl (OX.Qv dN (As.gb K.g5) rfl rfl rfl rfl rfl fun iY qU mu=>?_);have L:=K.p5.Bn qU mu;refine nx ?_;have H:=L.rj (B:=As.blk xb 140 (EA.cells ⟨m1,m4,a.a3,m2,m3,m5,m6,a.n3,a.c3⟩ D.s bb {s1 with b:=cI s1.b (aB s1.b.ah s1.b.ad k) false})) (rfl)
   have Yz:(cI s1.b (aB s1.b.ah s1.b.ad k) false).ah.length=s1.b.ah.length:=by simp [cI]
   have S9:(cI s1.b (aB s1.b.ah s1.b.ad k) false).ab=s1.b.ab:=rfl;have dG:=H.p1.ba (by rw [S9];omega);have N:=dG.p2.ba (by omega);have ym:=(qF.trans (bK.dA (F:=fun x=>x∈aJ m1) FL) rY).trans (bK.dA (F:=fun x=>x∈aJ m4) FM) rY;refine(bz) ?_;exact⟨⟨m1,m4,a.a3,m2,m3,m5,m6,a.n3,a.c3⟩,_,rfl,ym,(As.gr N.g1),(As.gr N.g0),N.p7.p7.kD.p5.k4⟩
  simp at g64
  obtain⟨ch,oE⟩:∃ch,(bR s1.b.ah (aB s1.b.ah s1.b.ad k))[ix]?=some ch:=⟨_,ak (by omega)⟩;rw [oE] at d;simp only [] at d;have IQ:=fR y oE;refine cq ?_;obtain⟨gT,cW⟩:=Ow.addr (As.gs Q.g0) oE;refine cq ?_;refine WP .r (PV.dU GR cW rfl rfl (by omega))<|(aZ) zk (Ow.jH (As.gs Q.g0) (by omega) cW oE)<|(eZ) Q fun KW iT Cz CB G=>?_;refine(cJ) Kt G fun iY zy tK K=>?_;refine(hW) ao K.b0<|(eP) (CC (k:=ch.read) (sb:=D.s) (s:=s1) (E:=a) (As.gb K.g4) (As.gm K.g5) y.busy (As.gr K.g8)) K fun lx s12 L=>?_;refine(aS) (fun YA=>?_) fun YA=>?_
  ·
   simp at YA
   rw [if_pos YA] at d;obtain⟨t,PK,FN⟩:=Option.bind_eq_some_iff.1 d;have LV:=(cz hR S).1 _ _ _ PK y IQ;have YB:=(cz hR S).2.1 _ _ _ _ _ FN LV.1;refine(hW) ao L.b0<|?_;have H:=L.p6.p6.kC.p7;refine(bY) Sk (wG S (by omega) _ _ _ _ _ _ _ H.e4 (As.gr H.g8) (As.gr H.g9) y IQ PK (by have:=YB.2.a8;omega)) ?_;rintro _ nN ⟨E2,Z5,rfl,vE,LW,hr5,K3⟩;have dG:=St.lv H K3 vE;have ym:=X.trans vE H.size;have N:=dG.fr (LW);have dO:=N.fr (hr5);have P:=dO.kC.drop;have J:=P.kC.drop;refine dd ?_;refine eB (S,t,E2,ix,Z5) ⟨J.p6.drop.p6.drop.p6.drop.p6.drop.p6.p1.p2.p6.p6.p5,⟨FN,LV.1,by omega,ym,trivial⟩⟩
  simp at YA
  rw [if_neg (by rw [YA];simp)] at d;refine cq ?_;have Tg:=L.bN;have YC:=L.jL;have YD:=L.size;refine WC.o7 (m:=12) [10] (E:=cB [(7,fun v _=>∃f1 f2 f3,v=.tuple #[.agg ((aC s1.b.ah ch.dC).row f1 f2 f3).toArray,.bool (aA s1.b.ah ch.dC).isSome]),(11,PB lx.heap.size 88 [.int .i64 0,.string ⟨#[]⟩,.string ⟨#[]⟩,.slice none 0 0,.int .i64 0,.int .i64 0,.int .i64 0,.bool false])]) L (bm (⟨fun _ _ _ _ _ _ _ h=>h,⟨fun _ _ _ _ _ _ c h=>PB.st Tg c h,trivial⟩⟩)) mixed (by kernel_rfl) rfl ?_;refine cy ?_;refine DP .r (fun _ i=>PV.ld1 (j:=3) dD (bU.range (As.gb i.2.g4)) rfl rfl)<|(tn) ao St.g0<|?_;refine DW.e rfl rfl rfl rfl rfl (fun wx i hF=>OX.call kN rfl rfl ((ee (k:=ch.dC) (As.gr i.2.g8)).mono ?_))<|?_
  ·
   rintro _ wy ⟨f1,f2,f3,rfl,hy⟩;exact⟨_,rfl,⟨Nat.le_trans i.1 hy.size,i.2.step hy⟩,hy.p0,_,rfl,⟨f1,f2,f3,rfl⟩⟩
  rintro _ wz _ ⟨f1,f2,f3,rfl⟩;refine cq ?_;refine DW.e rfl rfl rfl rfl rfl (fun wx i hF=>OX.alloc nL rfl fun b wy C hb=>⟨⟨Nat.le_trans i.1 C.ext.size,i.2.step C.ext⟩,C.ext.p0,_,rfl,_,rfl,Nat.le_trans i.1 C.ge,hb⟩)<|?_;rintro _ wz _ ⟨b11,rfl,_,_⟩;refine(cQ) ?_;rintro nN ⟨PN,H⟩ ⟨afm,⟨_,_⟩⟩;have dG:=H.tj afm Tg YC YD;refine(cJ) fY dG fun qV LP LQ N=>?_;refine nx ?_;refine WL.nil (EX.np ?_);refine cq ?_;have aoa:=N.bN;refine WC.dB (m:=13) (E:=cB [(10,fun v _=>v=.int .i64 (aV (valOf aa x.ab) s1.b ch.read))]) N (bm (⟨fun _ _ _ _ _ _ _ h=>h,trivial⟩)) mixed (by kernel_rfl)<|(iv) EZ St.g5<|(tn) aO St.g5<|(tn) ao St.g1<|?_;refine DW.e rfl rfl rfl rfl rfl (fun wx i hF=>OX.call Pq rfl rfl ((oP (k:=ch.read) hR IQ (i.2.one (.tail _ (.tail _ (.tail _ (.tail _ (.tail _ (.tail _ (.tail _ (.tail _ (.tail _ (.tail _ (.tail _ (.head _))))))))))))) (As.gr i.2.g8) (As.gr i.2.g9)).mono ?_))<|?_
  ·
   rintro _ wy ⟨rfl,hy⟩;exact⟨_,rfl,⟨Nat.le_trans i.1 hy.bX.size,i.2.xE ir hy⟩,hy.bX.mono (fun _ _ hx=>Gr ir hx),_,rfl,rfl⟩
  rintro _ wz _ rfl;refine(iv) aP St.g0<|(cQ)<|?_;rintro pD ⟨PO,dO⟩ ⟨_,_⟩;refine(aS) (fun Oa=>?_) fun Oa=>?_
  ·
   simp at Oa
   rw [if_pos Oa] at d;refine(aZ) ao (bU.range (As.gb dO.g10))<|(eP) (de (k:=k)) dO fun tB SS P=>?_;refine(aS) (fun Th=>?_) fun Th=>?_
   ·
    rw [if_pos Th] at d;simp only [Option.some.injEq,Prod.mk.injEq] at d;obtain⟨l,o⟩:=d;subst l;subst o;refine(hW) aO P.b5<|nx ?_;have J:=P;refine(bY) GY (mf J.e0 (As.gr J.g8) (As.gr J.g9) (As.gr J.g3) (by omega) (by omega)) ?_;rintro _ zF ⟨m1,m2,m3,m4,m5,m6,Z4,rfl,Y,CE⟩;have eh:=St.lv J CE Y;have qF:=X.trans Y J.size;have FL:=St.bP CE;have FM:=St.bP CE.p1;have rY:=J.size;refine bO ?_;refine WL.go rfl (OX.Qv dN (As.gb eh.g7) rfl rfl rfl rfl rfl fun yk LX D6=>?_);have eX:=eh.p7.Bn LX D6;refine nx ?_;have dz:=eX.rj (B:=As.blk xb 140 (EA.cells ⟨m1,m4,a.a3,m2,m3,m5,m6,a.n3,a.c3⟩ D.s bb {s1 with b:=cI s1.b (aB s1.b.ah s1.b.ad k) true})) (rfl)
    have Yz:(cI s1.b (aB s1.b.ah s1.b.ad k) true).ah.length=s1.b.ah.length:=by simp [cI]
    have S9:(cI s1.b (aB s1.b.ah s1.b.ad k) true).ab=s1.b.ab:=rfl;have eY:=dz.p1.ba (by rw [S9];omega);have kF:=eY.p2.ba (by omega);have ym:=(qF.trans (bK.dA (F:=fun x=>x∈aJ m1) FL) rY).trans (bK.dA (F:=fun x=>x∈aJ m4) FM) rY;refine(bz) ?_;exact⟨⟨m1,m4,a.a3,m2,m3,m5,m6,a.n3,a.c3⟩,_,rfl,ym,(As.gr kF.g1),(As.gr kF.g0),kF.p9.p9.pM.p5.k4⟩
   rw [if_neg (by rw [Th];simp)] at d;simp only [Option.some.injEq,Prod.mk.injEq] at d;obtain⟨l,o⟩:=d;subst l;subst o;refine aY ?_;refine(bz) ?_;exact⟨a,_,rfl,X,(As.gr P.g8),(As.gr P.g9),P.p7.p7.kD.p8.k4⟩
  simp at Oa
  rw [if_neg (by omega)] at d;refine gV ?_;refine eB (S,s1,a,ix+1,Z3) ⟨dO.drop.drop.drop.drop.drop,⟨d,y,by omega,X,trivial⟩⟩
 simp at g17
 rw [if_pos g17] at d;simp only [Option.some.injEq,Prod.mk.injEq] at d;obtain⟨l,o⟩:=d;subst l;subst o;refine(bz) ?_;exact⟨a,_,rfl,R,(As.gr z.g3),(As.gr z.g4),z.p2.p2.p6.p3.k4⟩
set_option maxHeartbeats 1600000 in
theorem Im{s:ES}{f:Nat}(P:aq aa) (gF:St w M Z w [As.blk xb 140 (E.cells D.s bb s),As.jO prog 176 aa x D,As.map Key.val bb s.busy,As.os RR.key 40 2 E.a3 E.n3 E.c3 s.a8]) (hi:Rd RR.aD 4 Z w E.a1 E.n1 E.c1 s.b.ab) (hr:Rd RR.ei 8 Z w E.a2 E.n2 E.c2 s.b.ah) (FK:Good aa x.ab s) (LU:s.b.ab.length≤1000000) (K4:gZ aa k 0) (wG:∀g,g<f→UpC aa x D xb bb g) (KY:gQ aa (valOf aa x.ab) f s k [] []=some s') (zJ:s'.a8.length≤1000000):Calls prog 137 #[.pointer (some ⟨xb,0,none⟩),k.val] w fun e w'=>∃(H:EA) (Z':Nat→Prop),e=.returned (.tuple #[])∧bK w.heap.size Z Z'∧Rd RR.aD 4 Z' w' H.a1 H.n1 H.c1 s'.b.ab∧Rd RR.ei 8 Z' w' H.a2 H.n2 H.c2 s'.b.ah∧St w M Z' w' [As.blk xb 140 (H.cells D.s bb s'),As.jO prog 176 aa x D,As.map Key.val bb s'.busy,As.os RR.key 40 2 H.a3 H.n3 H.c3 s'.a8]:=by
 refine enter func137 rfl ntmps137 rfl<|?_;have aQ:=gF;have st1:=aQ.fr hi;have st2:=st1.fr hr;have iW:=st2.dp RR.key 40 2;have hU:=iW.dp RR.str 9 1;refine(dy) hU fun b3 w1 H6 wK ja=>?_;refine aY ?_;refine nx ?_;refine WC.gY (σ:=Nat × ES × EA × (List Key) × (List ByteArray) × (Nat→Prop) × (Option Addr) × Nat × Nat × (Option Addr) × Nat × Nat) (dn:=fun(J,s1,i,reads,ae,T,z,C,L,Q,N,R)=>[(0,.pointer (some ⟨xb,0,none⟩)),(3,.pointer (some ⟨b3,0,none⟩)),(4,.slice z C L),(5,.slice Q N R)]) (F:=fun(J,s1,i,reads,ae,T,z,C,L,Q,N,R)=>[As.os RR.key 40 2 z C L (reads),As.os RR.str 9 1 Q N R (ae),As.blk xb 140 (i.cells D.s bb s1),As.map Key.val bb s1.busy,As.os RR.key 40 2 i.a3 i.n3 i.c3 s1.a8,As.ro RR.aD 4 i.a1 i.n1 i.c1 s1.b.ab,As.ro RR.ei 8 i.a2 i.n2 i.c2 s1.b.ah]) (I:=fun(J,s1,i,reads,ae,T,z,C,L,Q,N,R)=>(gQ aa (valOf aa x.ab) J s1 k reads ae=some s')∧(Good aa x.ab s1)∧(J≤f)∧(bK w.heap.size Z T)∧(gZ aa k ae.length)∧(reads.length=ae.length)∧(∀a∈reads,ep aa a)∧(∀y∈aJ z,w.heap.size≤y)∧True) (μ:=fun(J,s1,i,reads,ae,T,z,C,L,Q,N,R)=>J) (Zf:=fun(J,s1,i,reads,ae,T,z,C,L,Q,N,R)=>T) (f,s,E,[],[],Z,none,0,0,none,0,0) (ja.p3.p4.p8.p8.p7.p6.p7) Sub.t (⟨KY,FK,Nat.le_refl _,bK.refl _ _,K4,rfl,(fun a u=>by cases u),(by simp [aJ]),trivial⟩)<|?_;rintro⟨J,s1,i,reads,ae,T,z,C,L,Q,N,R⟩ w2 G ⟨q,GD,hfu,hZ,Io,hlen,UR,hfr,_⟩;simp only [CA,NA] at G q GD hfu hZ Io hlen UR hfr ⊢
 obtain⟨U0,rfl⟩:∃g,J=g+1:=by cases J with | zero=>simp [gQ] at q | succ g=>exact⟨g,rfl⟩
 unfold gQ at q
 have hl4:=GD.len
 have aff:s1.b.ab.length≤1000000:=by rw [GD.aD,← FK.aD];exact LU
 have h6:=Io.le P;have OU:=((As.gs G.g0)).len;have yg:=((As.gs G.g1)).len;have Ha:=((As.gr G.g6)).len;refine(a7) ya G.b2<|(aS) (fun g13=>?_) fun g13=>?_
 ·
  simp at g13
  rw [if_neg (by simp [g13])] at q;refine cy ?_;obtain⟨o,NW⟩:∃t,aG aa k ae=t:=⟨_,rfl⟩;rw [NW] at q;have YE:=@gZ.next aa k P ae Io;rw [NW] at YE;have YF:=G.bN;have afn:=G.jL;have afo:=G.size;refine WC.dB (m:=11) (E:=cB [(9,fun v _=>v=o.val),(10,PB w2.heap.size 152 [.bool false,.string ⟨#[]⟩,.int .i64 0,.string ⟨#[]⟩])]) G (bm (⟨fun _ _ _ _ _ _ _ h=>h,⟨fun _ _ _ _ _ _ c h=>PB.st YF c h,trivial⟩⟩)) mixed (by kernel_rfl)<|cq ?_;refine DP .r (fun _ d=>PV.mq EZ (bU.range (As.gb d.2.g2)) rfl rfl)<|bO ?_;refine DP .r (fun _ d=>V1 jD (bU.range (As.gvb (d.2.g8))) .r)<|(gN) ao St.g7<|nx ?_;refine DW.c1 (fun U d S=>fB (k:=k) (SD.ht (As.gv (d.2.g8))) (SD.hu (As.gv (d.2.g8))) (Ow.rd (As.gs d.2.g1) (by omega)) P.hb (Io.not P).1) (by rw [NW])<|?_;refine DW.e rfl rfl rfl rfl rfl (fun U d S=>OX.alloc oL rfl fun b wy l hb=>⟨⟨Nat.le_trans d.1 l.ext.size,d.2.step l.ext⟩,l.ext.p0,_,rfl,_,rfl,Nat.le_trans d.1 l.ge,hb⟩)<|?_;rintro _ wz _ ⟨b6,rfl,_,_⟩;refine(cQ) ?_;rintro w3 ⟨rY,hh⟩ ⟨zD,⟨_,_⟩⟩;have iK:=hh.tj zD YF afn afo;refine(cJ) gE iK fun w4 jU j3 V=>?_;refine(a7) dH V.b0<|(aS) (fun PQ=>?_) fun PQ=>?_
  ·
   rw [if_pos PQ] at q;refine bO ?_;have PI:=V.bN;have afp:=V.jL;have afq:=V.size;refine WC.o7 (m:=11) [9] (E:=cB [(6,fun v _=>∃f1 f2 f3,v=.tuple #[.agg ((aC s1.b.ah k).row f1 f2 f3).toArray,.bool (aA s1.b.ah k).isSome]),(10,PB w4.heap.size 88 [.int .i64 0,.string ⟨#[]⟩,.string ⟨#[]⟩,.slice none 0 0,.int .i64 0,.int .i64 0,.int .i64 0,.bool false])]) V (bm (⟨fun _ _ _ _ _ _ _ h=>h,⟨fun _ _ _ _ _ _ c h=>PB.st PI c h,trivial⟩⟩)) mixed (by kernel_rfl) rfl ?_;refine cy ?_;refine DP .r (fun _ d=>PV.ld1 (j:=3) dD (bU.range (As.gb d.2.g3)) rfl rfl)<|(gN) ao St.g8<|?_;refine DW.e rfl rfl rfl rfl rfl (fun U d S=>OX.call kN rfl rfl ((ee (k:=k) (As.gr d.2.g7)).mono ?_))<|?_
   ·
    rintro _ wy ⟨f1,f2,f3,rfl,hy⟩;exact⟨_,rfl,⟨Nat.le_trans d.1 hy.size,d.2.step hy⟩,hy.p0,_,rfl,⟨f1,f2,f3,rfl⟩⟩
   rintro _ wz _ ⟨f1,f2,f3,rfl⟩;refine cq ?_;refine DW.e rfl rfl rfl rfl rfl (fun U d S=>OX.alloc nL rfl fun b wy l hb=>⟨⟨Nat.le_trans d.1 l.ext.size,d.2.step l.ext⟩,l.ext.p0,_,rfl,_,rfl,Nat.le_trans d.1 l.ge,hb⟩)<|?_;rintro _ wz _ ⟨b7,rfl,_,_⟩;refine(cQ) ?_;rintro w5 ⟨qB,W⟩ ⟨zD,⟨_,_⟩⟩;have dh:=W.tj zD PI afp afq;refine(cJ) fY dh fun w6 qU mu cX=>?_;refine nx ?_;refine WL.nil (EX.np ?_);refine bO ?_;refine WC.dZ (t:=46) (v:=.bool (!(aA s1.b.ah k).isSome && decide (4000≤s1.b.ah.length))) cX ?_<|?_
   ·
    refine(db) (fun g38=>?_) (fun g38=>?_)
    ·
     refine cy ?_;refine WP .r (PV.ld1 (j:=3) dD cX.b4 rfl rfl)<|?_;exact(cA) (by simp only [g38];first | rfl | (simp [Ha];done) | (simp;omega)) (cX)
    exact(cA) (by simp only [g38];first | rfl | (simp [Ha];done) | (simp;omega)) (cX)
   intro w7 dj;refine(aS) (fun g46=>?_) fun g46=>?_
   ·
    rw [if_pos g46] at q;simp only [Option.some.injEq] at q;subst q;refine dd ?_;refine WL.s1 dj.p4 fun w8 _ cS=>?_;refine nx ?_;have O:=cS.rj (B:=As.blk xb 140 (EA.cells i D.s bb {s1 with e:=45})) (rfl);refine ez ?_;refine EX.mV (.inl rfl) rfl<|?_;exact⟨i,_,rfl,hZ,(As.gr O.g7),(As.gr O.g8),O.p6.p6.kC.p3.k4⟩
   rw [if_neg (by rw [g46];simp)] at q;simp only [Option.some.injEq] at q;subst q
   have Ez:s1.a8.length+1≤1000000:=by simpa using zJ
   refine cq ?_;have cS:=dj.p2.ba (by omega);have mU:=hZ.trans (bK.dA (F:=fun x=>x∈aJ z) hfr) (Nat.le_refl _);have hN9:=cS.bN;refine WC.o7 (m:=15) [0] (E:=cB [(14,fun v _=>v=.agg ((bs s1.b k o.value reads).row z C L).toArray)]) cS (bm (⟨fun _ _ _ _ _ _ _ h=>h,trivial⟩)) mixed (by kernel_rfl) rfl ?_;refine dd ?_;refine DP .r (fun _ d=>PV.ld1 (j:=3) dD (bU.range (As.gb d.2.g4)) rfl rfl)<|(tn) aO St.g4<|(gN) ao St.g9<|(iv) fy St.g2<|nx ?_;refine DW.c0 (fun U d S=>vq (k:=k) (v:=o.value) (As.gr d.2.g7) (As.gr d.2.g8) (As.gr d.2.g0))<|(cQ) ?_;rintro w8 ⟨Il,O⟩ ⟨_,_⟩;have K:=O;refine(bY) Pn (vj (x:=(bs s1.b k o.value reads)) K.e0 (As.gr K.g8) (by omega) (As.gr K.g0) (by show reads.length≤4000;omega)) ?_;rintro _ w9 ⟨p1,p2,p3,Z4,rfl,YG,nP⟩;have dT:=St.lv K nP YG;have PG:(dK s1.b.ah (bs s1.b k o.value reads)).length≤s1.b.ah.length+1:=qZ (bs s1.b k o.value reads) s1.b.ah false;have YH:=St.bP nP;have rY:=K.size;have qF:=mU.trans YG rY;have ef:=dT.ba (by omega);have ym:=qF.trans (bK.dA (F:=fun x=>x∈aJ p1) YH) rY;refine cq ?_;refine WL.s1 (j:=3) ef.p5 fun iT _ dR=>?_;refine WL.nil (EX.np ?_);have X:=dR.rj (B:=As.blk xb 140 (EA.cells ⟨i.a1,p1,i.a3,i.n1,i.c1,p2,p3,i.n3,i.c3⟩ D.s bb {s1 with b:={s1.b with ah:=dK s1.b.ah (bs s1.b k o.value reads)}})) (rfl);refine bO ?_;have hnr:=((As.gs X.g7)).len;have wM:=X.bN;have Cu:=X.jL;have Cv:=X.size;refine WC.o7 (m:=7) [0] (E:=cB [(6,PS iT.heap.size 40 1 k.cells)]) X (bm (⟨fun _ _ _ _ _ _ c h=>PS.st wM c h,trivial⟩)) mixed (by kernel_rfl) rfl ?_;refine(iv) dE St.g0<|(gN) ao St.g10<|?_;refine DW.e rfl rfl rfl rfl rfl (fun U d S=>OX.aR (us:=k.cells) dx rfl rfl rfl rfl fun b wy l hb=>⟨⟨Nat.le_trans d.1 l.ext.size,d.2.step l.ext⟩,l.ext.p0,_,rfl,_,rfl,Nat.le_trans d.1 l.ge,hb⟩)<|?_;rintro _ wz _ ⟨b75,rfl,_,_⟩;refine(cQ) ?_;rintro iY ⟨yh,eW⟩ ⟨Tb,_⟩;have dO:=eW.tj (PS.pb Tb) wM Cu Cv;refine WL.go rfl (OX.jJ lN rfl rfl rfl (As.gs dO.g8) (SR.dc (A:=fun _=>True) (x:=k) (As.gb dO.g0) trivial rfl (by simp [Key.cells,Value.oneCell']) rfl) (by show(i.n3+1)*_≤_;omega) (by show i.n3+1≤_;omega) (Nat.zero_le _) fun a76 Ip lx Ti s76 Tj afu=>?_);have eR:=dO.p8.eO s76 Ti Tj;refine bO ?_;refine WL.s1 eR.p2 fun nN _ fi=>?_;refine WL.nil (EX.np ?_);have eh:=fi.rj (B:=As.blk xb 140 (EA.cells ⟨i.a1,p1,a76,i.n1,i.c1,p2,p3,(i.n3+1),Ip⟩ D.s bb {s1 with b:={s1.b with ah:=dK s1.b.ah (bs s1.b k o.value reads)},a8:=s1.a8++[k]})) (rfl);refine fL ?_;refine EX.mV (.inl rfl) rfl<|?_;exact⟨⟨i.a1,p1,a76,i.n1,i.c1,p2,p3,(i.n3+1),Ip⟩,_,rfl,ym,(As.gr eh.g9),(As.gr eh.g3),eh.p1.p8.o0.p3.k4⟩
  rw [if_neg (by rw [PQ];simp)] at q;obtain⟨t,PK,Y⟩:=Option.bind_eq_some_iff.1 q;have G2:=YE PQ;have LV:=(cz P U0).1 _ _ _ PK GD G2.2;refine(hW) ao V.b0<|?_
  have hrt:t.a8.length≤1000000:=by
   split at Y
   ·
    have:=((cz P U0).2.2 _ _ _ _ _ Y LV.1 (by simpa using G2.1) (by simp [hlen]) (fun a u=>by rcases List.mem_append.1 u with u | u;exact UR a u;simp at u;subst u;exact G2.2)).2.a8
    omega
   have:=((cz P U0).2.2 _ _ _ _ _ Y LV.1 Io hlen UR).2.a8
   omega
  have W:=V.p5.p5.p9.p6;refine(bY) Sk (wG U0 (by omega) _ _ _ _ _ _ _ W.e4 (As.gr W.g7) (As.gr W.g8) GD G2.2 PK hrt) ?_;rintro _ w5 ⟨E2,Z5,rfl,vE,LW,hr5,qA⟩;have dh:=St.lv W qA vE;have ym:=hZ.trans vE W.size;have cX:=dh.fr (LW);have dj:=cX.fr (hr5);have cS:=dj.p9.drop;have O:=cS.p9.drop;refine(a7) ya O.b2<|(aS) (fun FO=>?_) fun FO=>?_
  ·
   simp at FO
   rw [if_pos FO] at Y;have K:=O.p7;have Ob:=K.bN;have YI:=K.jL;have YJ:=K.size;refine WC.Mk (m:=16) [5] (fun j w w'=>match j with | 4=>gP (fun x=>x∈aJ z) w w' | _=>gP (fun _=>False) w w') (E:=cB [(3,PS w5.heap.size 40 1 o.ask.cells),(4,fun v w'=>∃a c,v=.slice a (C+1) c∧(∀x∈aJ a,x∈aJ z∨w5.heap.size≤x)∧Ow RR.key 40 2 Z5 w' a (C+1) c (reads++[o.ask]))]) K (lB (⟨⟨trivial,⟨fun _ _ _ _ _ c h=>PS.st (fun x hx=>Ob x ⟨_,.head _,hx⟩) c h,trivial⟩⟩,⟨⟨trivial,⟨trivial,trivial⟩⟩,trivial⟩⟩)) mixed (by kernel_rfl) rfl ?_;refine(tn) ao St.g7<|?_;refine DW.e rfl rfl rfl rfl rfl (fun U d S=>OX.aR (us:=o.ask.cells) dx rfl rfl rfl rfl fun b wy l hb=>⟨⟨Nat.le_trans d.1 l.ext.size,d.2.step l.ext⟩,l.ext.p0,_,rfl,_,rfl,Nat.le_trans d.1 l.ge,hb⟩)<|?_;rintro _ wz _ ⟨b91,rfl,_,_⟩
   refine DW.e rfl rfl rfl rfl rfl (fun U d S=>by
    obtain⟨⟨b',Fj,wJ,wK⟩,_⟩:=S;simp only [Value.slice.injEq,Option.some.injEq,Addr.mk.injEq,and_true,true_and] at Fj;subst Fj;exact OX.ab4 lN rfl rfl rfl (As.gs d.2.g0) (fun x hx=>d.2.lV _ M0 x hx) (SR.dc (A:=fun _=>True) (x:=o.ask) wK trivial rfl (by simp [Key.cells,Value.oneCell']) rfl) (by omega) (by omega) fun a' c' wy h1 h2 h3 h4=>⟨⟨Nat.le_trans d.1 h3.size,d.2.same M0 h3.p h2⟩,h3.p,_,rfl,a',c',rfl,(fun x hx=>by rcases h4 x hx with h | h;exact .inl h;exact .inr (Nat.le_trans d.1 h)),h1⟩) ?_
   rintro _ wz _ ⟨a4,c4,rfl,_,_⟩;refine cy ?_;refine DP .r (fun _ d=>PV.mq EZ (bU.range (As.gb d.2.g3)) rfl rfl)<|(tn) aO St.g3<|(tn) ao St.g7<|(cQ)<|?_;rintro w6 ⟨CH,dT⟩ ⟨hF4,⟨hF3,_⟩⟩;obtain⟨_,_,he4,YK,ho4⟩:=hF4;simp only [Value.slice.injEq,true_and] at he4;obtain⟨rfl,rfl⟩:=he4;have ef:=dT;have dR:=ef.swap (B:=As.os RR.key 40 2 a4 (C+1) c4 (reads++[o.ask])) ho4 YK Ob YI YJ;refine(bY) Pp (qC (k:=o.ask) P G2.2 (dR.one (.tail _ (.tail _ (.tail _ (.tail _ (.head _)))))) (As.gr dR.g2) (As.gr dR.g1)) ?_;rintro _ w7 ⟨rfl,jG⟩;have X:=dR.xE M4 jG;refine WL.go rfl (OX.aR (us:=[.string (bS (valOf aa x.ab) t.b o.ask)]) js rfl rfl rfl rfl fun aod w8 YL YM=>?_);have eW:=X.da YL YM;refine WL.ap rfl rfl eW.p9 (SR.dc (A:=fun _=>True) (x:=bS (valOf aa x.ab) t.b o.ask) (As.gb eW.g0) trivial rfl (by simp [Value.oneCell']) rfl) fun afv YN w9 ajW ajX dO=>?_;refine bO ?_;refine WL.nil (EX.np ?_);refine nx ?_;refine eB (U0,t,E2,reads++[o.ask],ae++[bS (valOf aa x.ab) t.b o.ask],Z5,a4,(C+1),c4,afv,(N+1),YN) ⟨dO.p1.drop.p8.drop.p8.p3.p4.p8.p8.p7.p6.p7,⟨Y,LV.1,by omega,ym,by simpa using G2.1,by simp [hlen],(fun a u=>by rcases List.mem_append.1 u with u | u;exact UR a u;simp at u;subst u;exact G2.2),(fun y hy=>by rcases YK y hy with h | h;exact hfr y h;omega),trivial⟩⟩
  simp at FO
  rw [if_neg FO] at Y;refine bO ?_;refine eB (U0,t,E2,reads,ae,Z5,z,C,L,Q,N,R) ⟨O.p6.drop.p8.p1.p2.p6.p6.p5.p8.p8,⟨Y,LV.1,by omega,ym,Io,hlen,UR,hfr,trivial⟩⟩
 simp at g13
 rw [if_pos g13] at q;simp only [Option.some.injEq] at q;subst q;refine cy ?_;refine EX.mV (.inr rfl) rfl<|?_;exact⟨i,_,rfl,hZ,(As.gr G.g5),(As.gr G.g6),G.p4.p4.p8.p5.k4⟩
set_option maxHeartbeats 1600000 in
theorem K5{s:ES}{f:Nat}(J:aq aa) (gF:St w M Z w [As.blk xb 140 (E.cells D.s bb s),As.jO prog 176 aa x D,As.map Key.val bb s.busy,As.os RR.key 40 2 E.a3 E.n3 E.c3 s.a8]) (hi:Rd RR.aD 4 Z w E.a1 E.n1 E.c1 s.b.ab) (hr:Rd RR.ei 8 Z w E.a2 E.n2 E.c2 s.b.ah) (K:Good aa x.ab s) (Y:s.b.ab.length≤1000000) (hk:ep aa k) (wG:∀g,g<f→UpC aa x D xb bb g) (d:kW aa (valOf aa x.ab) (f+1) s k=some s') (zJ:s'.a8.length≤1000000):Calls prog 91 #[.pointer (some ⟨xb,0,none⟩),k.val] w fun e w'=>∃(l:EA) (Z':Nat→Prop),e=.returned (.tuple #[])∧bK w.heap.size Z Z'∧Rd RR.aD 4 Z' w' l.a1 l.n1 l.c1 s'.b.ab∧Rd RR.ei 8 Z' w' l.a2 l.n2 l.c2 s'.b.ah∧St w M Z' w' [As.blk xb 140 (l.cells D.s bb s'),As.jO prog 176 aa x D,As.map Key.val bb s'.busy,As.os RR.key 40 2 l.a3 l.n3 l.c3 s'.a8]:=by
 unfold kW at d
 have hbk:(bF s.busy k).getD (.bool false)=.bool (s.on k):=by unfold ES.on;rcases K.busy k with h | h <;> rw [h] <;> rfl
 refine enter func91 rfl ntmps91 rfl<|?_;have aQ:=gF;have st1:=aQ.fr hi;have st2:=st1.fr hr;refine(dy) st2 fun b3 w1 H6 wK F=>?_;refine cy ?_;refine WC.dZ (t:=14) (v:=.bool (decide (s.e≠0) || aw k)) F ?_<|?_
 ·
  refine(a7) ya F.b3<|(db) (fun g11=>?_) (fun g11=>?_)
  ·
   exact(cA) (by simp only [g11];first | rfl | simp) (F)
  refine(aZ) ao F.b0<|(eP) (ew (k:=k)) F fun w2 s2 o=>?_;exact(cA) (by simp only [g11];first | rfl | simp) (o)
 intro w2 o;refine(aS) (fun g14=>?_) fun g14=>?_
 ·
  rw [if_pos (by simpa using g14)] at d;simp only [Option.some.injEq] at d;subst d;refine bO ?_;refine EX.mV (.inl rfl) rfl<|?_;exact⟨E,Z,rfl,bK.refl _ _,(As.gr o.g2),(As.gr o.g1),o.p6.p6.p6.p6.k4⟩
 have wv:aw k=false:=by simp at g14;exact g14.2
 rw [if_neg (by simpa using g14)] at d;refine cy ?_;have U1:=o.bN;have afw:=o.jL;have afx:=o.size;refine WC.o7 (m:=11) [9] (E:=cB [(6,fun v _=>∃f1 f2 f3,v=.tuple #[.agg ((aC s.b.ah k).row f1 f2 f3).toArray,.bool (aA s.b.ah k).isSome]),(10,PB w2.heap.size 88 [.int .i64 0,.string ⟨#[]⟩,.string ⟨#[]⟩,.slice none 0 0,.int .i64 0,.int .i64 0,.int .i64 0,.bool false])]) o (bm (⟨fun _ _ _ _ _ _ _ h=>h,⟨fun _ _ _ _ _ _ c h=>PB.st U1 c h,trivial⟩⟩)) mixed (by kernel_rfl) rfl ?_;refine cy ?_;refine DP .r (fun _ i=>PV.ld1 (j:=3) dD (bU.range (As.gb i.2.g3)) rfl rfl)<|(gN) ao St.g0<|?_;refine DW.e rfl rfl rfl rfl rfl (fun wx i hF=>OX.call kN rfl rfl ((ee (k:=k) (As.gr i.2.g1)).mono ?_))<|?_
 ·
  rintro _ wy ⟨f1,f2,f3,rfl,hy⟩;exact⟨_,rfl,⟨Nat.le_trans i.1 hy.size,i.2.step hy⟩,hy.p0,_,rfl,⟨f1,f2,f3,rfl⟩⟩
 rintro _ wz _ ⟨f1,f2,f3,rfl⟩;refine cq ?_;refine DW.e rfl rfl rfl rfl rfl (fun wx i hF=>OX.alloc nL rfl fun b wy L hb=>⟨⟨Nat.le_trans i.1 L.ext.size,i.2.step L.ext⟩,L.ext.p0,_,rfl,_,rfl,Nat.le_trans i.1 L.ge,hb⟩)<|?_;rintro _ wz _ ⟨b4,rfl,_,_⟩;refine(cQ) ?_;rintro w3 ⟨oy,ja⟩ ⟨zD,⟨_,_⟩⟩;have hY:=ja.tj zD U1 afw afx;refine(cJ) fY hY fun w4 jU j3 P=>?_;refine nx ?_;refine WL.nil (EX.np ?_);refine bO ?_;refine WC.dZ (t:=35) (v:=.bool (ay s.b k)) P ?_<|?_
 ·
  have DK:=P.bN;refine WC.dS (m:=9) P mixed<|(oo) (fun Q=>?_) (fun Q=>?_)
  ·
   refine(iv) aP St.g0<|cy ?_;refine DP .r (fun _ i=>PV.ld1 (j:=1) aP (bU.range (As.gb i.2.g4)) rfl rfl)<|(cQ)<|?_;rintro w5 ⟨pC,q⟩ _;exact(cA) (by unfold ay;simp only [Q];first | rfl | simp) (q)
  refine(cQ) ?_;rintro w5 ⟨pC,q⟩ _;exact(cA) (by unfold ay;simp only [Q];first | rfl | simp) (q)
 intro w5 q;refine(aS) (fun R=>?_) fun R=>?_
 ·
  rw [if_pos R] at d;simp only [Option.some.injEq] at d;subst d;refine bO ?_;refine EX.mV (.inl rfl) rfl<|?_;exact⟨E,Z,rfl,bK.refl _ _,(As.gr q.g3),(As.gr q.g2),q.p7.p7.p7.p7.k4⟩
 rw [if_neg (by rw [R];simp)] at d;refine cy ?_;have YF:=q.bN;refine WC.dS (m:=5) q mixed<|(iv) nJ St.g4<|(gN) ao St.g1<|(cQ)<|?_;rintro w6 ⟨rY,G⟩ _;refine WP .r (PV.jQ cZ gL Cf (As.gm G.g6) (hbk) rfl rfl)<|(aS) (fun S=>?_) fun S=>?_
 ·
  rw [if_pos S] at d;refine(aZ) ao G.b1<|(eP) (de (k:=k)) G fun w7 s7 C=>?_;refine(aS) (fun H=>?_) fun H=>?_
  ·
   simp at H
   rw [if_neg (by rw [H];simp)] at d;simp only [Option.some.injEq] at d;subst d;refine cy ?_;refine WL.s1 C.p4 fun w8 _ N=>?_;refine nx ?_;have u:=N.rj (B:=As.blk xb 140 (EA.cells E D.s bb {s with e:=43})) (rfl);refine cq ?_;refine EX.mV (.inl rfl) rfl<|?_;exact⟨E,Z,rfl,bK.refl _ _,(As.gr u.g4),(As.gr u.g3),u.p7.p7.p7.p3.k4⟩
  simp at H
  rw [if_pos H] at d;simp only [Option.some.injEq] at d;subst d;refine cy ?_;refine EX.mV (.inl rfl) rfl<|?_;exact⟨E,Z,rfl,bK.refl _ _,(As.gr C.g3),(As.gr C.g2),C.p7.p7.p7.p7.k4⟩
 rw [if_neg (by rw [S];simp)] at d;refine cq ?_;have hN7:=G.bN;refine WC.dS (m:=5) G mixed<|(iv) nJ St.g4<|(gN) ao St.g1<|(cQ)<|?_;rintro w7 ⟨Tk,C⟩ _;refine WL.go rfl (OX.put cZ gL (As.gm C.g6) rfl rfl rfl fun w8 zB vy=>?_);have N:=C.p6.jW zB vy;refine nx ?_;obtain⟨⟨s2,r2⟩,hp,d⟩:=Option.bind_eq_some_iff.1 d;obtain⟨s3,y,d⟩:=Option.bind_eq_some_iff.1 d;simp only [Option.some.injEq] at d;subst d;have T:=(cz J f).2.1 _ _ _ _ _ hp (K.on k);have K4:=hk.gM wv;have U:s3.a8.length≤1000000:=zJ
 have YO:s2.a8.length≤1000000:=by
  split at y
  ·
   have:=((cz J f).2.2 _ _ _ _ _ y T.1 K4 rfl (fun a ha=>by cases ha)).2.a8
   exact Nat.le_trans this U
  simp only [Option.some.injEq] at y;subst y;exact U
 have afy:s2.b.ab.length≤1000000:=by rw [T.1.aD,← K.aD];exact Y
 refine(aZ) ao N.b2<|?_;have u:=N.p7.p1.p7.p7;refine(bY) Xr (CD (s:={s with busy:=cM s.busy k (.bool true)}) (E:=E) J u.e4 (As.gr u.g7) (As.gr u.g6) (K.on k) Y wG hp YO) ?_;rintro _ w9 ⟨E2,Z2,rfl,vD,afz,afA,nP⟩;have dj:=St.lv u nP vD;have mC:=(bK.refl w.heap.size Z).trans vD u.size;have cS:=dj.fr (afz);have dI:=cS.fr (afA);have gy:=dI.p9.drop;have O:=gy.p8.drop;refine(aS) (fun V=>?_) fun V=>?_
 ·
  rw [if_pos V] at y;refine(aZ) ao (bU.range (As.gb O.g7))<|?_;have z:=O.p5.p5.p5.p5;refine(bY) Xs (Im (s:=s2) (E:=E2) J z.e4 (As.gr z.g5) (As.gr z.g4) T.1 afy K4 wG y U) ?_;rintro _ iT ⟨E3,Z3,rfl,qD,afB,afC,qE⟩;have I:=St.lv z qE qD;have W:=mC.trans qD z.size;have dG:=I.fr (afB);have eW:=dG.fr (afC);have dO:=eW.p7.drop;have eR:=dO.p6.drop;refine bO ?_;have wM:=eR.bN;refine WC.dS (m:=5) eR mixed<|(iv) nJ St.g2<|(gN) ao St.g7<|(cQ)<|?_;rintro iY ⟨yh,fi⟩ _;refine WL.go rfl (OX.del cZ gL (As.gm fi.g4) rfl rfl fun lx zG zH=>?_);have X:=fi.p4.jW zG zH;refine nx ?_;refine EX.mV (.inr rfl) rfl<|?_;exact⟨_,_,rfl,W,(As.gr X.g2),(As.gr X.g1),X.p5.p1.p5.p5.k4⟩
 rw [if_neg (by rw [V];simp)] at y;simp only [Option.some.injEq] at y;subst y;have W:=mC;refine bO ?_;have wM:=O.bN;refine WC.dS (m:=5) O mixed<|(iv) nJ St.g2<|(gN) ao St.g7<|(cQ)<|?_;rintro iT ⟨yh,z⟩ _;refine WL.go rfl (OX.del cZ gL (As.gm z.g4) rfl rfl fun iY Tl Tm=>?_);have I:=z.p4.jW Tl Tm;refine nx ?_;refine EX.mV (.inr rfl) rfl<|?_;exact⟨_,_,rfl,W,(As.gr I.g2),(As.gr I.g1),I.p5.p1.p5.p5.k4⟩
theorem Tn(c:aq aa) (d:x.ab.length≤1000000):∀f,UpC aa x D xb bb f:=by
 intro f
 induction f using Nat.strongRecOn with
 | _ f e=>
  intro w M Z s E k s' h hi hr a hk b i
  cases f with
  | zero=>simp [kW] at b
  | succ f=>exact K5 c h hi hr a (by rw [a.aD];exact d) hk (fun g j=>e g (by omega)) b i
theorem CI(a:s.size≤1000) (w:World):Calls prog 192 #[.string s] w fun e w'=>∃(v:Int) (ok:Bool) (ev:Value),e=.returned (.tuple #[.int .i64 v,ev])∧(-9223372036854775808≤v∧v≤9223372036854775807)∧((ok=true∧ev=.nilIface)∨(ok=false∧∃t y,ev=.iface t y))∧(ok=false→ev=.iface 250 (.int .i64 2)∨ev=.iface 250 (.int .i64 1))∧aT [] w w':=by
 refine(Any.internal_strconv_Atoi_all {laysC172 with} s (by omega) w).mono fun e w' ⟨he,hw⟩=>?_
 have hc:aT [] w w':=by
  rcases hw with rfl | ⟨t,rfl⟩
  ·
   exact aT.refl _ _
  exact yc _ _ _
 cases h:Lib.atoiAll s.data.toList
 ·
  rename_i v
  rw [h] at he;exact⟨v,true,.nilIface,he,Lib.atoiAll_bounds h,.inl ⟨rfl,rfl⟩,(fun e=>by cases e),hc⟩
 ·
  rw [h] at he;exact⟨0,false,_,he,by decide,.inr ⟨rfl,_,_,rfl⟩,fun _=>.inl rfl,hc⟩
 rw [h] at he;exact⟨Lib.atoiSat s.data.toList,false,_,he,Lib.atoiSat_bounds _,.inr ⟨rfl,_,_,rfl⟩,fun _=>.inr rfl,hc⟩
set_option maxHeartbeats 400000
theorem vF :CR prog 140 #[.int .i64 n] w (.bool (decide (30≤n) && decide (n≤32))):=by
 refine enter func140 rfl ntmps140 rfl<|?_;have aQ:=St.s0 w;refine fL ?_;refine WC.kR (t:=2) (v:=.bool (decide (30≤n) && decide (n≤32))) aQ ?_<|?_
 ·
  refine(db) (fun g5=>?_) (fun g5=>?_)
  ·
   exact(gH) (by simp only [g5];first | rfl | simp) (aQ)
  exact(gH) (by simp only [g5];first | rfl | simp) (aQ)
 intro w1 st1;refine(bz) ?_;exact⟨rfl,(St.cg st1)⟩
theorem CJ :CR prog 141 #[.int .i64 n] w (.bool (decide (1≤n) && decide (n≤22))):=by
 refine enter func141 rfl ntmps141 rfl<|?_;have aQ:=St.s0 w;refine fL ?_;refine WC.kR (t:=2) (v:=.bool (decide (1≤n) && decide (n≤22))) aQ ?_<|?_
 ·
  refine(db) (fun g5=>?_) (fun g5=>?_)
  ·
   exact(gH) (by simp only [g5];first | rfl | simp) (aQ)
  exact(gH) (by simp only [g5];first | rfl | simp) (aQ)
 intro w1 st1;refine(bz) ?_;exact⟨rfl,(St.cg st1)⟩
theorem cO :CR prog 40 #[k.val] w (.bool (aw k)):=by
 refine enter func40 rfl ntmps40 rfl<|?_;have aQ:=St.s0 w;refine(dy) aQ fun b1 w1 a b st1=>?_;refine cy ?_;refine WC.kR (t:=2) (v:=.bool (aw k)) st1 ?_<|?_
 ·
  refine(a7) aP st1.b0<|(db) (fun g6=>?_) (fun g6=>?_)
  ·
   exact(gH) (by unfold aw;simp only [g6];first | rfl | simp) (st1)
  refine(a7) aP st1.b0<|(db) (fun g11=>?_) (fun g11=>?_)
  ·
   exact(gH) (by unfold aw;simp only [g6,g11];first | rfl | simp) (st1)
  refine(a7) aP st1.b0<|?_;exact(gH) (by unfold aw;simp only [g6,g11];first | rfl | simp) (st1)
 intro w2 st2;refine(bz) ?_;exact⟨rfl,(St.cg st2)⟩
theorem nQ :CR prog 99 #[k.val] w (.bool (decide (k.kind=31) || decide (k.kind=32))):=by
 refine enter func99 rfl ntmps99 rfl<|?_;have aQ:=St.s0 w;refine(dy) aQ fun b1 w1 a b st1=>?_;refine cy ?_;refine WC.kR (t:=2) (v:=.bool (decide (k.kind=31) || decide (k.kind=32))) st1 ?_<|?_
 ·
  refine(a7) aP st1.b0<|(db) (fun g6=>?_) (fun g6=>?_)
  ·
   exact(gH) (by simp only [g6];first | rfl | simp) (st1)
  refine(a7) aP st1.b0<|?_;exact(gH) (by simp only [g6];first | rfl | simp) (st1)
 intro w2 st2;refine(bz) ?_;exact⟨rfl,(St.cg st2)⟩
theorem fJ(hk:cY k):CR prog 105 #[k.val] w (.bool (decide (k.kind=32))):=by
 refine enter func105 rfl ntmps105 rfl<|?_;have aQ:=St.s0 w;refine(dy) aQ fun b1 w1 a b st1=>?_;refine cy ?_;refine WC.kR (t:=2) (v:=.bool (decide (k.kind=32))) st1 ?_<|?_
 ·
  refine(a7) aP st1.b0<|(db) (fun g6=>?_) (fun g6=>?_)
  ·
   exact(gH) (by simp only [g6];first | done | rfl | simp) (st1)
  refine(a7) aP st1.b0<|(bY) Xv (CJ (n:=k.kind)) ?_;rintro _ w2 ⟨rfl,s2⟩;rw [show(decide (1≤k.kind) && decide (k.kind≤22))=false by(rcases hk with h | h <;> simp <;> omega)];have st2:=st1.step s2;exact(gH) (by simp only [g6];first | done | rfl | simp) (st2)
 intro w2 st2;refine(bz) ?_;exact⟨rfl,(St.cg st2)⟩
theorem lk{n:Nat}(hk:30≤k.kind∧k.kind≤32) (ht:k.text=itoa n) (hn:n≤99):CR prog 101 #[k.val] w (.int .i64 (n:Int)):=by
 obtain⟨kd,j⟩:=k;simp only at hk ht;subst ht;refine enter func101 rfl ntmps101 rfl<|?_;have aQ:=St.s0 w;refine(dy) aQ fun b1 w1 l o st1=>?_;refine(a7) aP st1.b0<|(bY) Pf (vF (n:=kd)) ?_;rintro _ w2 ⟨rfl,s2⟩;rw [show(decide (30≤kd) && decide (kd≤32))=true by(simp;omega)];have st2:=st1.step s2;refine cq ?_;refine WC.fK rfl<|(a7) fy st2.b0<|(eP) (Ff hn w2) st2 fun w3 q b=>?_;refine kS ?_;refine WC.dZ (t:=31) (v:=.bool false) b ?_<|?_
 ·
  have u:=b.bN;refine WC.dB (m:=15) (E:=cB [(12,fun v _=>v=.string (itoa n))]) b (bm (⟨fun _ _ _ _ _ _ _ h=>h,trivial⟩)) mixed (by kernel_rfl)<|nx ?_;refine DP .r (fun _ g=>PV.QE zl rfl)<|nx ?_;refine DW.dm (t:=17) rfl (fun g17=>?_) (fun g17=>?_)
  ·
   refine(cQ) ?_;rintro w4 ⟨c,a⟩ _;exact(cA) (tG g17) (a)
  refine cy ?_;refine DW.dm (t:=21) rfl (fun g21=>?_) (fun g21=>?_)
  ·
   refine(cQ) ?_;rintro w4 ⟨c,a⟩ _;exact(cA) (tG (aj g17 g21)) (a)
  refine cy ?_;refine DW.dm (t:=25) rfl (fun d=>?_) (fun d=>?_)
  ·
   refine(cQ) ?_;rintro w4 ⟨c,a⟩ _;exact(cA) (tG (aj g17<|aj g21 d)) (a)
  refine nx ?_;refine DW.c0 (fun i g y=>jl (n:=(n:Int)) (by omega) (by omega) i)<|(iv) fy St.g0<|(cQ)<|?_;rintro w4 ⟨c,a⟩ ⟨_,_⟩;exact(cA) (tG (aj g17<|aj g21 d)) (a)
 intro w4 a;refine(aS) (fun e=>?_) fun e=>?_
 ·
  exact absurd e (by simp)
 ·
  refine(bz) ?_;exact⟨rfl,(St.cg a)⟩
 -- z B C.T
theorem ib{n:Nat}(hk:30≤k.kind∧k.kind≤32) (ht:k.text=itoa n) (hn:n≤99):CR prog 98 #[k.val] w (.bool true):=by
 refine enter func98 rfl ntmps98 rfl<|?_;have aQ:=St.s0 w;refine(dy) aQ fun b1 w1 b c st1=>?_;refine(a7) aP st1.b0<|(bY) Pf (vF (n:=k.kind)) ?_;rintro _ w2 ⟨rfl,s2⟩;rw [show(decide (30≤k.kind) && decide (k.kind≤32))=true by(simp;omega)];have st2:=st1.step s2;refine bO ?_;refine WC.oz rfl<|(aZ) ao st2.b0<|(eP) (lk (k:=k) hk ht hn) st2 fun w3 d a=>?_;refine(bz) ?_;exact⟨by simp,(St.cg a)⟩
theorem om{a:Option Addr}{r c:Nat}(hr:fP A w a r c aa):CR prog 100 #[.slice a r c,.int .i64 n] w ((aM aa n).val):=by
 have hle:=hr.le;have hlen:=hr.len;refine enter func100 rfl ntmps100 rfl<|?_;have aQ:=St.s0 w;refine(eZ) aQ fun b4 w1 o q st1=>?_;refine cy ?_;refine WC.dZ (t:=17) (v:=.bool (decide (n<0) || (decide ((r:Int)≤n) || decide (99<n)))) st1 ?_<|?_
 ·
  refine(db) (fun g8=>?_) (fun g8=>?_)
  ·
   exact(cA) (by simp only [g8];first | rfl | simp) (st1)
  refine(db) (fun g14=>?_) (fun g14=>?_)
  ·
   exact(cA) (by simp only [g8,g14];first | rfl | simp) (st1)
  exact(cA) (by simp only [g8,g14];first | rfl | simp) (st1)
 intro w2 st2;refine(aS) (fun g17=>?_) fun g17=>?_
 ·
  have hk:aM aa n=eS:=by unfold aM;rw [if_pos (by simp at g17;omega)]
  refine(cJ) hP st2 fun w3 u y b=>?_;refine(kT) ao b.b0<|?_;rw [hk];exact⟨rfl,(St.cg b)⟩
 simp at g17
 obtain⟨i,rfl⟩:∃i:Nat,n=i:=⟨n.toNat,by omega⟩
 have hi:i<aa.length:=by omega
 have hk:aM aa i=⟨if aF aa i then 32 else 31,itoa i⟩:=by unfold aM;rw [if_neg (by omega)];rfl
 have g:=bW hi;refine kS ?_;obtain⟨z,B,C,h,_,⟨q1,F,G,rfl,_⟩,l,_⟩:=(hr.ext (St.cg st2)).at (ak hi);refine cq ?_;refine WP .r (PV.dU jk h rfl rfl (by omega))<|nx ?_;refine WP .r (PV.ld1 (j:=0) dH l rfl rfl)<|(aS) (fun g23=>?_) fun g23=>?_
 ·
  have e:aM aa i=⟨32,itoa i⟩:=by rw [hk,g,g23];rfl
  refine(eP) (jl (n:=(i:Int)) (by omega) (by omega) w2) st2 fun w3 m b=>?_;refine WP .r (PV.bB (us:=_) Cd rfl rfl rfl)<|(cJ) hP b fun w4 H I d=>?_;refine(kT) ao d.b0<|?_;rw [e];exact⟨rfl,(St.cg d)⟩
 have e:aM aa i=⟨31,itoa i⟩:=by rw [hk,g,g23];rfl
 refine(eP) (jl (n:=(i:Int)) (by omega) (by omega) w2) st2 fun w3 m b=>?_;refine WP .r (PV.bB (us:=_) Cd rfl rfl rfl)<|(cJ) hP b fun w4 J K d=>?_;refine(kT) ao d.b0<|?_;rw [e];exact⟨rfl,(St.cg d)⟩
set_option maxHeartbeats 400000
set_option maxRecDepth 1000000 in
theorem kQ(b:s.size≤1000):CR prog 254 #[.string s] w (.string s):=by
 refine enter func254 rfl ntmps254 rfl<|?_;have aQ:=St.s0 w;refine aY ?_;refine(aS) (fun g6=>?_) fun g6=>?_
 ·
  refine(bz) ?_;exact⟨by rw [show s=⟨#[]⟩ from ByteArray.ext (Array.eq_empty_of_size_eq_zero (show s.size=0 by have:=of_decide_eq_true g6;omega))],(St.cg aQ)⟩
 have h0:s.size≠0:=by have:=of_decide_eq_false g6;omega
 obtain⟨i,hi,a⟩:=Option.map_eq_some_iff.1 (show(prog.info? 5).map (fun i=>(i.zero,i.size,i.bytes))=some (some (.int .u8 0),1,1) by kernel_rfl);simp only [Prod.mk.injEq] at a;obtain⟨c,h1,hb⟩:=a;obtain⟨u1,d,e,k1,k2,k3,hc⟩:=yH (S:=9) (it:=3) (ty1:=3) (ty2:=9) underlying211 hi c h1 hb underlying412 h0 b w;refine fL ?_;refine WL.go rfl (OX.VO rfl rfl rfl k1 ?_);refine ez ?_;refine WL.go rfl (OX.VP rfl rfl rfl k2 ?_);refine dd ?_;refine WP .r (PV.DU O3 0 (show some (⟨w.heap.size,0,none⟩:Addr)=some ⟨w.heap.size,0,none⟩ from rfl) rfl rfl rfl (by omega))<|bO ?_;refine WL.go rfl (OX.acf rfl rfl rfl k3 ?_);refine(bz) ?_;exact⟨rfl,hc⟩
theorem wN(d:s.size≤1000) (g:w.cell? ⟨2,0,none⟩=some .nilIface):Calls prog 224 #[.string f,.string s] w fun e w'=>∃b,e=.returned (.pointer (some ⟨b,0,none⟩))∧aT [] w w':=by
 have hr:w.rangeAt 2 0 [.nilIface]:=fun j v a=>by
  cases j with
  | zero=>simp at a;subst a;exact g
  | succ j=>simp at a
 refine enter func224 rfl ntmps224 rfl<|?_;have aQ:=St.s0 w;refine fL ?_;have i:=aQ.bN;refine WC.dB (m:=4) (E:=cB [(2,fun v _=>v=.string s)]) aQ (bm (⟨fun _ _ _ _ _ _ _ h=>h,trivial⟩)) mixed (by kernel_rfl)<|bO ?_;refine DW.c0 (fun l c o=>kQ d)<|?_;refine DP .r (fun _ c=>PV.mq zm (aW hr (St.cg c.2) (by simp)) rfl rfl)<|(cQ)<|?_;rintro w1 ⟨q,st1⟩ ⟨_,_⟩;refine WP .r (PV.bB (us:=[.string f,.string s,.nilIface]) GQ rfl rfl rfl)<|(dy) st1 fun u w2 y z st2=>?_;refine(bz) ?_;exact⟨_,rfl,(St.cg st2)⟩
theorem wO(d:s.size≤1000) (g:w.cell? ⟨2,0,none⟩=some (.iface t p)):Calls prog 224 #[.string f,.string s] w fun e w'=>∃b,e=.returned (.pointer (some ⟨b,0,none⟩))∧aT [] w w':=by
 have hr:w.rangeAt 2 0 [(.iface t p)]:=fun j v a=>by
  cases j with
  | zero=>simp at a;subst a;exact g
  | succ j=>simp at a
 refine enter func224 rfl ntmps224 rfl<|?_;have aQ:=St.s0 w;refine fL ?_;have i:=aQ.bN;refine WC.dB (m:=4) (E:=cB [(2,fun v _=>v=.string s)]) aQ (bm (⟨fun _ _ _ _ _ _ _ h=>h,trivial⟩)) mixed (by kernel_rfl)<|bO ?_;refine DW.c0 (fun l c o=>kQ d)<|?_;refine DP .r (fun _ c=>PV.mq zm (aW hr (St.cg c.2) (by simp)) rfl rfl)<|(cQ)<|?_;rintro w1 ⟨q,st1⟩ ⟨_,_⟩;refine WP .r (PV.bB (us:=[.string f,.string s,(.iface t p)]) GQ rfl rfl rfl)<|(dy) st1 fun u w2 y z st2=>?_;refine(bz) ?_;exact⟨_,rfl,(St.cg st2)⟩
theorem afD:prog.globalNamed "strconv.ErrSyntax" = some 2:=by kernel_rfl
theorem zK(ht:lD prog A w) (a:s.size≤1000):Calls prog 224 #[.string f,.string s] w fun e w'=>∃b,e=.returned (.pointer (some ⟨b,0,none⟩))∧aT [] w w':=by
 obtain⟨ev,c,d⟩:=ht.err (.inl rfl) afD
 rcases d with rfl | ⟨t,p,rfl⟩
 ·
  exact wN a c
 exact wO a c
theorem wP(d:s.size≤1000) (g:w.cell? ⟨3,0,none⟩=some .nilIface):Calls prog 225 #[.string f,.string s] w fun e w'=>∃b,e=.returned (.pointer (some ⟨b,0,none⟩))∧aT [] w w':=by
 have hr:w.rangeAt 3 0 [.nilIface]:=fun j v a=>by
  cases j with
  | zero=>simp at a;subst a;exact g
  | succ j=>simp at a
 refine enter func225 rfl ntmps225 rfl<|?_;have aQ:=St.s0 w;refine fL ?_;have i:=aQ.bN;refine WC.dB (m:=4) (E:=cB [(2,fun v _=>v=.string s)]) aQ (bm (⟨fun _ _ _ _ _ _ _ h=>h,trivial⟩)) mixed (by kernel_rfl)<|bO ?_;refine DW.c0 (fun l c o=>kQ d)<|?_;refine DP .r (fun _ c=>PV.mq zm (aW hr (St.cg c.2) (by simp)) rfl rfl)<|(cQ)<|?_;rintro w1 ⟨q,st1⟩ ⟨_,_⟩;refine WP .r (PV.bB (us:=[.string f,.string s,.nilIface]) GQ rfl rfl rfl)<|(dy) st1 fun u w2 y z st2=>?_;refine(bz) ?_;exact⟨_,rfl,(St.cg st2)⟩
theorem wQ(d:s.size≤1000) (g:w.cell? ⟨3,0,none⟩=some (.iface t p)):Calls prog 225 #[.string f,.string s] w fun e w'=>∃b,e=.returned (.pointer (some ⟨b,0,none⟩))∧aT [] w w':=by
 have hr:w.rangeAt 3 0 [(.iface t p)]:=fun j v a=>by
  cases j with
  | zero=>simp at a;subst a;exact g
  | succ j=>simp at a
 refine enter func225 rfl ntmps225 rfl<|?_;have aQ:=St.s0 w;refine fL ?_;have i:=aQ.bN;refine WC.dB (m:=4) (E:=cB [(2,fun v _=>v=.string s)]) aQ (bm (⟨fun _ _ _ _ _ _ _ h=>h,trivial⟩)) mixed (by kernel_rfl)<|bO ?_;refine DW.c0 (fun l c o=>kQ d)<|?_;refine DP .r (fun _ c=>PV.mq zm (aW hr (St.cg c.2) (by simp)) rfl rfl)<|(cQ)<|?_;rintro w1 ⟨q,st1⟩ ⟨_,_⟩;refine WP .r (PV.bB (us:=[.string f,.string s,(.iface t p)]) GQ rfl rfl rfl)<|(dy) st1 fun u w2 y z st2=>?_;refine(bz) ?_;exact⟨_,rfl,(St.cg st2)⟩
theorem afE:prog.globalNamed "strconv.ErrRange" = some 3:=by kernel_rfl
theorem zL(ht:lD prog A w) (a:s.size≤1000):Calls prog 225 #[.string f,.string s] w fun e w'=>∃b,e=.returned (.pointer (some ⟨b,0,none⟩))∧aT [] w w':=by
 obtain⟨ev,c,d⟩:=ht.err (.inr rfl) afE
 rcases d with rfl | ⟨t,p,rfl⟩
 ·
  exact wP a c
 exact wQ a c
theorem CK(ht:lD prog A w) (a:s.size≤1000):Calls prog 193 #[.string f,.string s,.int .i64 0,.int .i64 0,.iface 250 (.int .i64 2)] w fun e w'=>∃b,e=.returned (.iface 253 (.pointer (some ⟨b,0,none⟩)))∧aT [] w w':=by
 refine enter func193 rfl ntmps193 rfl<|?_;have aQ:=St.s0 w;refine aY ?_;refine bO ?_;refine WP .r (PV.Jp underlying250 (by intro ms h;cases h) rfl)<|WP .r (PV.QG underlying184 (by kernel_rfl) underlying250 rfl rfl)<|(aS) (fun g12=>?_) fun g12=>?_
 ·
  refine(bY) XY (zK (ht.ext (St.cg aQ)) a) ?_;rintro _ w1 ⟨b,rfl,s1⟩;have st1:=aQ.step s1;refine WP .r (PV.Jp underlying253 (by intro ms h;cases h) rfl)<|(bz) ?_;exact⟨_,rfl,(St.cg st1)⟩
 ·
  exact dL g12
 -- g i j c.0 c.1 d.2 d.3 l
theorem CL(ht:lD prog A w) (a:s.size≤1000):Calls prog 193 #[.string f,.string s,.int .i64 0,.int .i64 0,.iface 250 (.int .i64 1)] w fun e w'=>∃b,e=.returned (.iface 253 (.pointer (some ⟨b,0,none⟩)))∧aT [] w w':=by
 refine enter func193 rfl ntmps193 rfl<|?_;have aQ:=St.s0 w;refine aY ?_;refine bO ?_;refine WP .r (PV.Jp underlying250 (by intro ms h;cases h) rfl)<|WP .r (PV.QG underlying184 (by kernel_rfl) underlying250 rfl rfl)<|(aS) (fun g12=>?_) fun g12=>?_
 ·
  exact dL g12
 ·
  refine bO ?_;refine WP .r (PV.Jp underlying250 (by intro ms h;cases h) rfl)<|WP .r (PV.QG underlying184 (by kernel_rfl) underlying250 rfl rfl)<|(aS) (fun g19=>?_) fun g19=>?_
  ·
   refine(bY) XZ (zL (ht.ext (St.cg aQ)) a) ?_;rintro _ w1 ⟨b,rfl,s1⟩;have st1:=aQ.step s1;refine WP .r (PV.Jp underlying253 (by intro ms h;cases h) rfl)<|(bz) ?_;exact⟨_,rfl,(St.cg st1)⟩
  exact dL g19
 -- d g c.2 c.3 i
theorem CN{ev:Value}(ht:lD prog A w) (a:s.size≤1000) (he:ev=.iface 250 (.int .i64 2)∨ev=.iface 250 (.int .i64 1)):Calls prog 193 #[.string f,.string s,.int .i64 0,.int .i64 0,ev] w fun e w'=>∃b,e=.returned (.iface 253 (.pointer (some ⟨b,0,none⟩)))∧aT [] w w':=by
 rcases he with rfl | rfl
 ·
  exact CK ht a
 exact CL ht a
theorem K6(ht:lD prog A w) (a:s.size≤1000):Calls prog 142 #[.string s] w fun e w'=>∃(v:Int) (ok:Bool) (ev:Value),e=.returned (.tuple #[.int .i64 v,ev])∧(-9223372036854775808≤v∧v≤9223372036854775807)∧((ok=true∧ev=.nilIface)∨(ok=false∧∃t y,ev=.iface t y))∧aT [] w w':=by
 refine enter func142 rfl ntmps142 rfl<|?_;have aQ:=St.s0 w;refine(bY) XM (CI a w) ?_;rintro _ w1 ⟨v,ok,ev,rfl,c,d,g,s1⟩;have st1:=aQ.step s1;refine kg ?_;refine WP .r (PV.VM zl rfl d)<|(aS) (fun g12=>?_) fun g12=>?_
 ·
  refine(bY) XN (CN (ht.ext (St.cg st1)) a (g (by simpa using g12))) ?_;rintro _ w2 ⟨b,rfl,s2⟩;have st2:=st1.step s2;refine(AF) ?_;exact⟨v,false,_,rfl,c,.inr ⟨rfl,_,_,rfl⟩,(St.cg st2)⟩
 refine(AF) ?_;exact⟨v,true,.nilIface,rfl,c,.inl ⟨rfl,rfl⟩,(St.cg st1)⟩
end Go.Rc

