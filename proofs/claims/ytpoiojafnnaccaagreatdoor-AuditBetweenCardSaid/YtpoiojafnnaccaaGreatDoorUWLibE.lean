/- Walks over the program, part WLibE. Conditions: as each theorem says. -/
import Derived.Test.YtpoiojafnnaccaaGreatDoorUFacts
import Derived.Test.YtpoiojafnnaccaaGreatDoorUWK
import Derived.Test.YtpoiojafnnaccaaGreatDoorUBe
import Derived.Test.YtpoiojafnnaccaaGreatDoorUWB
import Derived.Test.YtpoiojafnnaccaaGreatDoorUBd
import Derived.Test.YtpoiojafnnaccaaGreatDoorShelf
import Derived.Test.YtpoiojafnnaccaaGreatDoorUWD
import Derived.Test.YtpoiojafnnaccaaGreatDoorUBf
import Derived.Test.YtpoiojafnnaccaaGreatDoorUBb
set_option linter.all false
namespace Go.Rc
open Go Go.Proofs Go.Proofs.Tryz
variable {ab:List aJ}{x:dV}{D:SD}{xb bb:Nat}{w:World}{M Z A:Nat→Prop}{s f:ByteArray}{E:EA}{k:Key}{s':ES}{n:Int}{t:TypeId}{p:Value}
set_option maxHeartbeats 400000
def UpC(ab:List aJ) (x:dV) (D:SD) (xb bb f:Nat):Prop:=∀(w:World) (M Z:Nat→Prop) (s:ES) (E:EA) (k:Key) (s':ES),St w M Z w [As.blk xb 101 (E.cells D.s bb s),As.mx prog 144 ab x D,As.map Key.val bb s.busy,As.os RR.key 58 2 E.a3 E.n3 E.c3 s.bU]→Rd RR.aH 4 Z w E.a1 E.n1 E.c1 s.b.ah→Rd RR.fl 8 Z w E.a2 E.n2 E.c2 s.b.ak→Good ab x.ah s→gS ab k→oc ab (valOf ab x.ah) f s k=some s'→s'.bU.length≤1000000→
 Calls prog 43 #[.pointer (some ⟨xb,0,none⟩),k.val] w fun e w'=>∃(E':EA) (Z':Nat→Prop),e=.returned (.tuple #[])∧cQ w.heap.size Z Z'∧Rd RR.aH 4 Z' w' E'.a1 E'.n1 E'.c1 s'.b.ah∧Rd RR.fl 8 Z' w' E'.a2 E'.n2 E'.c2 s'.b.ak∧St w M Z' w' [As.blk xb 101 (E'.cells D.s bb s'),As.mx prog 144 ab x D,As.map Key.val bb s'.busy,As.os RR.key 58 2 E'.a3 E'.n3 E'.c3 s'.bU]
set_option maxHeartbeats 1600000 in
theorem Iu{s:ES}{f:Nat}{r:Bool}(hR:ay ab) (bF:St w M Z w [As.blk xb 101 (E.cells D.s bb s),As.mx prog 144 ab x D,As.map Key.val bb s.busy,As.os RR.key 58 2 E.a3 E.n3 E.c3 s.bU]) (hi:Rd RR.aH 4 Z w E.a1 E.n1 E.c1 s.b.ah) (hr:Rd RR.fl 8 Z w E.a2 E.n2 E.c2 s.b.ak) (uj:Good ab x.ah s) (zm:s.b.ah.length≤1000000) (ll:∀g,g<f→UpC ab x D xb bb g) (QT:dL ab (valOf ab x.ah) f s k 0=some (s',r)) (qY:s'.bU.length≤1000000):Calls prog 79 #[.pointer (some ⟨xb,0,none⟩),k.val] w fun e w'=>∃(E':EA) (Z':Nat→Prop),e=.returned (.bool r)∧cQ w.heap.size Z Z'∧Rd RR.aH 4 Z' w' E'.a1 E'.n1 E'.c1 s'.b.ah∧Rd RR.fl 8 Z' w' E'.a2 E'.n2 E'.c2 s'.b.ak∧St w M Z' w' [As.blk xb 101 (E'.cells D.s bb s'),As.mx prog 144 ab x D,As.map Key.val bb s'.busy,As.os RR.key 58 2 E'.a3 E'.n3 E'.c3 s'.bU]:=by
 refine enter func79 rfl ntmps79 rfl<|?_;have aW:=bF;have st1:=aW.fr hi;have st2:=st1.fr hr;refine(eD) st2 fun b3 w1 ic dA aP=>?_;refine nj ?_;refine WC.kj (σ:=Nat × ES × EA × Nat × (Nat→Prop)) (eI:=fun(fu,s1,E1,ix,Z1)=>[(0,.pointer (some ⟨xb,0,none⟩)),(3,.pointer (some ⟨b3,0,none⟩)),(5,.int .i64 (ix:Int))]) (F:=fun(fu,s1,E1,ix,Z1)=>[As.blk xb 101 (E1.cells D.s bb s1),As.map Key.val bb s1.busy,As.os RR.key 58 2 E1.a3 E1.n3 E1.c3 s1.bU,As.ro RR.aH 4 E1.a1 E1.n1 E1.c1 s1.b.ah,As.ro RR.fl 8 E1.a2 E1.n2 E1.c2 s1.b.ak]) (I:=fun(fu,s1,E1,ix,Z1)=>(dL ab (valOf ab x.ah) fu s1 k ix=some (s',r))∧(Good ab x.ah s1)∧(fu≤f)∧(cQ w.heap.size Z Z1)∧True) (μ:=fun(fu,s1,E1,ix,Z1)=>fu) (Zf:=fun(fu,s1,E1,ix,Z1)=>Z1) (f,s,E,0,Z) (aP.p1.p2.p6.p6.p5) Sub.t (⟨QT,uj,Nat.le_refl _,cQ.refl _ _,trivial⟩)<|?_;rintro⟨fu,s1,E1,ix,Z1⟩ w2 aV ⟨dR,qX,hfu,hZ,_⟩;simp only [CA,NA] at aV dR qX hfu hZ ⊢
 obtain⟨Oq,rfl⟩:∃g,fu=g+1:=by cases fu with | zero=>simp [dL] at dR | succ g=>exact⟨g,rfl⟩
 unfold dL at dR
 have hl4:=qX.len
 have alb:s1.b.ah.length≤1000000:=by rw [qX.aH,← uj.aH];exact zm
 refine(bN) Ea aV.b0<|(bp) (fun g17=>?_) fun g17=>?_
 ·
  simp at g17
  rw [if_neg (by simp [g17])] at dR;refine dF ?_;have Ii:=aV.dc;have K6:=aV.mj;have K7:=aV.size;refine WC.ua (m:=11) [9] (E:=dy [(6,fun v _=>∃f1 f2 f3,v=.tuple #[.agg ((aG s1.b.ak k).row f1 f2 f3).toArray,.bool (aD s1.b.ak k).isSome]),(10,PB w2.heap.size 60 [.int .i64 0,.string ⟨#[]⟩,.string ⟨#[]⟩,.slice none 0 0,.int .i64 0,.int .i64 0,.int .i64 0,.bool false])]) aV (bT (⟨fun _ _ _ _ _ _ _ h=>h,⟨fun _ _ _ _ _ _ c h=>PB.st Ii c h,trivial⟩⟩)) mixed (by kernel_rfl) rfl ?_;refine dF ?_;refine DP .r (fun _ hC=>PV.ld1 (j:=3) ez (cJ.range (As.gb hC.2.g0)) rfl rfl)<|(jA) av St.g5<|?_;refine DW.e rfl rfl rfl rfl rfl (fun wx hC hF=>OX.call uA rfl rfl ((fH (k:=k) (As.gr hC.2.g4)).mono ?_))<|?_
  ·
   rintro _ wy ⟨f1,f2,f3,rfl,hy⟩;exact⟨_,rfl,⟨Nat.le_trans hC.1 hy.size,hC.2.step hy⟩,hy.p0,_,rfl,⟨f1,f2,f3,rfl⟩⟩
  rintro _ wz _ ⟨f1,f2,f3,rfl⟩;refine dw ?_;refine DW.e rfl rfl rfl rfl rfl (fun wx hC hF=>OX.alloc uv rfl fun b wy nw hb=>⟨⟨Nat.le_trans hC.1 nw.ext.size,hC.2.step nw.ext⟩,nw.ext.p0,_,rfl,_,rfl,Nat.le_trans hC.1 nw.ge,hb⟩)<|?_;rintro _ wz _ ⟨b6,rfl,_,_⟩;refine(ey) ?_;rintro w3 ⟨eN,bf⟩ ⟨BG,⟨_,_⟩⟩;have br:=bf.yI BG Ii K6 K7;refine(dB) gC br fun w4 jC jI bP=>?_;refine nx ?_;refine WL.nil (EX.np ?_);refine dw ?_;refine WC.fQ (t:=33) (v:=.bool (!(aD s1.b.ak k).isSome || (aG s1.b.ak k).cq)) bP ?_<|?_
  ·
   refine(dT) (fun l9=>?_) (fun l9=>?_)
   ·
    exact(dx) (by simp only [l9];first | rfl | simp) (bP)
   refine(bN) fG bP.b0<|?_;exact(dx) (by simp only [l9];first | rfl | simp) (bP)
  intro w5 bS;refine(bp) (fun jX=>?_) fun jX=>?_
  ·
   rw [if_pos jX] at dR;simp only [Option.some.injEq,Prod.mk.injEq] at dR;obtain⟨JA,QU⟩:=dR;subst JA;subst QU;refine(cm) ?_;exact⟨E1,_,rfl,hZ,(As.gr bS.g4),(As.gr bS.g5),bS.p3.p3.p7.p4.k4⟩
  rw [if_neg (by rw [jX];simp)] at dR;refine dF ?_;have R2:=bS.dc;refine WC.dS (m:=7) bS mixed<|(lF) aX St.g0<|dF ?_;refine DP .r (fun _ hC=>PV.ld1 (j:=1) aX (cJ.range (As.gb hC.2.g1)) rfl rfl)<|(ey)<|?_;rintro w6 ⟨pE,bX⟩ _;refine(bp) (fun Bk=>?_) fun Bk=>?_
  ·
   simp at Bk
   rw [if_pos Bk] at dR;simp only [Option.some.injEq,Prod.mk.injEq] at dR;obtain⟨JA,QU⟩:=dR;subst JA;subst QU;refine(cm) ?_;exact⟨E1,_,rfl,hZ,(As.gr bX.g4),(As.gr bX.g5),bX.p3.p3.p7.p4.k4⟩
  simp at Bk
  rw [if_neg Bk] at dR;refine dw ?_;have hN8:=bX.dc;refine WC.dS (m:=11) bX mixed<|dF ?_;refine DP .r (fun _ hC=>PV.ld1 (j:=3) ez (cJ.range (As.gb hC.2.g1)) rfl rfl)<|dF ?_;refine DP .r (fun _ hC=>PV.ld1 (j:=1) aX (cJ.range (As.gb hC.2.g1)) rfl rfl)<|(jA) av St.g6<|(ey)<|?_;rintro w7 ⟨r9,aM⟩ _;have aT:=aM;refine(df) Vz (BJ aT.e0 (As.gr aT.g5) (by omega)) ?_;rintro _ w8 ⟨q1,q2,q3,Z2,rfl,BL,kF⟩;have aY:=St.lv aT kF BL;have Oh:=qa s1.b.ak s1.b.ae k;have QV:=St.cK kF;have pC:=aT.size;have alc:=hZ.trans BL pC;have bG:=aY.bV (by omega);have kZ:=alc.trans (cQ.fo (F:=fun x=>x∈aL q1) QV) pC;refine qC ?_;refine WP .r (PV.ld1 (j:=3) ez bG.b2 rfl rfl)<|nx ?_;have bB:=bG;refine(df) Vy (vN bB.e0 (As.gr bB.g6) (As.gr bB.g0) (EZ qX (by omega))) ?_;rintro _ w9 ⟨p1,p2,p3,Z3,rfl,se,my⟩;have bd:=St.lv bB my se;have qN:=kZ.trans se bB.size;have uT:=((As.gs bd.g0)).len;have hca:=E0 qX (group:=(aF s1.b.ak s1.b.ae k)) (by omega);refine(bp) (fun VS=>?_) fun VS=>?_
  ·
   simp at VS
   have gh:(cC s1.b.ak (aF s1.b.ak s1.b.ae k))[ix]?=none:=List.getElem?_eq_none (by omega);rw [gh] at dR;simp only [] at dR;simp only [Option.some.injEq,Prod.mk.injEq] at dR;obtain⟨JA,QU⟩:=dR;subst JA;subst QU;refine(kl) aN bd.b3<|nx ?_;have aU:=bd;refine(df) Ml (qt aU.e0 (As.gr aU.g6) (As.gr aU.g7) (As.gr aU.g1) (by omega) (by omega)) ?_;rintro _ kM ⟨m1,m2,m3,m4,m5,m6,Z4,rfl,BM,jy⟩;have bM:=St.lv aU jy BM;have xE:=qN.trans BM aU.size;have K8:=St.cK jy;have EB:=St.cK jy.p1;have lR:=aU.size;refine db ?_;refine WL.go rfl (OX.W3 gg (As.gb bM.g5) rfl rfl rfl rfl rfl fun kN r7 mR=>?_);have bO:=bM.p5.Hc r7 mR;refine nx ?_;have bD:=bO.Cl (B:=As.blk xb 101 (EA.cells ⟨m1,m4,E1.a3,m2,m3,m5,m6,E1.n3,E1.c3⟩ D.s bb {s1 with b:=dX s1.b (aF s1.b.ak s1.b.ae k) false})) (rfl)
   have jT:(dX s1.b (aF s1.b.ak s1.b.ae k) false).ak.length=s1.b.ak.length:=by simp [dX]
   have RH:(dX s1.b (aF s1.b.ak s1.b.ae k) false).ah=s1.b.ah:=rfl;have cx:=bD.p1.bV (by rw [RH];omega);have cG:=cx.p2.bV (by omega);have nV:=(xE.trans (cQ.fo (F:=fun x=>x∈aL m1) K8) lR).trans (cQ.fo (F:=fun x=>x∈aL m4) EB) lR;refine(cm) ?_;exact⟨⟨m1,m4,E1.a3,m2,m3,m5,m6,E1.n3,E1.c3⟩,_,rfl,nV,(As.gr cG.g1),(As.gr cG.g0),cG.p7.p7.pJ.p5.k4⟩
  simp at VS
  obtain⟨ch,ru⟩:∃ch,(cC s1.b.ak (aF s1.b.ak s1.b.ae k))[ix]?=some ch:=⟨_,aq (by omega)⟩;rw [ru] at dR;simp only [] at dR;have vm:=i6 qX ru;refine dw ?_;obtain⟨gE,aS⟩:=Ow.addr (As.gs bd.g0) ru;refine dw ?_;refine WP .r (PV.fm Mk aS rfl rfl (by omega))<|(bz) Fl (Ow.rE (As.gs bd.g0) (by omega) aS ru)<|(fT) bd fun jd kM ma fP aU=>?_;refine(dB) P9 aU fun kN Ej td bM=>?_;refine(kl) av bM.b0<|(gw) (It (k:=ch.read) (sb:=D.s) (s:=s1) (E:=E1) (As.gb bM.g4) (As.gm bM.g5) qX.busy (As.gr bM.g8)) bM fun qL s12 bO=>?_;refine(bp) (fun oY=>?_) fun oY=>?_
  ·
   simp at oY
   rw [if_pos oY] at dR;obtain⟨t,RN,rR⟩:=Option.bind_eq_some_iff.1 dR;have Jr:=(dr hR Oq).1 _ _ _ RN qX vm;have hgc:=(dr hR Oq).2.1 _ _ _ _ _ rR Jr.1;refine(kl) av bO.b0<|?_;have bD:=bO.p6.p6.sL.p7;refine(df) YF (ll Oq (by omega) _ _ _ _ _ _ _ bD.e4 (As.gr bD.g8) (As.gr bD.g9) qX vm RN (by have:=hgc.2.bU;omega)) ?_;rintro _ uN ⟨E2,Z5,rfl,vR,Uh,hr5,BN⟩;have cx:=St.lv bD BN vR;have nV:=qN.trans vR bD.size;have cG:=cx.fr (Uh);have cF:=cG.fr (hr5);have cM:=cF.sL.drop;have cv:=cM.sL.drop;refine eA ?_;refine fx (Oq,t,E2,ix,Z5) ⟨cv.p6.drop.p6.drop.p6.drop.p6.drop.p6.p1.p2.p6.p6.p5,⟨rR,Jr.1,by omega,nV,trivial⟩⟩
  simp at oY
  rw [if_neg (by rw [oY];simp)] at dR;refine dw ?_;have Ui:=bO.dc;have afd:=bO.mj;have afe:=bO.size;refine WC.ua (m:=12) [10] (E:=dy [(7,fun v _=>∃f1 f2 f3,v=.tuple #[.agg ((aG s1.b.ak ch.fy).row f1 f2 f3).toArray,.bool (aD s1.b.ak ch.fy).isSome]),(11,PB qL.heap.size 60 [.int .i64 0,.string ⟨#[]⟩,.string ⟨#[]⟩,.slice none 0 0,.int .i64 0,.int .i64 0,.int .i64 0,.bool false])]) bO (bT (⟨fun _ _ _ _ _ _ _ h=>h,⟨fun _ _ _ _ _ _ c h=>PB.st Ui c h,trivial⟩⟩)) mixed (by kernel_rfl) rfl ?_;refine dF ?_;refine DP .r (fun _ hC=>PV.ld1 (j:=3) ez (cJ.range (As.gb hC.2.g4)) rfl rfl)<|(Cm) av St.g0<|?_;refine DW.e rfl rfl rfl rfl rfl (fun wx hC hF=>OX.call uA rfl rfl ((fH (k:=ch.fy) (As.gr hC.2.g8)).mono ?_))<|?_
  ·
   rintro _ wy ⟨f1,f2,f3,rfl,hy⟩;exact⟨_,rfl,⟨Nat.le_trans hC.1 hy.size,hC.2.step hy⟩,hy.p0,_,rfl,⟨f1,f2,f3,rfl⟩⟩
  rintro _ wz _ ⟨f1,f2,f3,rfl⟩;refine dw ?_;refine DW.e rfl rfl rfl rfl rfl (fun wx hC hF=>OX.alloc uv rfl fun b wy nw hb=>⟨⟨Nat.le_trans hC.1 nw.ext.size,hC.2.step nw.ext⟩,nw.ext.p0,_,rfl,_,rfl,Nat.le_trans hC.1 nw.ge,hb⟩)<|?_;rintro _ wz _ ⟨tS,rfl,_,_⟩;refine(ey) ?_;rintro uN ⟨QW,bD⟩ ⟨alg,⟨_,_⟩⟩;have cx:=bD.yI alg Ui afd afe;refine(dB) gC cx fun yX RZ wX cG=>?_;refine nx ?_;refine WL.nil (EX.np ?_);refine dw ?_;have asE:=cG.dc;refine WC.fc (m:=13) (E:=dy [(10,fun v _=>v=.int .i64 (bR (valOf ab x.ah) s1.b ch.read))]) cG (bT (⟨fun _ _ _ _ _ _ _ h=>h,trivial⟩)) mixed (by kernel_rfl)<|(lF) P7 St.g5<|(Cm) aN St.g5<|(Cm) av St.g1<|?_;refine DW.e rfl rfl rfl rfl rfl (fun wx hC hF=>OX.call VF rfl rfl ((tM (k:=ch.read) hR vm (hC.2.one (.tail _ (.tail _ (.tail _ (.tail _ (.tail _ (.tail _ (.tail _ (.tail _ (.tail _ (.tail _ (.tail _ (.head _))))))))))))) (As.gr hC.2.g8) (As.gr hC.2.g9)).mono ?_))<|?_
  ·
   rintro _ wy ⟨rfl,hy⟩;exact⟨_,rfl,⟨Nat.le_trans hC.1 hy.cX.size,hC.2.DD nP hy⟩,hy.cX.mono (fun _ _ hx=>LN nP hx),_,rfl,rfl⟩
  rintro _ wz _ rfl;refine(lF) aX St.g0<|(ey)<|?_;rintro uO ⟨aff,cF⟩ ⟨_,_⟩;refine(bp) (fun Uj=>?_) fun Uj=>?_
  ·
   simp at Uj
   rw [if_pos Uj] at dR;refine(bz) av (cJ.range (As.gb cF.g10))<|(gw) (eB (k:=k)) cF fun yY s16 cM=>?_;refine(bp) (fun ZB=>?_) fun ZB=>?_
   ·
    rw [if_pos ZB] at dR;simp only [Option.some.injEq,Prod.mk.injEq] at dR;obtain⟨JA,QU⟩:=dR;subst JA;subst QU;refine(kl) aN cM.b5<|nx ?_;have cv:=cM;refine(df) Ml (qt cv.e0 (As.gr cv.g8) (As.gr cv.g9) (As.gr cv.g3) (by omega) (by omega)) ?_;rintro _ El ⟨m1,m2,m3,m4,m5,m6,Z4,rfl,BM,BO⟩;have cI:=St.lv cv BO BM;have xE:=qN.trans BM cv.size;have K8:=St.cK BO;have EB:=St.cK BO.p1;have lR:=cv.size;refine db ?_;refine WL.go rfl (OX.W3 gg (As.gb cI.g7) rfl rfl rfl rfl rfl fun Cr R6 Hf=>?_);have ef:=cI.p7.Hc R6 Hf;refine nx ?_;have dh:=ef.Cl (B:=As.blk xb 101 (EA.cells ⟨m1,m4,E1.a3,m2,m3,m5,m6,E1.n3,E1.c3⟩ D.s bb {s1 with b:=dX s1.b (aF s1.b.ak s1.b.ae k) true})) (rfl)
    have jT:(dX s1.b (aF s1.b.ak s1.b.ae k) true).ak.length=s1.b.ak.length:=by simp [dX]
    have RH:(dX s1.b (aF s1.b.ak s1.b.ae k) true).ah=s1.b.ah:=rfl;have eC:=dh.p1.bV (by rw [RH];omega);have cT:=eC.p2.bV (by omega);have nV:=(xE.trans (cQ.fo (F:=fun x=>x∈aL m1) K8) lR).trans (cQ.fo (F:=fun x=>x∈aL m4) EB) lR;refine(cm) ?_;exact⟨⟨m1,m4,E1.a3,m2,m3,m5,m6,E1.n3,E1.c3⟩,_,rfl,nV,(As.gr cT.g1),(As.gr cT.g0),cT.p9.p9.yH.p5.k4⟩
   rw [if_neg (by rw [ZB];simp)] at dR;simp only [Option.some.injEq,Prod.mk.injEq] at dR;obtain⟨JA,QU⟩:=dR;subst JA;subst QU;refine bC ?_;refine(cm) ?_;exact⟨E1,_,rfl,qN,(As.gr cM.g8),(As.gr cM.g9),cM.p7.p7.pJ.p8.k4⟩
  simp at Uj
  rw [if_neg (by omega)] at dR;refine kJ ?_;refine fx (Oq,s1,E1,ix+1,Z3) ⟨cF.drop.drop.drop.drop.drop,⟨dR,qX,by omega,qN,trivial⟩⟩
 simp at g17
 rw [if_pos g17] at dR;simp only [Option.some.injEq,Prod.mk.injEq] at dR;obtain⟨JA,QU⟩:=dR;subst JA;subst QU;refine(cm) ?_;exact⟨E1,_,rfl,hZ,(As.gr aV.g3),(As.gr aV.g4),aV.p2.p2.p6.p3.k4⟩
set_option maxHeartbeats 1600000 in
theorem NZ{s:ES}{f:Nat}(hR:ay ab) (bF:St w M Z w [As.blk xb 101 (E.cells D.s bb s),As.mx prog 144 ab x D,As.map Key.val bb s.busy,As.os RR.key 58 2 E.a3 E.n3 E.c3 s.bU]) (hi:Rd RR.aH 4 Z w E.a1 E.n1 E.c1 s.b.ah) (hr:Rd RR.fl 8 Z w E.a2 E.n2 E.c2 s.b.ak) (uj:Good ab x.ah s) (zm:s.b.ah.length≤1000000) (Oi:jL ab k 0) (ll:∀g,g<f→UpC ab x D xb bb g) (QT:jr ab (valOf ab x.ah) f s k [] []=some s') (qY:s'.bU.length≤1000000):Calls prog 80 #[.pointer (some ⟨xb,0,none⟩),k.val] w fun e w'=>∃(E':EA) (Z':Nat→Prop),e=.returned (.tuple #[])∧cQ w.heap.size Z Z'∧Rd RR.aH 4 Z' w' E'.a1 E'.n1 E'.c1 s'.b.ah∧Rd RR.fl 8 Z' w' E'.a2 E'.n2 E'.c2 s'.b.ak∧St w M Z' w' [As.blk xb 101 (E'.cells D.s bb s'),As.mx prog 144 ab x D,As.map Key.val bb s'.busy,As.os RR.key 58 2 E'.a3 E'.n3 E'.c3 s'.bU]:=by
 refine enter func80 rfl ntmps80 rfl<|?_;have aW:=bF;have st1:=aW.fr hi;have st2:=st1.fr hr;have aP:=st2.eX RR.key 58 2;have aV:=aP.eX RR.str 9 1;refine(eD) aV fun b3 w1 ic dA bf=>?_;refine bC ?_;refine nx ?_;refine WC.kj (σ:=Nat × ES × EA × (List Key) × (List ByteArray) × (Nat→Prop) × (Option Addr) × Nat × Nat × (Option Addr) × Nat × Nat) (eI:=fun(fu,s1,E1,reads,ao,Z1,oR,nW,sf,Iv,FL,Iw)=>[(0,.pointer (some ⟨xb,0,none⟩)),(3,.pointer (some ⟨b3,0,none⟩)),(4,.slice oR nW sf),(5,.slice Iv FL Iw)]) (F:=fun(fu,s1,E1,reads,ao,Z1,oR,nW,sf,Iv,FL,Iw)=>[As.os RR.key 58 2 oR nW sf (reads),As.os RR.str 9 1 Iv FL Iw (ao),As.blk xb 101 (E1.cells D.s bb s1),As.map Key.val bb s1.busy,As.os RR.key 58 2 E1.a3 E1.n3 E1.c3 s1.bU,As.ro RR.aH 4 E1.a1 E1.n1 E1.c1 s1.b.ah,As.ro RR.fl 8 E1.a2 E1.n2 E1.c2 s1.b.ak]) (I:=fun(fu,s1,E1,reads,ao,Z1,oR,nW,sf,Iv,FL,Iw)=>(jr ab (valOf ab x.ah) fu s1 k reads ao=some s')∧(Good ab x.ah s1)∧(fu≤f)∧(cQ w.heap.size Z Z1)∧(jL ab k ao.length)∧(reads.length=ao.length)∧(∀a∈reads,gS ab a)∧(∀y∈aL oR,w.heap.size≤y)∧True) (μ:=fun(fu,s1,E1,reads,ao,Z1,oR,nW,sf,Iv,FL,Iw)=>fu) (Zf:=fun(fu,s1,E1,reads,ao,Z1,oR,nW,sf,Iv,FL,Iw)=>Z1) (f,s,E,[],[],Z,none,0,0,none,0,0) (bf.p3.p4.p8.p8.p7.p6.p7) Sub.t (⟨QT,uj,Nat.le_refl _,cQ.refl _ _,Oi,rfl,(fun a ha=>by cases ha),(by simp [aL]),trivial⟩)<|?_;rintro⟨fu,s1,E1,reads,ao,Z1,oR,nW,sf,Iv,FL,Iw⟩ w2 br ⟨dR,qX,hfu,hZ,N0,hlen,Vc,kG,_⟩;simp only [CA,NA] at br dR qX hfu hZ N0 hlen Vc kG ⊢
 obtain⟨Oq,rfl⟩:∃g,fu=g+1:=by cases fu with | zero=>simp [jr] at dR | succ g=>exact⟨g,rfl⟩
 unfold jr at dR
 have hl4:=qX.len
 have alb:s1.b.ah.length≤1000000:=by rw [qX.aH,← uj.aH];exact zm
 have h6:=N0.le hR;have Cv:=((As.gs br.g0)).len;have tC:=((As.gs br.g1)).len;have uT:=((As.gr br.g6)).len;refine(bN) Ea br.b2<|(bp) (fun g13=>?_) fun g13=>?_
 ·
  simp at g13
  rw [if_neg (by simp [g13])] at dR;refine dF ?_;obtain⟨tt,wK⟩:∃t,aZ ab k ao=t:=⟨_,rfl⟩;rw [wK] at dR;have afg:=@jL.next ab k hR ao N0;rw [wK] at afg;have V2:=br.dc;have alh:=br.mj;have ali:=br.size;refine WC.fc (m:=11) (E:=dy [(9,fun v _=>v=tt.val),(10,PB w2.heap.size 174 [.bool false,.string ⟨#[]⟩,.int .i64 0,.string ⟨#[]⟩])]) br (bT (⟨fun _ _ _ _ _ _ _ h=>h,⟨fun _ _ _ _ _ _ c h=>PB.st V2 c h,trivial⟩⟩)) mixed (by kernel_rfl)<|dw ?_;refine DP .r (fun _ hC=>PV.pM P7 (cJ.range (As.gb hC.2.g2)) rfl rfl)<|db ?_;refine DP .r (fun _ hC=>V1 nE (cJ.range (As.gvb (hC.2.g8))) .r)<|(jA) av St.g7<|nx ?_;refine DW.c1 (fun wx hC hF=>ie (k:=k) (SD.ht (As.gv (hC.2.g8))) (SD.hu (As.gv (hC.2.g8))) (Ow.rd (As.gs hC.2.g1) (by omega)) hR.hb (N0.not hR).1) (by rw [wK])<|?_;refine DW.e rfl rfl rfl rfl rfl (fun wx hC hF=>OX.alloc vI rfl fun b wy nw hb=>⟨⟨Nat.le_trans hC.1 nw.ext.size,hC.2.step nw.ext⟩,nw.ext.p0,_,rfl,_,rfl,Nat.le_trans hC.1 nw.ge,hb⟩)<|?_;rintro _ wz _ ⟨b6,rfl,_,_⟩;refine(ey) ?_;rintro w3 ⟨lR,bP⟩ ⟨BG,⟨_,_⟩⟩;have bS:=bP.yI BG V2 alh ali;refine(dB) jk bS fun w4 jC jI bX=>?_;refine(bN) fG bX.b0<|(bp) (fun fB=>?_) fun fB=>?_
  ·
   rw [if_pos fB] at dR;refine db ?_;have R2:=bX.dc;have alj:=bX.mj;have alk:=bX.size;refine WC.ua (m:=11) [9] (E:=dy [(6,fun v _=>∃f1 f2 f3,v=.tuple #[.agg ((aG s1.b.ak k).row f1 f2 f3).toArray,.bool (aD s1.b.ak k).isSome]),(10,PB w4.heap.size 60 [.int .i64 0,.string ⟨#[]⟩,.string ⟨#[]⟩,.slice none 0 0,.int .i64 0,.int .i64 0,.int .i64 0,.bool false])]) bX (bT (⟨fun _ _ _ _ _ _ _ h=>h,⟨fun _ _ _ _ _ _ c h=>PB.st R2 c h,trivial⟩⟩)) mixed (by kernel_rfl) rfl ?_;refine dF ?_;refine DP .r (fun _ hC=>PV.ld1 (j:=3) ez (cJ.range (As.gb hC.2.g3)) rfl rfl)<|(jA) av St.g8<|?_;refine DW.e rfl rfl rfl rfl rfl (fun wx hC hF=>OX.call uA rfl rfl ((fH (k:=k) (As.gr hC.2.g7)).mono ?_))<|?_
   ·
    rintro _ wy ⟨f1,f2,f3,rfl,hy⟩;exact⟨_,rfl,⟨Nat.le_trans hC.1 hy.size,hC.2.step hy⟩,hy.p0,_,rfl,⟨f1,f2,f3,rfl⟩⟩
   rintro _ wz _ ⟨f1,f2,f3,rfl⟩;refine dw ?_;refine DW.e rfl rfl rfl rfl rfl (fun wx hC hF=>OX.alloc uv rfl fun b wy nw hb=>⟨⟨Nat.le_trans hC.1 nw.ext.size,hC.2.step nw.ext⟩,nw.ext.p0,_,rfl,_,rfl,Nat.le_trans hC.1 nw.ge,hb⟩)<|?_;rintro _ wz _ ⟨b7,rfl,_,_⟩;refine(ey) ?_;rintro w5 ⟨pE,aM⟩ ⟨BG,⟨_,_⟩⟩;have aT:=aM.yI BG R2 alj alk;refine(dB) gC aT fun w6 r7 mR aY=>?_;refine nx ?_;refine WL.nil (EX.np ?_);refine db ?_;refine WC.fQ (t:=46) (v:=.bool (!(aD s1.b.ak k).isSome && decide (4000≤s1.b.ak.length))) aY ?_<|?_
   ·
    refine(dT) (fun uP=>?_) (fun uP=>?_)
    ·
     refine dF ?_;refine WP .r (PV.ld1 (j:=3) ez aY.b4 rfl rfl)<|?_;exact(dx) (by simp only [uP];first | rfl | (simp [uT];done) | (simp;omega)) (aY)
    exact(dx) (by simp only [uP];first | rfl | (simp [uT];done) | (simp;omega)) (aY)
   intro w7 bG;refine(bp) (fun Bl=>?_) fun Bl=>?_
   ·
    rw [if_pos Bl] at dR;simp only [Option.some.injEq] at dR;subst dR;refine eA ?_;refine WL.s1 bG.p4 fun w8 _ bB=>?_;refine nx ?_;have bd:=bB.Cl (B:=As.blk xb 101 (EA.cells E1 D.s bb {s1 with e:=45})) (rfl);refine gp ?_;refine EX.zy (.inl rfl) rfl<|?_;exact⟨E1,_,rfl,hZ,(As.gr bd.g7),(As.gr bd.g8),bd.p6.p6.sL.p3.k4⟩
   rw [if_neg (by rw [Bl];simp)] at dR;simp only [Option.some.injEq] at dR;subst dR
   have Nr:s1.bU.length+1≤1000000:=by simpa using qY
   refine dw ?_;have bB:=bG.p2.bV (by omega);have qN:=hZ.trans (cQ.fo (F:=fun x=>x∈aL oR) kG) (Nat.le_refl _);have hN9:=bB.dc;refine WC.ua (m:=15) [0] (E:=dy [(14,fun v _=>v=.agg ((et s1.b k tt.value reads).row oR nW sf).toArray)]) bB (bT (⟨fun _ _ _ _ _ _ _ h=>h,trivial⟩)) mixed (by kernel_rfl) rfl ?_;refine eA ?_;refine DP .r (fun _ hC=>PV.ld1 (j:=3) ez (cJ.range (As.gb hC.2.g4)) rfl rfl)<|(Cm) aN St.g4<|(jA) av St.g9<|(lF) iq St.g2<|nx ?_;refine DW.c0 (fun wx hC hF=>Bv (k:=k) (v:=tt.value) (As.gr hC.2.g7) (As.gr hC.2.g8) (As.gr hC.2.g0))<|(ey) ?_;rintro w8 ⟨Uc,bd⟩ ⟨_,_⟩;have aU:=bd;refine(df) VC (Br (x:=(et s1.b k tt.value reads)) aU.e0 (As.gr aU.g8) (by omega) (As.gr aU.g0) (by show reads.length≤4000;omega)) ?_;rintro _ w9 ⟨p1,p2,p3,Z4,rfl,BM,my⟩;have bM:=St.lv aU my BM;have VY:(gW s1.b.ak (et s1.b k tt.value reads)).length≤s1.b.ak.length+1:=wN (et s1.b k tt.value reads) s1.b.ak false;have Mw:=St.cK my;have lR:=aU.size;have xE:=qN.trans BM lR;have bO:=bM.bV (by omega);have nV:=xE.trans (cQ.fo (F:=fun x=>x∈aL p1) Mw) lR;refine dw ?_;refine WL.s1 (j:=3) bO.p5 fun kM _ bD=>?_;refine WL.nil (EX.np ?_);have cx:=bD.Cl (B:=As.blk xb 101 (EA.cells ⟨E1.a1,p1,E1.a3,E1.n1,E1.c1,p2,p3,E1.n3,E1.c3⟩ D.s bb {s1 with b:={s1.b with ak:=gW s1.b.ak (et s1.b k tt.value reads)}})) (rfl);refine db ?_;have hnr:=((As.gs cx.g7)).len;have CO:=cx.dc;have Ij:=cx.mj;have Ik:=cx.size;refine WC.ua (m:=7) [0] (E:=dy [(6,PS kM.heap.size 58 1 k.cells)]) cx (bT (⟨fun _ _ _ _ _ _ c h=>PS.st CO c h,trivial⟩)) mixed (by kernel_rfl) rfl ?_;refine(lF) fE St.g0<|(jA) av St.g10<|?_;refine DW.e rfl rfl rfl rfl rfl (fun wx hC hF=>OX.bA (us:=k.cells) fK rfl rfl rfl rfl fun b wy nw hb=>⟨⟨Nat.le_trans hC.1 nw.ext.size,hC.2.step nw.ext⟩,nw.ext.p0,_,rfl,_,rfl,Nat.le_trans hC.1 nw.ge,hb⟩)<|?_;rintro _ wz _ ⟨b75,rfl,_,_⟩;refine(ey) ?_;rintro kN ⟨BD,cG⟩ ⟨Zz,_⟩;have cF:=cG.yI (PS.pb Zz) CO Ij Ik;refine WL.go rfl (OX.pa tg rfl rfl rfl (As.gs cF.g8) (SR.eP (A:=fun _=>True) (x:=k) (As.gb cF.g0) trivial rfl (by simp [Key.cells,Value.oneCell']) rfl) (by show(E1.n3+1)*_≤_;omega) (by show E1.n3+1≤_;omega) (Nat.zero_le _) fun a76 N1 qL ZC s76 ZD alm=>?_);have cM:=cF.p8.iY s76 ZC ZD;refine db ?_;refine WL.s1 cM.p2 fun uN _ cv=>?_;refine WL.nil (EX.np ?_);have cI:=cv.Cl (B:=As.blk xb 101 (EA.cells ⟨E1.a1,p1,a76,E1.n1,E1.c1,p2,p3,(E1.n3+1),N1⟩ D.s bb {s1 with b:={s1.b with ak:=gW s1.b.ak (et s1.b k tt.value reads)},bU:=s1.bU++[k]})) (rfl);refine jo ?_;refine EX.zy (.inl rfl) rfl<|?_;exact⟨⟨E1.a1,p1,a76,E1.n1,E1.c1,p2,p3,(E1.n3+1),N1⟩,_,rfl,nV,(As.gr cI.g9),(As.gr cI.g3),cI.p1.p8.Lv.p3.k4⟩
  rw [if_neg (by rw [fB];simp)] at dR;obtain⟨t,RN,rR⟩:=Option.bind_eq_some_iff.1 dR;have Is:=afg fB;have Jr:=(dr hR Oq).1 _ _ _ RN qX Is.2;refine(kl) av bX.b0<|?_
  have hrt:t.bU.length≤1000000:=by
   split at rR
   ·
    have:=((dr hR Oq).2.2 _ _ _ _ _ rR Jr.1 (by simpa using Is.1) (by simp [hlen]) (fun a ha=>by rcases List.mem_append.1 ha with ha | ha;exact Vc a ha;simp at ha;subst ha;exact Is.2)).2.bU
    omega
   have:=((dr hR Oq).2.2 _ _ _ _ _ rR Jr.1 N0 hlen Vc).2.bU
   omega
  have aM:=bX.p5.p5.p9.p6;refine(df) YF (ll Oq (by omega) _ _ _ _ _ _ _ aM.e4 (As.gr aM.g7) (As.gr aM.g8) qX Is.2 RN hrt) ?_;rintro _ w5 ⟨E2,Z5,rfl,vR,Uh,hr5,ja⟩;have aT:=St.lv aM ja vR;have nV:=hZ.trans vR aM.size;have aY:=aT.fr (Uh);have bG:=aY.fr (hr5);have bB:=bG.p9.drop;have bd:=bB.p9.drop;refine(bN) Ea bd.b2<|(bp) (fun QX=>?_) fun QX=>?_
  ·
   simp at QX
   rw [if_pos QX] at rR;have aU:=bd.p7;have Uk:=aU.dc;have afh:=aU.mj;have afi:=aU.size;refine WC.Su (m:=16) [5] (fun j w w'=>match j with | 4=>jf (fun x=>x∈aL oR) w w' | _=>jf (fun _=>False) w w') (E:=dy [(3,PS w5.heap.size 58 1 tt.ask.cells),(4,fun v w'=>∃a c,v=.slice a (nW+1) c∧(∀x∈aL a,x∈aL oR∨w5.heap.size≤x)∧Ow RR.key 58 2 Z5 w' a (nW+1) c (reads++[tt.ask]))]) aU (o9 (⟨⟨trivial,⟨fun _ _ _ _ _ c h=>PS.st (fun x hx=>Uk x ⟨_,.head _,hx⟩) c h,trivial⟩⟩,⟨⟨trivial,⟨trivial,trivial⟩⟩,trivial⟩⟩)) mixed (by kernel_rfl) rfl ?_;refine(Cm) av St.g7<|?_;refine DW.e rfl rfl rfl rfl rfl (fun wx hC hF=>OX.bA (us:=tt.ask.cells) fK rfl rfl rfl rfl fun b wy nw hb=>⟨⟨Nat.le_trans hC.1 nw.ext.size,hC.2.step nw.ext⟩,nw.ext.p0,_,rfl,_,rfl,Nat.le_trans hC.1 nw.ge,hb⟩)<|?_;rintro _ wz _ ⟨b91,rfl,_,_⟩
   refine DW.e rfl rfl rfl rfl rfl (fun wx hC hF=>by
    obtain⟨⟨b',dQ,eZ,dA⟩,_⟩:=hF;simp only [Value.slice.injEq,Option.some.injEq,Addr.mk.injEq,and_true,true_and] at dQ;subst dQ;exact OX.ais tg rfl rfl rfl (As.gs hC.2.g0) (fun x hx=>hC.2.pI _ M0 x hx) (SR.eP (A:=fun _=>True) (x:=tt.ask) dA trivial rfl (by simp [Key.cells,Value.oneCell']) rfl) (by omega) (by omega) fun a' c' wy h1 h2 h3 h4=>⟨⟨Nat.le_trans hC.1 h3.size,hC.2.same M0 h3.p h2⟩,h3.p,_,rfl,a',c',rfl,(fun x hx=>by rcases h4 x hx with h | h;exact .inl h;exact .inr (Nat.le_trans hC.1 h)),h1⟩) ?_
   rintro _ wz _ ⟨a4,c4,rfl,_,_⟩;refine dF ?_;refine DP .r (fun _ hC=>PV.pM P7 (cJ.range (As.gb hC.2.g3)) rfl rfl)<|(Cm) aN St.g3<|(Cm) av St.g7<|(ey)<|?_;rintro w6 ⟨Ix,bM⟩ ⟨hF4,⟨hF3,_⟩⟩;obtain⟨_,_,he4,afj,ho4⟩:=hF4;simp only [Value.slice.injEq,true_and] at he4;obtain⟨rfl,rfl⟩:=he4;have bO:=bM;have bD:=bO.swap (B:=As.os RR.key 58 2 a4 (nW+1) c4 (reads++[tt.ask])) ho4 afj Uk afh afi;refine(df) VE (vQ (k:=tt.ask) hR Is.2 (bD.one (.tail _ (.tail _ (.tail _ (.tail _ (.head _)))))) (As.gr bD.g2) (As.gr bD.g1)) ?_;rintro _ w7 ⟨rfl,ke⟩;have cx:=bD.DD M4 ke;refine WL.go rfl (OX.bA (us:=[.string (eJ (valOf ab x.ah) t.b tt.ask)]) qj rfl rfl rfl rfl fun asH w8 afk afl=>?_);have cG:=cx.eW afk afl;refine WL.ap rfl rfl cG.p9 (SR.eP (A:=fun _=>True) (x:=eJ (valOf ab x.ah) t.b tt.ask) (As.gb cG.g0) trivial rfl (by simp [Value.oneCell']) rfl) fun aln afm w9 aoX aoY cF=>?_;refine db ?_;refine WL.nil (EX.np ?_);refine nx ?_;refine fx (Oq,t,E2,reads++[tt.ask],ao++[eJ (valOf ab x.ah) t.b tt.ask],Z5,a4,(nW+1),c4,aln,(FL+1),afm) ⟨cF.p1.drop.p8.drop.p8.p3.p4.p8.p8.p7.p6.p7,⟨rR,Jr.1,by omega,nV,by simpa using Is.1,by simp [hlen],(fun a ha=>by rcases List.mem_append.1 ha with ha | ha;exact Vc a ha;simp at ha;subst ha;exact Is.2),(fun y hy=>by rcases afj y hy with h | h;exact kG y h;omega),trivial⟩⟩
  simp at QX
  rw [if_neg QX] at rR;refine db ?_;refine fx (Oq,t,E2,reads,ao,Z5,oR,nW,sf,Iv,FL,Iw) ⟨bd.p6.drop.p8.p1.p2.p6.p6.p5.p8.p8,⟨rR,Jr.1,by omega,nV,N0,hlen,Vc,kG,trivial⟩⟩
 simp at g13
 rw [if_pos g13] at dR;simp only [Option.some.injEq] at dR;subst dR;refine dF ?_;refine EX.zy (.inr rfl) rfl<|?_;exact⟨E1,_,rfl,hZ,(As.gr br.g5),(As.gr br.g6),br.p4.p4.p8.p5.k4⟩
set_option maxHeartbeats 1600000 in
theorem QY{s:ES}{f:Nat}(hR:ay ab) (bF:St w M Z w [As.blk xb 101 (E.cells D.s bb s),As.mx prog 144 ab x D,As.map Key.val bb s.busy,As.os RR.key 58 2 E.a3 E.n3 E.c3 s.bU]) (hi:Rd RR.aH 4 Z w E.a1 E.n1 E.c1 s.b.ah) (hr:Rd RR.fl 8 Z w E.a2 E.n2 E.c2 s.b.ak) (uj:Good ab x.ah s) (zm:s.b.ah.length≤1000000) (hk:gS ab k) (ll:∀g,g<f→UpC ab x D xb bb g) (dR:oc ab (valOf ab x.ah) (f+1) s k=some s') (qY:s'.bU.length≤1000000):Calls prog 43 #[.pointer (some ⟨xb,0,none⟩),k.val] w fun e w'=>∃(E':EA) (Z':Nat→Prop),e=.returned (.tuple #[])∧cQ w.heap.size Z Z'∧Rd RR.aH 4 Z' w' E'.a1 E'.n1 E'.c1 s'.b.ah∧Rd RR.fl 8 Z' w' E'.a2 E'.n2 E'.c2 s'.b.ak∧St w M Z' w' [As.blk xb 101 (E'.cells D.s bb s'),As.mx prog 144 ab x D,As.map Key.val bb s'.busy,As.os RR.key 58 2 E'.a3 E'.n3 E'.c3 s'.bU]:=by
 unfold oc at dR
 have hbk:(ck s.busy k).getD (.bool false)=.bool (s.on k):=by unfold ES.on;rcases uj.busy k with h | h <;> rw [h] <;> rfl
 refine enter func43 rfl ntmps43 rfl<|?_;have aW:=bF;have st1:=aW.fr hi;have st2:=st1.fr hr;refine(eD) st2 fun b3 w1 ic dA aP=>?_;refine dF ?_;refine WC.fQ (t:=14) (v:=.bool (decide (s.e≠0) || aB k)) aP ?_<|?_
 ·
  refine(bN) Ea aP.b3<|(dT) (fun g11=>?_) (fun g11=>?_)
  ·
   exact(dx) (by simp only [g11];first | rfl | simp) (aP)
  refine(bz) av aP.b0<|(gw) (fM (k:=k)) aP fun w2 s2 aV=>?_;exact(dx) (by simp only [g11];first | rfl | simp) (aV)
 intro w2 aV;refine(bp) (fun g14=>?_) fun g14=>?_
 ·
  rw [if_pos (by simpa using g14)] at dR;simp only [Option.some.injEq] at dR;subst dR;refine db ?_;refine EX.zy (.inl rfl) rfl<|?_;exact⟨E,Z,rfl,cQ.refl _ _,(As.gr aV.g2),(As.gr aV.g1),aV.p6.p6.p6.p6.k4⟩
 have rj:aB k=false:=by simp at g14;exact g14.2
 rw [if_neg (by simpa using g14)] at dR;refine dF ?_;have QI:=aV.dc;have alo:=aV.mj;have alp:=aV.size;refine WC.ua (m:=11) [9] (E:=dy [(6,fun v _=>∃f1 f2 f3,v=.tuple #[.agg ((aG s.b.ak k).row f1 f2 f3).toArray,.bool (aD s.b.ak k).isSome]),(10,PB w2.heap.size 60 [.int .i64 0,.string ⟨#[]⟩,.string ⟨#[]⟩,.slice none 0 0,.int .i64 0,.int .i64 0,.int .i64 0,.bool false])]) aV (bT (⟨fun _ _ _ _ _ _ _ h=>h,⟨fun _ _ _ _ _ _ c h=>PB.st QI c h,trivial⟩⟩)) mixed (by kernel_rfl) rfl ?_;refine dF ?_;refine DP .r (fun _ hC=>PV.ld1 (j:=3) ez (cJ.range (As.gb hC.2.g3)) rfl rfl)<|(jA) av St.g0<|?_;refine DW.e rfl rfl rfl rfl rfl (fun wx hC hF=>OX.call uA rfl rfl ((fH (k:=k) (As.gr hC.2.g1)).mono ?_))<|?_
 ·
  rintro _ wy ⟨f1,f2,f3,rfl,hy⟩;exact⟨_,rfl,⟨Nat.le_trans hC.1 hy.size,hC.2.step hy⟩,hy.p0,_,rfl,⟨f1,f2,f3,rfl⟩⟩
 rintro _ wz _ ⟨f1,f2,f3,rfl⟩;refine dw ?_;refine DW.e rfl rfl rfl rfl rfl (fun wx hC hF=>OX.alloc uv rfl fun b wy nw hb=>⟨⟨Nat.le_trans hC.1 nw.ext.size,hC.2.step nw.ext⟩,nw.ext.p0,_,rfl,_,rfl,Nat.le_trans hC.1 nw.ge,hb⟩)<|?_;rintro _ wz _ ⟨b4,rfl,_,_⟩;refine(ey) ?_;rintro w3 ⟨pC,bf⟩ ⟨BG,⟨_,_⟩⟩;have br:=bf.yI BG QI alo alp;refine(dB) gC br fun w4 jC jI bP=>?_;refine nx ?_;refine WL.nil (EX.np ?_);refine db ?_;refine WC.fQ (t:=35) (v:=.bool (aO s.b k)) bP ?_<|?_
 ·
  have Ii:=bP.dc;refine WC.dS (m:=9) bP mixed<|(tf) (fun kX=>?_) (fun kX=>?_)
  ·
   refine(lF) aX St.g0<|dF ?_;refine DP .r (fun _ hC=>PV.ld1 (j:=1) aX (cJ.range (As.gb hC.2.g4)) rfl rfl)<|(ey)<|?_;rintro w5 ⟨eN,bS⟩ _;exact(dx) (by unfold aO;simp only [kX];first | rfl | simp) (bS)
  refine(ey) ?_;rintro w5 ⟨eN,bS⟩ _;exact(dx) (by unfold aO;simp only [kX];first | rfl | simp) (bS)
 intro w5 bS;refine(bp) (fun NN=>?_) fun NN=>?_
 ·
  rw [if_pos NN] at dR;simp only [Option.some.injEq] at dR;subst dR;refine db ?_;refine EX.zy (.inl rfl) rfl<|?_;exact⟨E,Z,rfl,cQ.refl _ _,(As.gr bS.g3),(As.gr bS.g2),bS.p7.p7.p7.p7.k4⟩
 rw [if_neg (by rw [NN];simp)] at dR;refine dF ?_;have V2:=bS.dc;refine WC.dS (m:=5) bS mixed<|(lF) ym St.g4<|(jA) av St.g1<|(ey)<|?_;rintro w6 ⟨lR,bX⟩ _;refine WP .r (PV.mA eF ku Fq (As.gm bX.g6) (hbk) rfl rfl)<|(bp) (fun Bk=>?_) fun Bk=>?_
 ·
  rw [if_pos Bk] at dR;refine(bz) av bX.b1<|(gw) (eB (k:=k)) bX fun w7 s7 aM=>?_;refine(bp) (fun V5=>?_) fun V5=>?_
  ·
   simp at V5
   rw [if_neg (by rw [V5];simp)] at dR;simp only [Option.some.injEq] at dR;subst dR;refine dF ?_;refine WL.s1 aM.p4 fun w8 _ aT=>?_;refine nx ?_;have aY:=aT.Cl (B:=As.blk xb 101 (EA.cells E D.s bb {s with e:=43})) (rfl);refine dw ?_;refine EX.zy (.inl rfl) rfl<|?_;exact⟨E,Z,rfl,cQ.refl _ _,(As.gr aY.g4),(As.gr aY.g3),aY.p7.p7.p7.p3.k4⟩
  simp at V5
  rw [if_pos V5] at dR;simp only [Option.some.injEq] at dR;subst dR;refine dF ?_;refine EX.zy (.inl rfl) rfl<|?_;exact⟨E,Z,rfl,cQ.refl _ _,(As.gr aM.g3),(As.gr aM.g2),aM.p7.p7.p7.p7.k4⟩
 rw [if_neg (by rw [Bk];simp)] at dR;refine dw ?_;have hN7:=bX.dc;refine WC.dS (m:=5) bX mixed<|(lF) ym St.g4<|(jA) av St.g1<|(ey)<|?_;rintro w7 ⟨ZE,aM⟩ _;refine WL.go rfl (OX.put eF ku (As.gm aM.g6) rfl rfl rfl fun w8 FD BE=>?_);have aT:=aM.p6.mH FD BE;refine nx ?_;obtain⟨⟨s2,r2⟩,hp,dR⟩:=Option.bind_eq_some_iff.1 dR;obtain⟨s3,wX,dR⟩:=Option.bind_eq_some_iff.1 dR;simp only [Option.some.injEq] at dR;subst dR;have GJ:=(dr hR f).2.1 _ _ _ _ _ hp (uj.on k);have Oi:=hk.jZ rj;have QZ:s3.bU.length≤1000000:=qY
 have afn:s2.bU.length≤1000000:=by
  split at wX
  ·
   have:=((dr hR f).2.2 _ _ _ _ _ wX GJ.1 Oi rfl (fun a ha=>by cases ha)).2.bU
   exact Nat.le_trans this QZ
  simp only [Option.some.injEq] at wX;subst wX;exact QZ
 have alq:s2.b.ah.length≤1000000:=by rw [GJ.1.aH,← uj.aH];exact zm
 refine(bz) av aT.b2<|?_;have aY:=aT.p7.p1.p7.p7;refine(df) aj1 (Iu (s:={s with busy:=dH s.busy k (.bool true)}) (E:=E) hR aY.e4 (As.gr aY.g7) (As.gr aY.g6) (uj.on k) zm ll hp afn) ?_;rintro _ w9 ⟨E2,Z2,rfl,BL,alr,als,my⟩;have bG:=St.lv aY my BL;have kZ:=(cQ.refl w.heap.size Z).trans BL aY.size;have bB:=bG.fr (alr);have bd:=bB.fr (als);have aU:=bd.p9.drop;have bM:=aU.p8.drop;refine(bp) (fun Be=>?_) fun Be=>?_
 ·
  rw [if_pos Be] at wX;refine(bz) av (cJ.range (As.gb bM.g7))<|?_;have bO:=bM.p5.p5.p5.p5;refine(df) aj2 (NZ (s:=s2) (E:=E2) hR bO.e4 (As.gr bO.g5) (As.gr bO.g4) GJ.1 alq Oi ll wX QZ) ?_;rintro _ kM ⟨E3,Z3,rfl,se,alu,alv,jy⟩;have bD:=St.lv bO jy se;have hZe:=kZ.trans se bO.size;have cx:=bD.fr (alu);have cG:=cx.fr (alv);have cF:=cG.p7.drop;have cM:=cF.p6.drop;refine db ?_;have CO:=cM.dc;refine WC.dS (m:=5) cM mixed<|(lF) ym St.g2<|(jA) av St.g7<|(ey)<|?_;rintro kN ⟨BD,cv⟩ _;refine WL.go rfl (OX.del eF ku (As.gm cv.g4) rfl rfl fun qL FJ FK=>?_);have cI:=cv.p4.mH FJ FK;refine nx ?_;refine EX.zy (.inr rfl) rfl<|?_;exact⟨_,_,rfl,hZe,(As.gr cI.g2),(As.gr cI.g1),cI.p5.p1.p5.p5.k4⟩
 rw [if_neg (by rw [Be];simp)] at wX;simp only [Option.some.injEq] at wX;subst wX;have hZe:=kZ;refine db ?_;have CO:=bM.dc;refine WC.dS (m:=5) bM mixed<|(lF) ym St.g2<|(jA) av St.g7<|(ey)<|?_;rintro kM ⟨BD,bO⟩ _;refine WL.go rfl (OX.del eF ku (As.gm bO.g4) rfl rfl fun kN ZF ZG=>?_);have bD:=bO.p4.mH ZF ZG;refine nx ?_;refine EX.zy (.inr rfl) rfl<|?_;exact⟨_,_,rfl,hZe,(As.gr bD.g2),(As.gr bD.g1),bD.p5.p1.p5.p5.k4⟩
theorem ZH(hR:ay ab) (zm:x.ah.length≤1000000):∀f,UpC ab x D xb bb f:=by
 intro f
 induction f using Nat.strongRecOn with
 | _ f ih=>
  intro w M Z s E k s' bF hi hr uj hk dR qY
  cases f with
  | zero=>simp [oc] at dR
  | succ f=>exact QY hR bF hi hr uj (by rw [uj.aH];exact zm) hk (fun g hg=>ih g (by omega)) dR qY
theorem Iy(hs:s.size≤1000) (w:World):Calls prog 188 #[.string s] w fun e w'=>∃(v:Int) (ok:Bool) (ev:Value),e=.returned (.tuple #[.int .i64 v,ev])∧(-9223372036854775808≤v∧v≤9223372036854775807)∧((ok=true∧ev=.nilIface)∨(ok=false∧∃t y,ev=.iface t y))∧(ok=false→ev=.iface 272 (.int .i64 2)∨ev=.iface 272 (.int .i64 1))∧bj [] w w':=by
 refine(Any.internal_strconv_Atoi_all {laysC172 with} s (by omega) w).mono fun e w' ⟨he,hw⟩=>?_
 have hc:bj [] w w':=by
  rcases hw with rfl | ⟨t,rfl⟩
  ·
   exact bj.refl _ _
  exact Ec _ _ _
 cases h:Lib.atoiAll s.data.toList
 ·
  rename_i v
  rw [h] at he;exact⟨v,true,.nilIface,he,Lib.atoiAll_bounds h,.inl ⟨rfl,rfl⟩,(fun e=>by cases e),hc⟩
 ·
  rw [h] at he;exact⟨0,false,_,he,by decide,.inr ⟨rfl,_,_,rfl⟩,fun _=>.inl rfl,hc⟩
 rw [h] at he;exact⟨Lib.atoiSat s.data.toList,false,_,he,Lib.atoiSat_bounds _,.inr ⟨rfl,_,_,rfl⟩,fun _=>.inr rfl,hc⟩
set_option maxHeartbeats 400000
theorem BP :CR prog 170 #[.int .i64 n] w (.bool (decide (30≤n) && decide (n≤32))):=by
 refine enter func170 rfl ntmps170 rfl<|?_;have aW:=St.s0 w;refine jo ?_;refine WC.mw (t:=2) (v:=.bool (decide (30≤n) && decide (n≤32))) aW ?_<|?_
 ·
  refine(dT) (fun g5=>?_) (fun g5=>?_)
  ·
   exact(iw) (by simp only [g5];first | rfl | simp) (aW)
  exact(iw) (by simp only [g5];first | rfl | simp) (aW)
 intro w1 st1;refine(cm) ?_;exact⟨rfl,(St.cg st1)⟩
theorem Iz :CR prog 150 #[.int .i64 n] w (.bool (decide (1≤n) && decide (n≤22))):=by
 refine enter func150 rfl ntmps150 rfl<|?_;have aW:=St.s0 w;refine jo ?_;refine WC.mw (t:=2) (v:=.bool (decide (1≤n) && decide (n≤22))) aW ?_<|?_
 ·
  refine(dT) (fun g5=>?_) (fun g5=>?_)
  ·
   exact(iw) (by simp only [g5];first | rfl | simp) (aW)
  exact(iw) (by simp only [g5];first | rfl | simp) (aW)
 intro w1 st1;refine(cm) ?_;exact⟨rfl,(St.cg st1)⟩
theorem dN :CR prog 81 #[k.val] w (.bool (aB k)):=by
 refine enter func81 rfl ntmps81 rfl<|?_;have aW:=St.s0 w;refine(eD) aW fun b1 w1 pK dQ st1=>?_;refine dF ?_;refine WC.mw (t:=2) (v:=.bool (aB k)) st1 ?_<|?_
 ·
  refine(bN) aX st1.b0<|(dT) (fun g6=>?_) (fun g6=>?_)
  ·
   exact(iw) (by unfold aB;simp only [g6];first | rfl | simp) (st1)
  refine(bN) aX st1.b0<|(dT) (fun g11=>?_) (fun g11=>?_)
  ·
   exact(iw) (by unfold aB;simp only [g6,g11];first | rfl | simp) (st1)
  refine(bN) aX st1.b0<|?_;exact(iw) (by unfold aB;simp only [g6,g11];first | rfl | simp) (st1)
 intro w2 st2;refine(cm) ?_;exact⟨rfl,(St.cg st2)⟩
theorem yz :CR prog 139 #[k.val] w (.bool (decide (k.kind=31) || decide (k.kind=32))):=by
 refine enter func139 rfl ntmps139 rfl<|?_;have aW:=St.s0 w;refine(eD) aW fun b1 w1 pK dQ st1=>?_;refine dF ?_;refine WC.mw (t:=2) (v:=.bool (decide (k.kind=31) || decide (k.kind=32))) st1 ?_<|?_
 ·
  refine(bN) aX st1.b0<|(dT) (fun g6=>?_) (fun g6=>?_)
  ·
   exact(iw) (by simp only [g6];first | rfl | simp) (st1)
  refine(bN) aX st1.b0<|?_;exact(iw) (by simp only [g6];first | rfl | simp) (st1)
 intro w2 st2;refine(cm) ?_;exact⟨rfl,(St.cg st2)⟩
theorem lV(hk:gY k):CR prog 108 #[k.val] w (.bool (decide (k.kind=32))):=by
 refine enter func108 rfl ntmps108 rfl<|?_;have aW:=St.s0 w;refine(eD) aW fun b1 w1 pK dQ st1=>?_;refine dF ?_;refine WC.mw (t:=2) (v:=.bool (decide (k.kind=32))) st1 ?_<|?_
 ·
  refine(bN) aX st1.b0<|(dT) (fun g6=>?_) (fun g6=>?_)
  ·
   exact(iw) (by simp only [g6];first | done | rfl | simp) (st1)
  refine(bN) aX st1.b0<|(df) aeh (Iz (n:=k.kind)) ?_;rintro _ w2 ⟨rfl,s2⟩;rw [show(decide (1≤k.kind) && decide (k.kind≤22))=false by(rcases hk with h | h <;> simp <;> omega)];have st2:=st1.step s2;exact(iw) (by simp only [g6];first | done | rfl | simp) (st2)
 intro w2 st2;refine(cm) ?_;exact⟨rfl,(St.cg st2)⟩
theorem oS{n:Nat}(hk:30≤k.kind∧k.kind≤32) (ht:k.text=itoa n) (hn:n≤99):CR prog 141 #[k.val] w (.int .i64 (n:Int)):=by
 obtain⟨kd,tx⟩:=k;simp only at hk ht;subst ht;refine enter func141 rfl ntmps141 rfl<|?_;have aW:=St.s0 w;refine(eD) aW fun b1 w1 pK dQ st1=>?_;refine(bN) aX st1.b0<|(df) VM (BP (n:=kd)) ?_;rintro _ w2 ⟨rfl,s2⟩;rw [show(decide (30≤kd) && decide (kd≤32))=true by(simp;omega)];have st2:=st1.step s2;refine dw ?_;refine WC.iu rfl<|(bN) iq st2.b0<|(gw) (KD hn w2) st2 fun w3 s3 aP=>?_;refine qC ?_;refine WC.fQ (t:=31) (v:=.bool false) aP ?_<|?_
 ·
  have V2:=aP.dc;refine WC.fc (m:=15) (E:=dy [(12,fun v _=>v=.string (itoa n))]) aP (bT (⟨fun _ _ _ _ _ _ _ h=>h,trivial⟩)) mixed (by kernel_rfl)<|nx ?_;refine DP .r (fun _ hC=>PV.Xb Fm rfl)<|nx ?_;refine DW.iB (t:=17) rfl (fun g17=>?_) (fun g17=>?_)
  ·
   refine(ey) ?_;rintro w4 ⟨lR,aV⟩ _;exact(dx) (tG g17) (aV)
  refine dF ?_;refine DW.iB (t:=21) rfl (fun g21=>?_) (fun g21=>?_)
  ·
   refine(ey) ?_;rintro w4 ⟨lR,aV⟩ _;exact(dx) (tG (aj g17 g21)) (aV)
  refine dF ?_;refine DW.iB (t:=25) rfl (fun fB=>?_) (fun fB=>?_)
  ·
   refine(ey) ?_;rintro w4 ⟨lR,aV⟩ _;exact(dx) (tG (aj g17<|aj g21 fB)) (aV)
  refine nx ?_;refine DW.c0 (fun wx hC hF=>lP (n:=(n:Int)) (by omega) (by omega) wx)<|(lF) iq St.g0<|(ey)<|?_;rintro w4 ⟨lR,aV⟩ ⟨_,_⟩;exact(dx) (tG (aj g17<|aj g21 fB)) (aV)
 intro w4 aV;refine(bp) (fun px=>?_) fun px=>?_
 ·
  exact absurd px (by simp)
 ·
  refine(cm) ?_;exact⟨rfl,(St.cg aV)⟩
 -- xz ky C8.T
theorem lW{n:Nat}(hk:30≤k.kind∧k.kind≤32) (ht:k.text=itoa n) (hn:n≤99):CR prog 138 #[k.val] w (.bool true):=by
 refine enter func138 rfl ntmps138 rfl<|?_;have aW:=St.s0 w;refine(eD) aW fun b1 w1 pK dQ st1=>?_;refine(bN) aX st1.b0<|(df) VM (BP (n:=k.kind)) ?_;rintro _ w2 ⟨rfl,s2⟩;rw [show(decide (30≤k.kind) && decide (k.kind≤32))=true by(simp;omega)];have st2:=st1.step s2;refine db ?_;refine WC.zw rfl<|(bz) av st2.b0<|(gw) (oS (k:=k) hk ht hn) st2 fun w3 s3 aP=>?_;refine(cm) ?_;exact⟨by simp,(St.cg aP)⟩
theorem sY{a:Option Addr}{r c:Nat}(hr:iW A w a r c ab):CR prog 140 #[.slice a r c,.int .i64 n] w ((aQ ab n).val):=by
 have hle:=hr.le;have hlen:=hr.len;refine enter func140 rfl ntmps140 rfl<|?_;have aW:=St.s0 w;refine(fT) aW fun b4 w1 jS bL st1=>?_;refine dF ?_;refine WC.fQ (t:=17) (v:=.bool (decide (n<0) || (decide ((r:Int)≤n) || decide (99<n)))) st1 ?_<|?_
 ·
  refine(dT) (fun g8=>?_) (fun g8=>?_)
  ·
   exact(dx) (by simp only [g8];first | rfl | simp) (st1)
  refine(dT) (fun g14=>?_) (fun g14=>?_)
  ·
   exact(dx) (by simp only [g8,g14];first | rfl | simp) (st1)
  exact(dx) (by simp only [g8,g14];first | rfl | simp) (st1)
 intro w2 st2;refine(bp) (fun g17=>?_) fun g17=>?_
 ·
  have hk:aQ ab n=fW:=by unfold aQ;rw [if_pos (by simp at g17;omega)]
  refine(dB) jH st2 fun w3 jC jI aP=>?_;refine(mI) av aP.b0<|?_;rw [hk];exact⟨rfl,(St.cg aP)⟩
 simp at g17
 obtain⟨i,rfl⟩:∃i:Nat,n=i:=⟨n.toNat,by omega⟩
 have hi:i<ab.length:=by omega
 have hk:aQ ab i=⟨if aI ab i then 32 else 31,itoa i⟩:=by unfold aQ;rw [if_neg (by omega)];rfl
 have lL:=da hi;refine qC ?_;obtain⟨Ul,Um,Un,mg,_,⟨q1,q2,q3,rfl,_⟩,oT,_⟩:=(hr.ext (St.cg st2)).at (aq hi);refine dw ?_;refine WP .r (PV.fm lO mg rfl rfl (by omega))<|nx ?_;refine WP .r (PV.ld1 (j:=0) fG oT rfl rfl)<|(bp) (fun g23=>?_) fun g23=>?_
 ·
  have nQ:aQ ab i=⟨32,itoa i⟩:=by rw [hk,lL,g23];rfl
  refine(gw) (lP (n:=(i:Int)) (by omega) (by omega) w2) st2 fun w3 s3 aP=>?_;refine WP .r (PV.cD (us:=_) HW rfl rfl rfl)<|(dB) jH aP fun w4 r7 mR aV=>?_;refine(mI) av aV.b0<|?_;rw [nQ];exact⟨rfl,(St.cg aV)⟩
 have nQ:aQ ab i=⟨31,itoa i⟩:=by rw [hk,lL,g23];rfl
 refine(gw) (lP (n:=(i:Int)) (by omega) (by omega) w2) st2 fun w3 s3 aP=>?_;refine WP .r (PV.cD (us:=_) HW rfl rfl rfl)<|(dB) jH aP fun w4 Ej td aV=>?_;refine(mI) av aV.b0<|?_;rw [nQ];exact⟨rfl,(St.cg aV)⟩
set_option maxHeartbeats 400000
set_option maxRecDepth 1000000 in
theorem ot(hs:s.size≤1000):CR prog 331 #[.string s] w (.string s):=by
 refine enter func331 rfl ntmps331 rfl<|?_;have aW:=St.s0 w;refine bC ?_;refine(bp) (fun g6=>?_) fun g6=>?_
 ·
  refine(cm) ?_;exact⟨by rw [show s=⟨#[]⟩ from ByteArray.ext (Array.eq_empty_of_size_eq_zero (show s.size=0 by have:=of_decide_eq_true g6;omega))],(St.cg aW)⟩
 have h0:s.size≠0:=by have:=of_decide_eq_false g6;omega
 obtain⟨i,hi,hq⟩:=Option.map_eq_some_iff.1 (show(prog.info? 5).map (fun i=>(i.zero,i.size,i.bytes))=some (some (.int .u8 0),1,1) by kernel_rfl);simp only [Prod.mk.injEq] at hq;obtain⟨hz,h1,hb⟩:=hq;obtain⟨u1,u2,u3,k1,k2,k3,hc⟩:=EO (S:=9) (it:=3) (ty1:=3) (ty2:=9) underlying211 hi hz h1 hb underlying547 h0 hs w;refine jo ?_;refine WL.go rfl (OX.aci rfl rfl rfl k1 ?_);refine gp ?_;refine WL.go rfl (OX.acj rfl rfl rfl k2 ?_);refine eA ?_;refine WP .r (PV.Ls Vn 0 (show some (⟨w.heap.size,0,none⟩:Addr)=some ⟨w.heap.size,0,none⟩ from rfl) rfl rfl rfl (by omega))<|db ?_;refine WL.go rfl (OX.aiB rfl rfl rfl k3 ?_);refine(cm) ?_;exact⟨rfl,hc⟩
theorem CP(hs:s.size≤1000) (hv:w.cell? ⟨2,0,none⟩=some .nilIface):Calls prog 234 #[.string f,.string s] w fun e w'=>∃b,e=.returned (.pointer (some ⟨b,0,none⟩))∧bj [] w w':=by
 have hr:w.rangeAt 2 0 [.nilIface]:=fun j v hj=>by
  cases j with
  | zero=>simp at hj;subst hj;exact hv
  | succ j=>simp at hj
 refine enter func234 rfl ntmps234 rfl<|?_;have aW:=St.s0 w;refine jo ?_;have zq:=aW.dc;refine WC.fc (m:=4) (E:=dy [(2,fun v _=>v=.string s)]) aW (bT (⟨fun _ _ _ _ _ _ _ h=>h,trivial⟩)) mixed (by kernel_rfl)<|db ?_;refine DW.c0 (fun wx hC hF=>ot hs)<|?_;refine DP .r (fun _ hC=>PV.pM Fp (bE hr (St.cg hC.2) (by simp)) rfl rfl)<|(ey)<|?_;rintro w1 ⟨fj,st1⟩ ⟨_,_⟩;refine WP .r (PV.cD (us:=[.string f,.string s,.nilIface]) Mi rfl rfl rfl)<|(eD) st1 fun jd w2 ma fP st2=>?_;refine(cm) ?_;exact⟨_,rfl,(St.cg st2)⟩
theorem CQ(hs:s.size≤1000) (hv:w.cell? ⟨2,0,none⟩=some (.iface t p)):Calls prog 234 #[.string f,.string s] w fun e w'=>∃b,e=.returned (.pointer (some ⟨b,0,none⟩))∧bj [] w w':=by
 have hr:w.rangeAt 2 0 [(.iface t p)]:=fun j v hj=>by
  cases j with
  | zero=>simp at hj;subst hj;exact hv
  | succ j=>simp at hj
 refine enter func234 rfl ntmps234 rfl<|?_;have aW:=St.s0 w;refine jo ?_;have zq:=aW.dc;refine WC.fc (m:=4) (E:=dy [(2,fun v _=>v=.string s)]) aW (bT (⟨fun _ _ _ _ _ _ _ h=>h,trivial⟩)) mixed (by kernel_rfl)<|db ?_;refine DW.c0 (fun wx hC hF=>ot hs)<|?_;refine DP .r (fun _ hC=>PV.pM Fp (bE hr (St.cg hC.2) (by simp)) rfl rfl)<|(ey)<|?_;rintro w1 ⟨fj,st1⟩ ⟨_,_⟩;refine WP .r (PV.cD (us:=[.string f,.string s,(.iface t p)]) Mi rfl rfl rfl)<|(eD) st1 fun jd w2 ma fP st2=>?_;refine(cm) ?_;exact⟨_,rfl,(St.cg st2)⟩
theorem alx:prog.globalNamed "strconv.ErrSyntax" = some 2:=by kernel_rfl
theorem FM(ht:oy prog A w) (hs:s.size≤1000):Calls prog 234 #[.string f,.string s] w fun e w'=>∃b,e=.returned (.pointer (some ⟨b,0,none⟩))∧bj [] w w':=by
 obtain⟨ev,hv,dR⟩:=ht.err (.inl rfl) alx
 rcases dR with rfl | ⟨t,p,rfl⟩
 ·
  exact CP hs hv
 exact CQ hs hv
theorem CS(hs:s.size≤1000) (hv:w.cell? ⟨3,0,none⟩=some .nilIface):Calls prog 235 #[.string f,.string s] w fun e w'=>∃b,e=.returned (.pointer (some ⟨b,0,none⟩))∧bj [] w w':=by
 have hr:w.rangeAt 3 0 [.nilIface]:=fun j v hj=>by
  cases j with
  | zero=>simp at hj;subst hj;exact hv
  | succ j=>simp at hj
 refine enter func235 rfl ntmps235 rfl<|?_;have aW:=St.s0 w;refine jo ?_;have zq:=aW.dc;refine WC.fc (m:=4) (E:=dy [(2,fun v _=>v=.string s)]) aW (bT (⟨fun _ _ _ _ _ _ _ h=>h,trivial⟩)) mixed (by kernel_rfl)<|db ?_;refine DW.c0 (fun wx hC hF=>ot hs)<|?_;refine DP .r (fun _ hC=>PV.pM Fp (bE hr (St.cg hC.2) (by simp)) rfl rfl)<|(ey)<|?_;rintro w1 ⟨fj,st1⟩ ⟨_,_⟩;refine WP .r (PV.cD (us:=[.string f,.string s,.nilIface]) Mi rfl rfl rfl)<|(eD) st1 fun jd w2 ma fP st2=>?_;refine(cm) ?_;exact⟨_,rfl,(St.cg st2)⟩
theorem CT(hs:s.size≤1000) (hv:w.cell? ⟨3,0,none⟩=some (.iface t p)):Calls prog 235 #[.string f,.string s] w fun e w'=>∃b,e=.returned (.pointer (some ⟨b,0,none⟩))∧bj [] w w':=by
 have hr:w.rangeAt 3 0 [(.iface t p)]:=fun j v hj=>by
  cases j with
  | zero=>simp at hj;subst hj;exact hv
  | succ j=>simp at hj
 refine enter func235 rfl ntmps235 rfl<|?_;have aW:=St.s0 w;refine jo ?_;have zq:=aW.dc;refine WC.fc (m:=4) (E:=dy [(2,fun v _=>v=.string s)]) aW (bT (⟨fun _ _ _ _ _ _ _ h=>h,trivial⟩)) mixed (by kernel_rfl)<|db ?_;refine DW.c0 (fun wx hC hF=>ot hs)<|?_;refine DP .r (fun _ hC=>PV.pM Fp (bE hr (St.cg hC.2) (by simp)) rfl rfl)<|(ey)<|?_;rintro w1 ⟨fj,st1⟩ ⟨_,_⟩;refine WP .r (PV.cD (us:=[.string f,.string s,(.iface t p)]) Mi rfl rfl rfl)<|(eD) st1 fun jd w2 ma fP st2=>?_;refine(cm) ?_;exact⟨_,rfl,(St.cg st2)⟩
theorem aly:prog.globalNamed "strconv.ErrRange" = some 3:=by kernel_rfl
theorem FN(ht:oy prog A w) (hs:s.size≤1000):Calls prog 235 #[.string f,.string s] w fun e w'=>∃b,e=.returned (.pointer (some ⟨b,0,none⟩))∧bj [] w w':=by
 obtain⟨ev,hv,dR⟩:=ht.err (.inr rfl) aly
 rcases dR with rfl | ⟨t,p,rfl⟩
 ·
  exact CS hs hv
 exact CT hs hv
theorem IA(ht:oy prog A w) (hs:s.size≤1000):Calls prog 189 #[.string f,.string s,.int .i64 0,.int .i64 0,.iface 272 (.int .i64 2)] w fun e w'=>∃b,e=.returned (.iface 275 (.pointer (some ⟨b,0,none⟩)))∧bj [] w w':=by
 refine enter func189 rfl ntmps189 rfl<|?_;have aW:=St.s0 w;refine bC ?_;refine db ?_;refine WP .r (PV.Pb underlying272 (by intro ms h;cases h) rfl)<|WP .r (PV.Xe underlying203 (by kernel_rfl) underlying272 rfl rfl)<|(bp) (fun g12=>?_) fun g12=>?_
 ·
  refine(df) aeK (FM (ht.ext (St.cg aW)) hs) ?_;rintro _ w1 ⟨b,rfl,s1⟩;have st1:=aW.step s1;refine WP .r (PV.Pb underlying275 (by intro ms h;cases h) rfl)<|(cm) ?_;exact⟨_,rfl,(St.cg st1)⟩
 ·
  exact gM g12
 -- xz ky C19 R4.0 R4.1 R5.2 R5.3 X1
theorem IB(ht:oy prog A w) (hs:s.size≤1000):Calls prog 189 #[.string f,.string s,.int .i64 0,.int .i64 0,.iface 272 (.int .i64 1)] w fun e w'=>∃b,e=.returned (.iface 275 (.pointer (some ⟨b,0,none⟩)))∧bj [] w w':=by
 refine enter func189 rfl ntmps189 rfl<|?_;have aW:=St.s0 w;refine bC ?_;refine db ?_;refine WP .r (PV.Pb underlying272 (by intro ms h;cases h) rfl)<|WP .r (PV.Xe underlying203 (by kernel_rfl) underlying272 rfl rfl)<|(bp) (fun g12=>?_) fun g12=>?_
 ·
  exact gM g12
 ·
  refine db ?_;refine WP .r (PV.Pb underlying272 (by intro ms h;cases h) rfl)<|WP .r (PV.Xe underlying203 (by kernel_rfl) underlying272 rfl rfl)<|(bp) (fun g19=>?_) fun g19=>?_
  ·
   refine(df) aeL (FN (ht.ext (St.cg aW)) hs) ?_;rintro _ w1 ⟨b,rfl,s1⟩;have st1:=aW.step s1;refine WP .r (PV.Pb underlying275 (by intro ms h;cases h) rfl)<|(cm) ?_;exact⟨_,rfl,(St.cg st1)⟩
  exact gM g19
 -- xz ky R3.2 R3.3 X1
theorem IC{ev:Value}(ht:oy prog A w) (hs:s.size≤1000) (he:ev=.iface 272 (.int .i64 2)∨ev=.iface 272 (.int .i64 1)):Calls prog 189 #[.string f,.string s,.int .i64 0,.int .i64 0,ev] w fun e w'=>∃b,e=.returned (.iface 275 (.pointer (some ⟨b,0,none⟩)))∧bj [] w w':=by
 rcases he with rfl | rfl
 ·
  exact IA ht hs
 exact IB ht hs
theorem Q0(ht:oy prog A w) (hs:s.size≤1000):Calls prog 171 #[.string s] w fun e w'=>∃(v:Int) (ok:Bool) (ev:Value),e=.returned (.tuple #[.int .i64 v,ev])∧(-9223372036854775808≤v∧v≤9223372036854775807)∧((ok=true∧ev=.nilIface)∨(ok=false∧∃t y,ev=.iface t y))∧bj [] w w':=by
 refine enter func171 rfl ntmps171 rfl<|?_;have aW:=St.s0 w;refine(df) aeC (Iy hs w) ?_;rintro _ w1 ⟨v,ok,ev,rfl,hv,eO,dR,s1⟩;have st1:=aW.step s1;refine qT ?_;refine WP .r (PV.ach Fm rfl eO)<|(bp) (fun g12=>?_) fun g12=>?_
 ·
  refine(df) aeD (IC (ht.ext (St.cg st1)) hs (dR (by simpa using g12))) ?_;rintro _ w2 ⟨b,rfl,s2⟩;have st2:=st1.step s2;refine(GH) ?_;exact⟨v,false,_,rfl,hv,.inr ⟨rfl,_,_,rfl⟩,(St.cg st2)⟩
 refine(GH) ?_;exact⟨v,true,.nilIface,rfl,hv,.inl ⟨rfl,rfl⟩,(St.cg st1)⟩
end Go.Rc

