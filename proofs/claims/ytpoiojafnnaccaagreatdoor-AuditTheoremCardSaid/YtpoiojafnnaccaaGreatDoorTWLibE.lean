/- Walks over the program, part WLibE. Conditions: as each theorem says. -/
import Derived.Test.YtpoiojafnnaccaaGreatDoorTFacts
import Derived.Test.YtpoiojafnnaccaaGreatDoorTWK
import Derived.Test.YtpoiojafnnaccaaGreatDoorTBe
import Derived.Test.YtpoiojafnnaccaaGreatDoorTWB
import Derived.Test.YtpoiojafnnaccaaGreatDoorTBd
import Derived.Test.YtpoiojafnnaccaaGreatDoorShelf
import Derived.Test.YtpoiojafnnaccaaGreatDoorTWD
import Derived.Test.YtpoiojafnnaccaaGreatDoorTBf
import Derived.Test.YtpoiojafnnaccaaGreatDoorTBb
set_option linter.all false
namespace Go.Rc
open Go Go.Proofs Go.Proofs.Tryz
variable {ab:List aJ}{x:dT}{D:SD}{xb bb:Nat}{w:World}{M Z A:Nat→Prop}{s f:ByteArray}{E:EA}{k:Key}{s':ES}{n:Int}{t:TypeId}{p:Value}
set_option maxHeartbeats 400000
def UpC(ab:List aJ) (x:dT) (D:SD) (xb bb f:Nat):Prop:=∀(w:World) (M Z:Nat→Prop) (s:ES) (E:EA) (k:Key) (s':ES),St w M Z w [As.blk xb 101 (E.cells D.s bb s),As.mD prog 144 ab x D,As.map Key.val bb s.busy,As.os RR.key 58 2 E.a3 E.n3 E.c3 s.cy]→Rd RR.aH 4 Z w E.a1 E.n1 E.c1 s.b.ah→Rd RR.ff 8 Z w E.a2 E.n2 E.c2 s.b.ao→Good ab x.ah s→gH ab k→oB ab (valOf ab x.ah) f s k=some s'→s'.cy.length≤1000000→
 Calls prog 43 #[.pointer (some ⟨xb,0,none⟩),k.val] w fun e w'=>∃(E':EA) (Z':Nat→Prop),e=.returned (.tuple #[])∧cQ w.heap.size Z Z'∧Rd RR.aH 4 Z' w' E'.a1 E'.n1 E'.c1 s'.b.ah∧Rd RR.ff 8 Z' w' E'.a2 E'.n2 E'.c2 s'.b.ao∧St w M Z' w' [As.blk xb 101 (E'.cells D.s bb s'),As.mD prog 144 ab x D,As.map Key.val bb s'.busy,As.os RR.key 58 2 E'.a3 E'.n3 E'.c3 s'.cy]
set_option maxHeartbeats 1600000 in
theorem IM{s:ES}{f:Nat}{r:Bool}(hR:ay ab) (bF:St w M Z w [As.blk xb 101 (E.cells D.s bb s),As.mD prog 144 ab x D,As.map Key.val bb s.busy,As.os RR.key 58 2 E.a3 E.n3 E.c3 s.cy]) (hi:Rd RR.aH 4 Z w E.a1 E.n1 E.c1 s.b.ah) (hr:Rd RR.ff 8 Z w E.a2 E.n2 E.c2 s.b.ao) (uy:Good ab x.ah s) (zI:s.b.ah.length≤1000000) (j8:∀g,g<f→UpC ab x D xb bb g) (Rb:dL ab (valOf ab x.ah) f s k 0=some (s',r)) (rq:s'.cy.length≤1000000):Calls prog 79 #[.pointer (some ⟨xb,0,none⟩),k.val] w fun e w'=>∃(E':EA) (Z':Nat→Prop),e=.returned (.bool r)∧cQ w.heap.size Z Z'∧Rd RR.aH 4 Z' w' E'.a1 E'.n1 E'.c1 s'.b.ah∧Rd RR.ff 8 Z' w' E'.a2 E'.n2 E'.c2 s'.b.ao∧St w M Z' w' [As.blk xb 101 (E'.cells D.s bb s'),As.mD prog 144 ab x D,As.map Key.val bb s'.busy,As.os RR.key 58 2 E'.a3 E'.n3 E'.c3 s'.cy]:=by
 refine enter func79 rfl ntmps79 rfl<|?_;have aW:=bF;have st1:=aW.fr hi;have st2:=st1.fr hr;refine(ef) st2 fun b3 w1 gO dB aP=>?_;refine mT ?_;refine WC.jY (σ:=Nat × ES × EA × Nat × (Nat→Prop)) (eI:=fun(fu,s1,E1,ix,Z1)=>[(0,.pointer (some ⟨xb,0,none⟩)),(3,.pointer (some ⟨b3,0,none⟩)),(5,.int .i64 (ix:Int))]) (F:=fun(fu,s1,E1,ix,Z1)=>[As.blk xb 101 (E1.cells D.s bb s1),As.map Key.val bb s1.busy,As.os RR.key 58 2 E1.a3 E1.n3 E1.c3 s1.cy,As.ro RR.aH 4 E1.a1 E1.n1 E1.c1 s1.b.ah,As.ro RR.ff 8 E1.a2 E1.n2 E1.c2 s1.b.ao]) (I:=fun(fu,s1,E1,ix,Z1)=>(dL ab (valOf ab x.ah) fu s1 k ix=some (s',r))∧(Good ab x.ah s1)∧(fu≤f)∧(cQ w.heap.size Z Z1)∧True) (μ:=fun(fu,s1,E1,ix,Z1)=>fu) (Zf:=fun(fu,s1,E1,ix,Z1)=>Z1) (f,s,E,0,Z) (aP.p1.p2.p6.p6.p5) Sub.t (⟨Rb,uy,Nat.le_refl _,cQ.refl _ _,trivial⟩)<|?_;rintro⟨fu,s1,E1,ix,Z1⟩ w2 aU ⟨dP,rp,hfu,hZ,_⟩;simp only [CA,NA] at aU dP rp hfu hZ ⊢
 obtain⟨OT,rfl⟩:∃g,fu=g+1:=by cases fu with | zero=>simp [dL] at dP | succ g=>exact⟨g,rfl⟩
 unfold dL at dP
 have hl4:=rp.len
 have alG:s1.b.ah.length≤1000000:=by rw [rp.aH,← uy.aH];exact zI
 refine(bO) Eu aU.b0<|(br) (fun g17=>?_) fun g17=>?_
 ·
  simp at g17
  rw [if_neg (by simp [g17])] at dP;refine dC ?_;have Iy:=aU.dc;have Lq:=aU.mx;have Lr:=aU.size;refine WC.uj (m:=11) [9] (E:=dx [(6,fun v _=>∃f1 f2 f3,v=.tuple #[.agg ((aG s1.b.ao k).row f1 f2 f3).toArray,.bool (aD s1.b.ao k).isSome]),(10,PB w2.heap.size 60 [.int .i64 0,.string ⟨#[]⟩,.string ⟨#[]⟩,.slice none 0 0,.int .i64 0,.int .i64 0,.int .i64 0,.bool false])]) aU (bS (⟨fun _ _ _ _ _ _ _ h=>h,⟨fun _ _ _ _ _ _ c h=>PB.st Iy c h,trivial⟩⟩)) mixed (by kernel_rfl) rfl ?_;refine dC ?_;refine DP .r (fun _ hC=>PV.ld1 (j:=3) eN (cI.range (As.gb hC.2.g0)) rfl rfl)<|(ju) av St.g5<|?_;refine DW.e rfl rfl rfl rfl rfl (fun wx hC hF=>OX.call vR rfl rfl ((fI (k:=k) (As.gr hC.2.g4)).mono ?_))<|?_
  ·
   rintro _ wy ⟨f1,f2,f3,rfl,hy⟩;exact⟨_,rfl,⟨Nat.le_trans hC.1 hy.size,hC.2.step hy⟩,hy.p0,_,rfl,⟨f1,f2,f3,rfl⟩⟩
  rintro _ wz _ ⟨f1,f2,f3,rfl⟩;refine dy ?_;refine DW.e rfl rfl rfl rfl rfl (fun wx hC hF=>OX.alloc uG rfl fun b wy nw hb=>⟨⟨Nat.le_trans hC.1 nw.ext.size,hC.2.step nw.ext⟩,nw.ext.p0,_,rfl,_,rfl,Nat.le_trans hC.1 nw.ge,hb⟩)<|?_;rintro _ wz _ ⟨b6,rfl,_,_⟩;refine(eu) ?_;rintro w3 ⟨eQ,aY⟩ ⟨B1,⟨_,_⟩⟩;have bj:=aY.y5 B1 Iy Lq Lr;refine(dA) gJ bj fun w4 jv jC bP=>?_;refine nx ?_;refine WL.nil (EX.np ?_);refine dy ?_;refine WC.fF (t:=33) (v:=.bool (!(aD s1.b.ao k).isSome || (aG s1.b.ao k).ct)) bP ?_<|?_
  ·
   refine(dW) (fun me=>?_) (fun me=>?_)
   ·
    exact(dq) (by simp only [me];first | rfl | simp) (bP)
   refine(bO) fH bP.b0<|?_;exact(dq) (by simp only [me];first | rfl | simp) (bP)
  intro w5 bQ;refine(br) (fun j3=>?_) fun j3=>?_
  ·
   rw [if_pos j3] at dP;simp only [Option.some.injEq,Prod.mk.injEq] at dP;obtain⟨JS,Re⟩:=dP;subst JS;subst Re;refine(cj) ?_;exact⟨E1,_,rfl,hZ,(As.gr bQ.g4),(As.gr bQ.g5),bQ.p3.p3.p7.p4.k4⟩
  rw [if_neg (by rw [j3];simp)] at dP;refine dC ?_;have Sm:=bQ.dc;refine WC.dS (m:=7) bQ mixed<|(lX) aZ St.g0<|dC ?_;refine DP .r (fun _ hC=>PV.ld1 (j:=1) aZ (cI.range (As.gb hC.2.g1)) rfl rfl)<|(eu)<|?_;rintro w6 ⟨pL,bV⟩ _;refine(br) (fun BC=>?_) fun BC=>?_
  ·
   simp at BC
   rw [if_pos BC] at dP;simp only [Option.some.injEq,Prod.mk.injEq] at dP;obtain⟨JS,Re⟩:=dP;subst JS;subst Re;refine(cj) ?_;exact⟨E1,_,rfl,hZ,(As.gr bV.g4),(As.gr bV.g5),bV.p3.p3.p7.p4.k4⟩
  simp at BC
  rw [if_neg BC] at dP;refine dy ?_;have hN8:=bV.dc;refine WC.dS (m:=11) bV mixed<|dC ?_;refine DP .r (fun _ hC=>PV.ld1 (j:=3) eN (cI.range (As.gb hC.2.g1)) rfl rfl)<|dC ?_;refine DP .r (fun _ hC=>PV.ld1 (j:=1) aZ (cI.range (As.gb hC.2.g1)) rfl rfl)<|(ju) av St.g6<|(eu)<|?_;rintro w7 ⟨ru,aL⟩ _;have aQ:=aL;refine(cW) VP (B4 aQ.e0 (As.gr aQ.g5) (by omega)) ?_;rintro _ w8 ⟨q1,q2,q3,Z2,rfl,B5,jU⟩;have aV:=St.lv aQ jU B5;have OI:=qh s1.b.ao s1.b.ae k;have Rf:=St.cH jU;have pK:=aQ.size;have alH:=hZ.trans B5 pK;have bD:=aV.bX (by omega);have kZ:=alH.trans (cQ.fo (F:=fun x=>x∈aO q1) Rf) pK;refine pQ ?_;refine WP .r (PV.ld1 (j:=3) eN bD.b2 rfl rfl)<|nx ?_;have bp:=bD;refine(cW) VO (vU bp.e0 (As.gr bp.g6) (As.gr bp.g0) (Fj rp (by omega))) ?_;rintro _ w9 ⟨p1,p2,p3,Z3,rfl,sw,oq⟩;have ba:=St.lv bp oq sw;have qX:=kZ.trans sw bp.size;have u6:=((As.gs ba.g0)).len;have hca:=Fk rp (group:=(aF s1.b.ao s1.b.ae k)) (by omega);refine(br) (fun V8=>?_) fun V8=>?_
  ·
   simp at V8
   have gh:(cC s1.b.ao (aF s1.b.ao s1.b.ae k))[ix]?=none:=List.getElem?_eq_none (by omega);rw [gh] at dP;simp only [] at dP;simp only [Option.some.injEq,Prod.mk.injEq] at dP;obtain⟨JS,Re⟩:=dP;subst JS;subst Re;refine(kF) aM ba.b3<|nx ?_;have aX:=ba;refine(cW) MC (qB aX.e0 (As.gr aX.g6) (As.gr aX.g7) (As.gr aX.g1) (by omega) (by omega)) ?_;rintro _ kN ⟨m1,m2,m3,m4,m5,m6,Z4,rfl,B6,iL⟩;have bN:=St.lv aX iL B6;have xU:=qX.trans B6 aX.size;have Ls:=St.cH iL;have EW:=St.cH iL.p1;have lB:=aX.size;refine cV ?_;refine WL.go rfl (OX.Xf fL (As.gb bN.g5) rfl rfl rfl rfl rfl fun kO sr nc=>?_);have bR:=bN.p5.Ho sr nc;refine nx ?_;have bE:=bR.CE (B:=As.blk xb 101 (EA.cells ⟨m1,m4,E1.a3,m2,m3,m5,m6,E1.n3,E1.c3⟩ D.s bb {s1 with b:=dZ s1.b (aF s1.b.ao s1.b.ae k) false})) (rfl)
   have jV:(dZ s1.b (aF s1.b.ao s1.b.ae k) false).ao.length=s1.b.ao.length:=by simp [dZ]
   have R6:(dZ s1.b (aF s1.b.ao s1.b.ae k) false).ah=s1.b.ah:=rfl;have bZ:=bE.p1.bX (by rw [R6];omega);have cG:=bZ.p2.bX (by omega);have ot:=(xU.trans (cQ.fo (F:=fun x=>x∈aO m1) Ls) lB).trans (cQ.fo (F:=fun x=>x∈aO m4) EW) lB;refine(cj) ?_;exact⟨⟨m1,m4,E1.a3,m2,m3,m5,m6,E1.n3,E1.c3⟩,_,rfl,ot,(As.gr cG.g1),(As.gr cG.g0),cG.p7.p7.pP.p5.k4⟩
  simp at V8
  obtain⟨ch,rD⟩:∃ch,(cC s1.b.ao (aF s1.b.ao s1.b.ae k))[ix]?=some ch:=⟨_,aq (by omega)⟩;rw [rD] at dP;simp only [] at dP;have xm:=i6 rp rD;refine dy ?_;obtain⟨gF,aT⟩:=Ow.addr (As.gs ba.g0) rD;refine dy ?_;refine WP .r (PV.fC MB aT rfl rfl (by omega))<|(bA) FC (Ow.rS (As.gs ba.g0) (by omega) aT rD)<|(fU) ba fun iI kN lV fN aX=>?_;refine(dA) Qq aX fun kO ED tj bN=>?_;refine(kF) av bN.b0<|(gg) (IL (k:=ch.read) (sb:=D.s) (s:=s1) (E:=E1) (As.gb bN.g4) (As.gm bN.g5) rp.busy (As.gr bN.g8)) bN fun qW s12 bR=>?_;refine(br) (fun pf=>?_) fun pf=>?_
  ·
   simp at pf
   rw [if_pos pf] at dP;obtain⟨t,R9,r9⟩:=Option.bind_eq_some_iff.1 dP;have JJ:=(dr hR OT).1 _ _ _ R9 rp xm;have hgc:=(dr hR OT).2.1 _ _ _ _ _ r9 JJ.1;refine(kF) av bR.b0<|?_;have bE:=bR.p6.p6.q0.p7;refine(cW) YR (j8 OT (by omega) _ _ _ _ _ _ _ bE.e4 (As.gr bE.g8) (As.gr bE.g9) rp xm R9 (by have:=hgc.2.cy;omega)) ?_;rintro _ uX ⟨E2,Z5,rfl,wa,Uy,hr5,we⟩;have bZ:=St.lv bE we wa;have ot:=qX.trans wa bE.size;have cG:=bZ.fr (Uy);have cF:=cG.fr (hr5);have cP:=cF.q0.drop;have cv:=cP.q0.drop;refine ew ?_;refine fx (OT,t,E2,ix,Z5) ⟨cv.p6.drop.p6.drop.p6.drop.p6.drop.p6.p1.p2.p6.p6.p5,⟨r9,JJ.1,by omega,ot,trivial⟩⟩
  simp at pf
  rw [if_neg (by rw [pf];simp)] at dP;refine dy ?_;have ZQ:=bR.dc;have afy:=bR.mx;have afz:=bR.size;refine WC.uj (m:=12) [10] (E:=dx [(7,fun v _=>∃f1 f2 f3,v=.tuple #[.agg ((aG s1.b.ao ch.ft).row f1 f2 f3).toArray,.bool (aD s1.b.ao ch.ft).isSome]),(11,PB qW.heap.size 60 [.int .i64 0,.string ⟨#[]⟩,.string ⟨#[]⟩,.slice none 0 0,.int .i64 0,.int .i64 0,.int .i64 0,.bool false])]) bR (bS (⟨fun _ _ _ _ _ _ _ h=>h,⟨fun _ _ _ _ _ _ c h=>PB.st ZQ c h,trivial⟩⟩)) mixed (by kernel_rfl) rfl ?_;refine dC ?_;refine DP .r (fun _ hC=>PV.ld1 (j:=3) eN (cI.range (As.gb hC.2.g4)) rfl rfl)<|(CS) av St.g0<|?_;refine DW.e rfl rfl rfl rfl rfl (fun wx hC hF=>OX.call vR rfl rfl ((fI (k:=ch.ft) (As.gr hC.2.g8)).mono ?_))<|?_
  ·
   rintro _ wy ⟨f1,f2,f3,rfl,hy⟩;exact⟨_,rfl,⟨Nat.le_trans hC.1 hy.size,hC.2.step hy⟩,hy.p0,_,rfl,⟨f1,f2,f3,rfl⟩⟩
  rintro _ wz _ ⟨f1,f2,f3,rfl⟩;refine dy ?_;refine DW.e rfl rfl rfl rfl rfl (fun wx hC hF=>OX.alloc uG rfl fun b wy nw hb=>⟨⟨Nat.le_trans hC.1 nw.ext.size,hC.2.step nw.ext⟩,nw.ext.p0,_,rfl,_,rfl,Nat.le_trans hC.1 nw.ge,hb⟩)<|?_;rintro _ wz _ ⟨rI,rfl,_,_⟩;refine(eu) ?_;rintro uX ⟨Rg,bE⟩ ⟨alL,⟨_,_⟩⟩;have bZ:=bE.y5 alL ZQ afy afz;refine(dA) gJ bZ fun zN Sj xt cG=>?_;refine nx ?_;refine WL.nil (EX.np ?_);refine dy ?_;have as6:=cG.dc;refine WC.eU (m:=13) (E:=dx [(10,fun v _=>v=.int .i64 (bT (valOf ab x.ah) s1.b ch.read))]) cG (bS (⟨fun _ _ _ _ _ _ _ h=>h,trivial⟩)) mixed (by kernel_rfl)<|(lX) Qo St.g5<|(CS) aM St.g5<|(CS) av St.g1<|?_;refine DW.e rfl rfl rfl rfl rfl (fun wx hC hF=>OX.call VU rfl rfl ((tS (k:=ch.read) hR xm (hC.2.one (.tail _ (.tail _ (.tail _ (.tail _ (.tail _ (.tail _ (.tail _ (.tail _ (.tail _ (.tail _ (.tail _ (.head _))))))))))))) (As.gr hC.2.g8) (As.gr hC.2.g9)).mono ?_))<|?_
  ·
   rintro _ wy ⟨rfl,hy⟩;exact⟨_,rfl,⟨Nat.le_trans hC.1 hy.cT.size,hC.2.D0 my hy⟩,hy.cT.mono (fun _ _ hx=>Ma my hx),_,rfl,rfl⟩
  rintro _ wz _ rfl;refine(lX) aZ St.g0<|(eu)<|?_;rintro uY ⟨afA,cF⟩ ⟨_,_⟩;refine(br) (fun Uz=>?_) fun Uz=>?_
  ·
   simp at Uz
   rw [if_pos Uz] at dP;refine(bA) av (cI.range (As.gb cF.g10))<|(gg) (eA (k:=k)) cF fun zw s16 cP=>?_;refine(br) (fun ZR=>?_) fun ZR=>?_
   ·
    rw [if_pos ZR] at dP;simp only [Option.some.injEq,Prod.mk.injEq] at dP;obtain⟨JS,Re⟩:=dP;subst JS;subst Re;refine(kF) aM cP.b5<|nx ?_;have cv:=cP;refine(cW) MC (qB cv.e0 (As.gr cv.g8) (As.gr cv.g9) (As.gr cv.g3) (by omega) (by omega)) ?_;rintro _ C9 ⟨m1,m2,m3,m4,m5,m6,Z4,rfl,B6,wg⟩;have cK:=St.lv cv wg B6;have xU:=qX.trans B6 cv.size;have Ls:=St.cH wg;have EW:=St.cH wg.p1;have lB:=cv.size;refine cV ?_;refine WL.go rfl (OX.Xf fL (As.gb cK.g7) rfl rfl rfl rfl rfl fun CN Sn Hr=>?_);have ey:=cK.p7.Ho Sn Hr;refine nx ?_;have dz:=ey.CE (B:=As.blk xb 101 (EA.cells ⟨m1,m4,E1.a3,m2,m3,m5,m6,E1.n3,E1.c3⟩ D.s bb {s1 with b:=dZ s1.b (aF s1.b.ao s1.b.ae k) true})) (rfl)
    have jV:(dZ s1.b (aF s1.b.ao s1.b.ae k) true).ao.length=s1.b.ao.length:=by simp [dZ]
    have R6:(dZ s1.b (aF s1.b.ao s1.b.ae k) true).ah=s1.b.ah:=rfl;have eC:=dz.p1.bX (by rw [R6];omega);have dh:=eC.p2.bX (by omega);have ot:=(xU.trans (cQ.fo (F:=fun x=>x∈aO m1) Ls) lB).trans (cQ.fo (F:=fun x=>x∈aO m4) EW) lB;refine(cj) ?_;exact⟨⟨m1,m4,E1.a3,m2,m3,m5,m6,E1.n3,E1.c3⟩,_,rfl,ot,(As.gr dh.g1),(As.gr dh.g0),dh.p9.p9.yZ.p5.k4⟩
   rw [if_neg (by rw [ZR];simp)] at dP;simp only [Option.some.injEq,Prod.mk.injEq] at dP;obtain⟨JS,Re⟩:=dP;subst JS;subst Re;refine bC ?_;refine(cj) ?_;exact⟨E1,_,rfl,qX,(As.gr cP.g8),(As.gr cP.g9),cP.p7.p7.pP.p8.k4⟩
  simp at Uz
  rw [if_neg (by omega)] at dP;refine kE ?_;refine fx (OT,s1,E1,ix+1,Z3) ⟨cF.drop.drop.drop.drop.drop,⟨dP,rp,by omega,qX,trivial⟩⟩
 simp at g17
 rw [if_pos g17] at dP;simp only [Option.some.injEq,Prod.mk.injEq] at dP;obtain⟨JS,Re⟩:=dP;subst JS;subst Re;refine(cj) ?_;exact⟨E1,_,rfl,hZ,(As.gr aU.g3),(As.gr aU.g4),aU.p2.p2.p6.p3.k4⟩
set_option maxHeartbeats 1600000 in
theorem Oi{s:ES}{f:Nat}(hR:ay ab) (bF:St w M Z w [As.blk xb 101 (E.cells D.s bb s),As.mD prog 144 ab x D,As.map Key.val bb s.busy,As.os RR.key 58 2 E.a3 E.n3 E.c3 s.cy]) (hi:Rd RR.aH 4 Z w E.a1 E.n1 E.c1 s.b.ah) (hr:Rd RR.ff 8 Z w E.a2 E.n2 E.c2 s.b.ao) (uy:Good ab x.ah s) (zI:s.b.ah.length≤1000000) (OJ:jL ab k 0) (j8:∀g,g<f→UpC ab x D xb bb g) (Rb:jr ab (valOf ab x.ah) f s k [] []=some s') (rq:s'.cy.length≤1000000):Calls prog 80 #[.pointer (some ⟨xb,0,none⟩),k.val] w fun e w'=>∃(E':EA) (Z':Nat→Prop),e=.returned (.tuple #[])∧cQ w.heap.size Z Z'∧Rd RR.aH 4 Z' w' E'.a1 E'.n1 E'.c1 s'.b.ah∧Rd RR.ff 8 Z' w' E'.a2 E'.n2 E'.c2 s'.b.ao∧St w M Z' w' [As.blk xb 101 (E'.cells D.s bb s'),As.mD prog 144 ab x D,As.map Key.val bb s'.busy,As.os RR.key 58 2 E'.a3 E'.n3 E'.c3 s'.cy]:=by
 refine enter func80 rfl ntmps80 rfl<|?_;have aW:=bF;have st1:=aW.fr hi;have st2:=st1.fr hr;have aP:=st2.fc RR.key 58 2;have aU:=aP.fc RR.str 9 1;refine(ef) aU fun b3 w1 gO dB aY=>?_;refine bC ?_;refine nx ?_;refine WC.jY (σ:=Nat × ES × EA × (List Key) × (List ByteArray) × (Nat→Prop) × (Option Addr) × Nat × Nat × (Option Addr) × Nat × Nat) (eI:=fun(fu,s1,E1,reads,ak,Z1,o9,n5,sy,IP,F3,IQ)=>[(0,.pointer (some ⟨xb,0,none⟩)),(3,.pointer (some ⟨b3,0,none⟩)),(4,.slice o9 n5 sy),(5,.slice IP F3 IQ)]) (F:=fun(fu,s1,E1,reads,ak,Z1,o9,n5,sy,IP,F3,IQ)=>[As.os RR.key 58 2 o9 n5 sy (reads),As.os RR.str 9 1 IP F3 IQ (ak),As.blk xb 101 (E1.cells D.s bb s1),As.map Key.val bb s1.busy,As.os RR.key 58 2 E1.a3 E1.n3 E1.c3 s1.cy,As.ro RR.aH 4 E1.a1 E1.n1 E1.c1 s1.b.ah,As.ro RR.ff 8 E1.a2 E1.n2 E1.c2 s1.b.ao]) (I:=fun(fu,s1,E1,reads,ak,Z1,o9,n5,sy,IP,F3,IQ)=>(jr ab (valOf ab x.ah) fu s1 k reads ak=some s')∧(Good ab x.ah s1)∧(fu≤f)∧(cQ w.heap.size Z Z1)∧(jL ab k ak.length)∧(reads.length=ak.length)∧(∀a∈reads,gH ab a)∧(∀y∈aO o9,w.heap.size≤y)∧True) (μ:=fun(fu,s1,E1,reads,ak,Z1,o9,n5,sy,IP,F3,IQ)=>fu) (Zf:=fun(fu,s1,E1,reads,ak,Z1,o9,n5,sy,IP,F3,IQ)=>Z1) (f,s,E,[],[],Z,none,0,0,none,0,0) (aY.p3.p4.p8.p8.p7.p6.p7) Sub.t (⟨Rb,uy,Nat.le_refl _,cQ.refl _ _,OJ,rfl,(fun a ha=>by cases ha),(by simp [aO]),trivial⟩)<|?_;rintro⟨fu,s1,E1,reads,ak,Z1,o9,n5,sy,IP,F3,IQ⟩ w2 bj ⟨dP,rp,hfu,hZ,Oj,hlen,hrk,k8,_⟩;simp only [CA,NA] at bj dP rp hfu hZ Oj hlen hrk k8 ⊢
 obtain⟨OT,rfl⟩:∃g,fu=g+1:=by cases fu with | zero=>simp [jr] at dP | succ g=>exact⟨g,rfl⟩
 unfold jr at dP
 have hl4:=rp.len
 have alG:s1.b.ah.length≤1000000:=by rw [rp.aH,← uy.aH];exact zI
 have h6:=Oj.le hR;have J5:=((As.gs bj.g0)).len;have uq:=((As.gs bj.g1)).len;have u6:=((As.gr bj.g6)).len;refine(bO) Eu bj.b2<|(br) (fun g13=>?_) fun g13=>?_
 ·
  simp at g13
  rw [if_neg (by simp [g13])] at dP;refine dC ?_;obtain⟨tt,wX⟩:∃t,bf ab k ak=t:=⟨_,rfl⟩;rw [wX] at dP;have afB:=@jL.next ab k hR ak Oj;rw [wX] at afB;have Wf:=bj.dc;have alM:=bj.mx;have alN:=bj.size;refine WC.eU (m:=11) (E:=dx [(9,fun v _=>v=tt.val),(10,PB w2.heap.size 174 [.bool false,.string ⟨#[]⟩,.int .i64 0,.string ⟨#[]⟩])]) bj (bS (⟨fun _ _ _ _ _ _ _ h=>h,⟨fun _ _ _ _ _ _ c h=>PB.st Wf c h,trivial⟩⟩)) mixed (by kernel_rfl)<|dy ?_;refine DP .r (fun _ hC=>PV.pT Qo (cI.range (As.gb hC.2.g2)) rfl rfl)<|cV ?_;refine DP .r (fun _ hC=>V1 nQ (cI.range (As.gvb (hC.2.g8))) .r)<|(ju) av St.g7<|nx ?_;refine DW.c1 (fun wx hC hF=>ie (k:=k) (SD.ht (As.gv (hC.2.g8))) (SD.hu (As.gv (hC.2.g8))) (Ow.rd (As.gs hC.2.g1) (by omega)) hR.hb (Oj.not hR).1) (by rw [wX])<|?_;refine DW.e rfl rfl rfl rfl rfl (fun wx hC hF=>OX.alloc vO rfl fun b wy nw hb=>⟨⟨Nat.le_trans hC.1 nw.ext.size,hC.2.step nw.ext⟩,nw.ext.p0,_,rfl,_,rfl,Nat.le_trans hC.1 nw.ge,hb⟩)<|?_;rintro _ wz _ ⟨b6,rfl,_,_⟩;refine(eu) ?_;rintro w3 ⟨lB,bP⟩ ⟨B1,⟨_,_⟩⟩;have bQ:=bP.y5 B1 Wf alM alN;refine(dA) jn bQ fun w4 jv jC bV=>?_;refine(bO) fH bV.b0<|(br) (fun fy=>?_) fun fy=>?_
  ·
   rw [if_pos fy] at dP;refine cV ?_;have Sm:=bV.dc;have alO:=bV.mx;have alP:=bV.size;refine WC.uj (m:=11) [9] (E:=dx [(6,fun v _=>∃f1 f2 f3,v=.tuple #[.agg ((aG s1.b.ao k).row f1 f2 f3).toArray,.bool (aD s1.b.ao k).isSome]),(10,PB w4.heap.size 60 [.int .i64 0,.string ⟨#[]⟩,.string ⟨#[]⟩,.slice none 0 0,.int .i64 0,.int .i64 0,.int .i64 0,.bool false])]) bV (bS (⟨fun _ _ _ _ _ _ _ h=>h,⟨fun _ _ _ _ _ _ c h=>PB.st Sm c h,trivial⟩⟩)) mixed (by kernel_rfl) rfl ?_;refine dC ?_;refine DP .r (fun _ hC=>PV.ld1 (j:=3) eN (cI.range (As.gb hC.2.g3)) rfl rfl)<|(ju) av St.g8<|?_;refine DW.e rfl rfl rfl rfl rfl (fun wx hC hF=>OX.call vR rfl rfl ((fI (k:=k) (As.gr hC.2.g7)).mono ?_))<|?_
   ·
    rintro _ wy ⟨f1,f2,f3,rfl,hy⟩;exact⟨_,rfl,⟨Nat.le_trans hC.1 hy.size,hC.2.step hy⟩,hy.p0,_,rfl,⟨f1,f2,f3,rfl⟩⟩
   rintro _ wz _ ⟨f1,f2,f3,rfl⟩;refine dy ?_;refine DW.e rfl rfl rfl rfl rfl (fun wx hC hF=>OX.alloc uG rfl fun b wy nw hb=>⟨⟨Nat.le_trans hC.1 nw.ext.size,hC.2.step nw.ext⟩,nw.ext.p0,_,rfl,_,rfl,Nat.le_trans hC.1 nw.ge,hb⟩)<|?_;rintro _ wz _ ⟨b7,rfl,_,_⟩;refine(eu) ?_;rintro w5 ⟨pL,aL⟩ ⟨B1,⟨_,_⟩⟩;have aQ:=aL.y5 B1 Sm alO alP;refine(dA) gJ aQ fun w6 sr nc aV=>?_;refine nx ?_;refine WL.nil (EX.np ?_);refine cV ?_;refine WC.fF (t:=46) (v:=.bool (!(aD s1.b.ao k).isSome && decide (4000≤s1.b.ao.length))) aV ?_<|?_
   ·
    refine(dW) (fun qC=>?_) (fun qC=>?_)
    ·
     refine dC ?_;refine WP .r (PV.ld1 (j:=3) eN aV.b4 rfl rfl)<|?_;exact(dq) (by simp only [qC];first | rfl | (simp [u6];done) | (simp;omega)) (aV)
    exact(dq) (by simp only [qC];first | rfl | (simp [u6];done) | (simp;omega)) (aV)
   intro w7 bD;refine(br) (fun BD=>?_) fun BD=>?_
   ·
    rw [if_pos BD] at dP;simp only [Option.some.injEq] at dP;subst dP;refine ew ?_;refine WL.s1 bD.p4 fun w8 _ bp=>?_;refine nx ?_;have ba:=bp.CE (B:=As.blk xb 101 (EA.cells E1 D.s bb {s1 with e:=45})) (rfl);refine gp ?_;refine EX.zR (.inl rfl) rfl<|?_;exact⟨E1,_,rfl,hZ,(As.gr ba.g7),(As.gr ba.g8),ba.p6.p6.q0.p3.k4⟩
   rw [if_neg (by rw [BD];simp)] at dP;simp only [Option.some.injEq] at dP;subst dP
   have NK:s1.cy.length+1≤1000000:=by simpa using rq
   refine dy ?_;have bp:=bD.p2.bX (by omega);have qX:=hZ.trans (cQ.fo (F:=fun x=>x∈aO o9) k8) (Nat.le_refl _);have hN9:=bp.dc;refine WC.uj (m:=15) [0] (E:=dx [(14,fun v _=>v=.agg ((ek s1.b k tt.value reads).row o9 n5 sy).toArray)]) bp (bS (⟨fun _ _ _ _ _ _ _ h=>h,trivial⟩)) mixed (by kernel_rfl) rfl ?_;refine ew ?_;refine DP .r (fun _ hC=>PV.ld1 (j:=3) eN (cI.range (As.gb hC.2.g4)) rfl rfl)<|(CS) aM St.g4<|(ju) av St.g9<|(lX) iq St.g2<|nx ?_;refine DW.c0 (fun wx hC hF=>BO (k:=k) (v:=tt.value) (As.gr hC.2.g7) (As.gr hC.2.g8) (As.gr hC.2.g0))<|(eu) ?_;rintro w8 ⟨Uu,ba⟩ ⟨_,_⟩;have aX:=ba;refine(cW) VR (BJ (x:=(ek s1.b k tt.value reads)) aX.e0 (As.gr aX.g8) (by omega) (As.gr aX.g0) (by show reads.length≤4000;omega)) ?_;rintro _ w9 ⟨p1,p2,p3,Z4,rfl,B6,oq⟩;have bN:=St.lv aX oq B6;have Sk:(gW s1.b.ao (ek s1.b k tt.value reads)).length≤s1.b.ao.length+1:=xa (ek s1.b k tt.value reads) s1.b.ao false;have MM:=St.cH oq;have lB:=aX.size;have xU:=qX.trans B6 lB;have bR:=bN.bX (by omega);have ot:=xU.trans (cQ.fo (F:=fun x=>x∈aO p1) MM) lB;refine dy ?_;refine WL.s1 (j:=3) bR.p5 fun kN _ bE=>?_;refine WL.nil (EX.np ?_);have bZ:=bE.CE (B:=As.blk xb 101 (EA.cells ⟨E1.a1,p1,E1.a3,E1.n1,E1.c1,p2,p3,E1.n3,E1.c3⟩ D.s bb {s1 with b:={s1.b with ao:=gW s1.b.ao (ek s1.b k tt.value reads)}})) (rfl);refine cV ?_;have hnr:=((As.gs bZ.g7)).len;have C7:=bZ.dc;have Iz:=bZ.mx;have IA:=bZ.size;refine WC.uj (m:=7) [0] (E:=dx [(6,PS kN.heap.size 58 1 k.cells)]) bZ (bS (⟨fun _ _ _ _ _ _ c h=>PS.st C7 c h,trivial⟩)) mixed (by kernel_rfl) rfl ?_;refine(lX) fA St.g0<|(ju) av St.g10<|?_;refine DW.e rfl rfl rfl rfl rfl (fun wx hC hF=>OX.bB (us:=k.cells) fS rfl rfl rfl rfl fun b wy nw hb=>⟨⟨Nat.le_trans hC.1 nw.ext.size,hC.2.step nw.ext⟩,nw.ext.p0,_,rfl,_,rfl,Nat.le_trans hC.1 nw.ge,hb⟩)<|?_;rintro _ wz _ ⟨b75,rfl,_,_⟩;refine(eu) ?_;rintro kO ⟨BX,cG⟩ ⟨ZN,_⟩;have cF:=cG.y5 (PS.pb ZN) C7 Iz IA;refine WL.go rfl (OX.oM tn rfl rfl rfl (As.gs cF.g8) (SR.eP (A:=fun _=>True) (x:=k) (As.gb cF.g0) trivial rfl (by simp [Key.cells,Value.oneCell']) rfl) (by show(E1.n3+1)*_≤_;omega) (by show E1.n3+1≤_;omega) (Nat.zero_le _) fun a76 Ol qW ZS s76 ZT alQ=>?_);have cP:=cF.p8.iY s76 ZS ZT;refine cV ?_;refine WL.s1 cP.p2 fun uX _ cv=>?_;refine WL.nil (EX.np ?_);have cK:=cv.CE (B:=As.blk xb 101 (EA.cells ⟨E1.a1,p1,a76,E1.n1,E1.c1,p2,p3,(E1.n3+1),Ol⟩ D.s bb {s1 with b:={s1.b with ao:=gW s1.b.ao (ek s1.b k tt.value reads)},cy:=s1.cy++[k]})) (rfl);refine jx ?_;refine EX.zR (.inl rfl) rfl<|?_;exact⟨⟨E1.a1,p1,a76,E1.n1,E1.c1,p2,p3,(E1.n3+1),Ol⟩,_,rfl,ot,(As.gr cK.g9),(As.gr cK.g3),cK.p1.p8.LU.p3.k4⟩
  rw [if_neg (by rw [fy];simp)] at dP;obtain⟨t,R9,r9⟩:=Option.bind_eq_some_iff.1 dP;have IK:=afB fy;have JJ:=(dr hR OT).1 _ _ _ R9 rp IK.2;refine(kF) av bV.b0<|?_
  have hrt:t.cy.length≤1000000:=by
   split at r9
   ·
    have:=((dr hR OT).2.2 _ _ _ _ _ r9 JJ.1 (by simpa using IK.1) (by simp [hlen]) (fun a ha=>by rcases List.mem_append.1 ha with ha | ha;exact hrk a ha;simp at ha;subst ha;exact IK.2)).2.cy
    omega
   have:=((dr hR OT).2.2 _ _ _ _ _ r9 JJ.1 Oj hlen hrk).2.cy
   omega
  have aL:=bV.p5.p5.p9.p6;refine(cW) YR (j8 OT (by omega) _ _ _ _ _ _ _ aL.e4 (As.gr aL.g7) (As.gr aL.g8) rp IK.2 R9 hrt) ?_;rintro _ w5 ⟨E2,Z5,rfl,wa,Uy,hr5,ic⟩;have aQ:=St.lv aL ic wa;have ot:=hZ.trans wa aL.size;have aV:=aQ.fr (Uy);have bD:=aV.fr (hr5);have bp:=bD.p9.drop;have ba:=bp.p9.drop;refine(bO) Eu ba.b2<|(br) (fun Rh=>?_) fun Rh=>?_
  ·
   simp at Rh
   rw [if_pos Rh] at r9;have aX:=ba.p7;have UA:=aX.dc;have afC:=aX.mx;have afD:=aX.size;refine WC.SP (m:=16) [5] (fun j w w'=>match j with | 4=>je (fun x=>x∈aO o9) w w' | _=>je (fun _=>False) w w') (E:=dx [(3,PS w5.heap.size 58 1 tt.ask.cells),(4,fun v w'=>∃a c,v=.slice a (n5+1) c∧(∀x∈aO a,x∈aO o9∨w5.heap.size≤x)∧Ow RR.key 58 2 Z5 w' a (n5+1) c (reads++[tt.ask]))]) aX (pq (⟨⟨trivial,⟨fun _ _ _ _ _ c h=>PS.st (fun x hx=>UA x ⟨_,.head _,hx⟩) c h,trivial⟩⟩,⟨⟨trivial,⟨trivial,trivial⟩⟩,trivial⟩⟩)) mixed (by kernel_rfl) rfl ?_;refine(CS) av St.g7<|?_;refine DW.e rfl rfl rfl rfl rfl (fun wx hC hF=>OX.bB (us:=tt.ask.cells) fS rfl rfl rfl rfl fun b wy nw hb=>⟨⟨Nat.le_trans hC.1 nw.ext.size,hC.2.step nw.ext⟩,nw.ext.p0,_,rfl,_,rfl,Nat.le_trans hC.1 nw.ge,hb⟩)<|?_;rintro _ wz _ ⟨b91,rfl,_,_⟩
   refine DW.e rfl rfl rfl rfl rfl (fun wx hC hF=>by
    obtain⟨⟨b',dO,eZ,dB⟩,_⟩:=hF;simp only [Value.slice.injEq,Option.some.injEq,Addr.mk.injEq,and_true,true_and] at dO;subst dO;exact OX.ai1 tn rfl rfl rfl (As.gs hC.2.g0) (fun x hx=>hC.2.pO _ M0 x hx) (SR.eP (A:=fun _=>True) (x:=tt.ask) dB trivial rfl (by simp [Key.cells,Value.oneCell']) rfl) (by omega) (by omega) fun a' c' wy h1 h2 h3 h4=>⟨⟨Nat.le_trans hC.1 h3.size,hC.2.same M0 h3.p h2⟩,h3.p,_,rfl,a',c',rfl,(fun x hx=>by rcases h4 x hx with h | h;exact .inl h;exact .inr (Nat.le_trans hC.1 h)),h1⟩) ?_
   rintro _ wz _ ⟨a4,c4,rfl,_,_⟩;refine dC ?_;refine DP .r (fun _ hC=>PV.pT Qo (cI.range (As.gb hC.2.g3)) rfl rfl)<|(CS) aM St.g3<|(CS) av St.g7<|(eu)<|?_;rintro w6 ⟨IU,bN⟩ ⟨hF4,⟨hF3,_⟩⟩;obtain⟨_,_,he4,afE,ho4⟩:=hF4;simp only [Value.slice.injEq,true_and] at he4;obtain⟨rfl,rfl⟩:=he4;have bR:=bN;have bE:=bR.swap (B:=As.os RR.key 58 2 a4 (n5+1) c4 (reads++[tt.ask])) ho4 afE UA afC afD;refine(cW) VT (vZ (k:=tt.ask) hR IK.2 (bE.one (.tail _ (.tail _ (.tail _ (.tail _ (.head _)))))) (As.gr bE.g2) (As.gr bE.g1)) ?_;rintro _ w7 ⟨rfl,kI⟩;have bZ:=bE.D0 M4 kI;refine WL.go rfl (OX.bB (us:=[.string (eM (valOf ab x.ah) t.b tt.ask)]) qq rfl rfl rfl rfl fun as9 w8 afF afG=>?_);have cG:=bZ.fb afF afG;refine WL.ap rfl rfl cG.p9 (SR.eP (A:=fun _=>True) (x:=eM (valOf ab x.ah) t.b tt.ask) (As.gb cG.g0) trivial rfl (by simp [Value.oneCell']) rfl) fun alR afH w9 apo apq cF=>?_;refine cV ?_;refine WL.nil (EX.np ?_);refine nx ?_;refine fx (OT,t,E2,reads++[tt.ask],ak++[eM (valOf ab x.ah) t.b tt.ask],Z5,a4,(n5+1),c4,alR,(F3+1),afH) ⟨cF.p1.drop.p8.drop.p8.p3.p4.p8.p8.p7.p6.p7,⟨r9,JJ.1,by omega,ot,by simpa using IK.1,by simp [hlen],(fun a ha=>by rcases List.mem_append.1 ha with ha | ha;exact hrk a ha;simp at ha;subst ha;exact IK.2),(fun y hy=>by rcases afE y hy with h | h;exact k8 y h;omega),trivial⟩⟩
  simp at Rh
  rw [if_neg Rh] at r9;refine cV ?_;refine fx (OT,t,E2,reads,ak,Z5,o9,n5,sy,IP,F3,IQ) ⟨ba.p6.drop.p8.p1.p2.p6.p6.p5.p8.p8,⟨r9,JJ.1,by omega,ot,Oj,hlen,hrk,k8,trivial⟩⟩
 simp at g13
 rw [if_pos g13] at dP;simp only [Option.some.injEq] at dP;subst dP;refine dC ?_;refine EX.zR (.inr rfl) rfl<|?_;exact⟨E1,_,rfl,hZ,(As.gr bj.g5),(As.gr bj.g6),bj.p4.p4.p8.p5.k4⟩
set_option maxHeartbeats 1600000 in
theorem Ri{s:ES}{f:Nat}(hR:ay ab) (bF:St w M Z w [As.blk xb 101 (E.cells D.s bb s),As.mD prog 144 ab x D,As.map Key.val bb s.busy,As.os RR.key 58 2 E.a3 E.n3 E.c3 s.cy]) (hi:Rd RR.aH 4 Z w E.a1 E.n1 E.c1 s.b.ah) (hr:Rd RR.ff 8 Z w E.a2 E.n2 E.c2 s.b.ao) (uy:Good ab x.ah s) (zI:s.b.ah.length≤1000000) (hk:gH ab k) (j8:∀g,g<f→UpC ab x D xb bb g) (dP:oB ab (valOf ab x.ah) (f+1) s k=some s') (rq:s'.cy.length≤1000000):Calls prog 43 #[.pointer (some ⟨xb,0,none⟩),k.val] w fun e w'=>∃(E':EA) (Z':Nat→Prop),e=.returned (.tuple #[])∧cQ w.heap.size Z Z'∧Rd RR.aH 4 Z' w' E'.a1 E'.n1 E'.c1 s'.b.ah∧Rd RR.ff 8 Z' w' E'.a2 E'.n2 E'.c2 s'.b.ao∧St w M Z' w' [As.blk xb 101 (E'.cells D.s bb s'),As.mD prog 144 ab x D,As.map Key.val bb s'.busy,As.os RR.key 58 2 E'.a3 E'.n3 E'.c3 s'.cy]:=by
 unfold oB at dP
 have hbk:(cq s.busy k).getD (.bool false)=.bool (s.on k):=by unfold ES.on;rcases uy.busy k with h | h <;> rw [h] <;> rfl
 refine enter func43 rfl ntmps43 rfl<|?_;have aW:=bF;have st1:=aW.fr hi;have st2:=st1.fr hr;refine(ef) st2 fun b3 w1 gO dB aP=>?_;refine dC ?_;refine WC.fF (t:=14) (v:=.bool (decide (s.e≠0) || aB k)) aP ?_<|?_
 ·
  refine(bO) Eu aP.b3<|(dW) (fun g11=>?_) (fun g11=>?_)
  ·
   exact(dq) (by simp only [g11];first | rfl | simp) (aP)
  refine(bA) av aP.b0<|(gg) (fM (k:=k)) aP fun w2 s2 aU=>?_;exact(dq) (by simp only [g11];first | rfl | simp) (aU)
 intro w2 aU;refine(br) (fun g14=>?_) fun g14=>?_
 ·
  rw [if_pos (by simpa using g14)] at dP;simp only [Option.some.injEq] at dP;subst dP;refine cV ?_;refine EX.zR (.inl rfl) rfl<|?_;exact⟨E,Z,rfl,cQ.refl _ _,(As.gr aU.g2),(As.gr aU.g1),aU.p6.p6.p6.p6.k4⟩
 have rG:aB k=false:=by simp at g14;exact g14.2
 rw [if_neg (by simpa using g14)] at dP;refine dC ?_;have QX:=aU.dc;have alS:=aU.mx;have alT:=aU.size;refine WC.uj (m:=11) [9] (E:=dx [(6,fun v _=>∃f1 f2 f3,v=.tuple #[.agg ((aG s.b.ao k).row f1 f2 f3).toArray,.bool (aD s.b.ao k).isSome]),(10,PB w2.heap.size 60 [.int .i64 0,.string ⟨#[]⟩,.string ⟨#[]⟩,.slice none 0 0,.int .i64 0,.int .i64 0,.int .i64 0,.bool false])]) aU (bS (⟨fun _ _ _ _ _ _ _ h=>h,⟨fun _ _ _ _ _ _ c h=>PB.st QX c h,trivial⟩⟩)) mixed (by kernel_rfl) rfl ?_;refine dC ?_;refine DP .r (fun _ hC=>PV.ld1 (j:=3) eN (cI.range (As.gb hC.2.g3)) rfl rfl)<|(ju) av St.g0<|?_;refine DW.e rfl rfl rfl rfl rfl (fun wx hC hF=>OX.call vR rfl rfl ((fI (k:=k) (As.gr hC.2.g1)).mono ?_))<|?_
 ·
  rintro _ wy ⟨f1,f2,f3,rfl,hy⟩;exact⟨_,rfl,⟨Nat.le_trans hC.1 hy.size,hC.2.step hy⟩,hy.p0,_,rfl,⟨f1,f2,f3,rfl⟩⟩
 rintro _ wz _ ⟨f1,f2,f3,rfl⟩;refine dy ?_;refine DW.e rfl rfl rfl rfl rfl (fun wx hC hF=>OX.alloc uG rfl fun b wy nw hb=>⟨⟨Nat.le_trans hC.1 nw.ext.size,hC.2.step nw.ext⟩,nw.ext.p0,_,rfl,_,rfl,Nat.le_trans hC.1 nw.ge,hb⟩)<|?_;rintro _ wz _ ⟨b4,rfl,_,_⟩;refine(eu) ?_;rintro w3 ⟨pK,aY⟩ ⟨B1,⟨_,_⟩⟩;have bj:=aY.y5 B1 QX alS alT;refine(dA) gJ bj fun w4 jv jC bP=>?_;refine nx ?_;refine WL.nil (EX.np ?_);refine cV ?_;refine WC.fF (t:=35) (v:=.bool (aK s.b k)) bP ?_<|?_
 ·
  have Iy:=bP.dc;refine WC.dS (m:=9) bP mixed<|(tm) (fun kX=>?_) (fun kX=>?_)
  ·
   refine(lX) aZ St.g0<|dC ?_;refine DP .r (fun _ hC=>PV.ld1 (j:=1) aZ (cI.range (As.gb hC.2.g4)) rfl rfl)<|(eu)<|?_;rintro w5 ⟨eQ,bQ⟩ _;exact(dq) (by unfold aK;simp only [kX];first | rfl | simp) (bQ)
  refine(eu) ?_;rintro w5 ⟨eQ,bQ⟩ _;exact(dq) (by unfold aK;simp only [kX];first | rfl | simp) (bQ)
 intro w5 bQ;refine(br) (fun Oa=>?_) fun Oa=>?_
 ·
  rw [if_pos Oa] at dP;simp only [Option.some.injEq] at dP;subst dP;refine cV ?_;refine EX.zR (.inl rfl) rfl<|?_;exact⟨E,Z,rfl,cQ.refl _ _,(As.gr bQ.g3),(As.gr bQ.g2),bQ.p7.p7.p7.p7.k4⟩
 rw [if_neg (by rw [Oa];simp)] at dP;refine dC ?_;have Wf:=bQ.dc;refine WC.dS (m:=5) bQ mixed<|(lX) yD St.g4<|(ju) av St.g1<|(eu)<|?_;rintro w6 ⟨lB,bV⟩ _;refine WP .r (PV.mJ eD kB FJ (As.gm bV.g6) (hbk) rfl rfl)<|(br) (fun BC=>?_) fun BC=>?_
 ·
  rw [if_pos BC] at dP;refine(bA) av bV.b1<|(gg) (eA (k:=k)) bV fun w7 s7 aL=>?_;refine(br) (fun g44=>?_) fun g44=>?_
  ·
   simp at g44
   rw [if_neg (by rw [g44];simp)] at dP;simp only [Option.some.injEq] at dP;subst dP;refine dC ?_;refine WL.s1 aL.p4 fun w8 _ aQ=>?_;refine nx ?_;have aV:=aQ.CE (B:=As.blk xb 101 (EA.cells E D.s bb {s with e:=43})) (rfl);refine dy ?_;refine EX.zR (.inl rfl) rfl<|?_;exact⟨E,Z,rfl,cQ.refl _ _,(As.gr aV.g4),(As.gr aV.g3),aV.p7.p7.p7.p3.k4⟩
  simp at g44
  rw [if_pos g44] at dP;simp only [Option.some.injEq] at dP;subst dP;refine dC ?_;refine EX.zR (.inl rfl) rfl<|?_;exact⟨E,Z,rfl,cQ.refl _ _,(As.gr aL.g3),(As.gr aL.g2),aL.p7.p7.p7.p7.k4⟩
 rw [if_neg (by rw [BC];simp)] at dP;refine dy ?_;have hN7:=bV.dc;refine WC.dS (m:=5) bV mixed<|(lX) yD St.g4<|(ju) av St.g1<|(eu)<|?_;rintro w7 ⟨ZU,aL⟩ _;refine WL.go rfl (OX.put eD kB (As.gm aL.g6) rfl rfl rfl fun w8 FX BZ=>?_);have aQ:=aL.p6.mS FX BZ;refine nx ?_;obtain⟨⟨s2,r2⟩,hp,dP⟩:=Option.bind_eq_some_iff.1 dP;obtain⟨s3,xt,dP⟩:=Option.bind_eq_some_iff.1 dP;simp only [Option.some.injEq] at dP;subst dP;have GU:=(dr hR f).2.1 _ _ _ _ _ hp (uy.on k);have OJ:=hk.j7 rG;have Rj:s3.cy.length≤1000000:=rq
 have afJ:s2.cy.length≤1000000:=by
  split at xt
  ·
   have:=((dr hR f).2.2 _ _ _ _ _ xt GU.1 OJ rfl (fun a ha=>by cases ha)).2.cy
   exact Nat.le_trans this Rj
  simp only [Option.some.injEq] at xt;subst xt;exact Rj
 have alU:s2.b.ah.length≤1000000:=by rw [GU.1.aH,← uy.aH];exact zI
 refine(bA) av aQ.b2<|?_;have aV:=aQ.p7.p1.p7.p7;refine(cW) akt (IM (s:={s with busy:=dH s.busy k (.bool true)}) (E:=E) hR aV.e4 (As.gr aV.g7) (As.gr aV.g6) (uy.on k) zI j8 hp afJ) ?_;rintro _ w9 ⟨E2,Z2,rfl,B5,alV,alW,oq⟩;have bD:=St.lv aV oq B5;have kZ:=(cQ.refl w.heap.size Z).trans B5 aV.size;have bp:=bD.fr (alV);have ba:=bp.fr (alW);have aX:=ba.p9.drop;have bN:=aX.p8.drop;refine(br) (fun Bx=>?_) fun Bx=>?_
 ·
  rw [if_pos Bx] at xt;refine(bA) av (cI.range (As.gb bN.g7))<|?_;have bR:=bN.p5.p5.p5.p5;refine(cW) aku (Oi (s:=s2) (E:=E2) hR bR.e4 (As.gr bR.g5) (As.gr bR.g4) GU.1 alU OJ j8 xt Rj) ?_;rintro _ kN ⟨E3,Z3,rfl,sw,alX,alY,iL⟩;have bE:=St.lv bR iL sw;have hZe:=kZ.trans sw bR.size;have bZ:=bE.fr (alX);have cG:=bZ.fr (alY);have cF:=cG.p7.drop;have cP:=cF.p6.drop;refine cV ?_;have C7:=cP.dc;refine WC.dS (m:=5) cP mixed<|(lX) yD St.g2<|(ju) av St.g7<|(eu)<|?_;rintro kO ⟨BX,cv⟩ _;refine WL.go rfl (OX.del eD kB (As.gm cv.g4) rfl rfl fun qW F1 F2=>?_);have cK:=cv.p4.mS F1 F2;refine nx ?_;refine EX.zR (.inr rfl) rfl<|?_;exact⟨_,_,rfl,hZe,(As.gr cK.g2),(As.gr cK.g1),cK.p5.p1.p5.p5.k4⟩
 rw [if_neg (by rw [Bx];simp)] at xt;simp only [Option.some.injEq] at xt;subst xt;have hZe:=kZ;refine cV ?_;have C7:=bN.dc;refine WC.dS (m:=5) bN mixed<|(lX) yD St.g2<|(ju) av St.g7<|(eu)<|?_;rintro kN ⟨BX,bR⟩ _;refine WL.go rfl (OX.del eD kB (As.gm bR.g4) rfl rfl fun kO ZW ZX=>?_);have bE:=bR.p4.mS ZW ZX;refine nx ?_;refine EX.zR (.inr rfl) rfl<|?_;exact⟨_,_,rfl,hZe,(As.gr bE.g2),(As.gr bE.g1),bE.p5.p1.p5.p5.k4⟩
theorem ZY(hR:ay ab) (zI:x.ah.length≤1000000):∀f,UpC ab x D xb bb f:=by
 intro f
 induction f using Nat.strongRecOn with
 | _ f ih=>
  intro w M Z s E k s' bF hi hr uy hk dP rq
  cases f with
  | zero=>simp [oB] at dP
  | succ f=>exact Ri hR bF hi hr uy (by rw [uy.aH];exact zI) hk (fun g hg=>ih g (by omega)) dP rq
theorem IV(hs:s.size≤1000) (w:World):Calls prog 188 #[.string s] w fun e w'=>∃(v:Int) (ok:Bool) (ev:Value),e=.returned (.tuple #[.int .i64 v,ev])∧(-9223372036854775808≤v∧v≤9223372036854775807)∧((ok=true∧ev=.nilIface)∨(ok=false∧∃t y,ev=.iface t y))∧(ok=false→ev=.iface 272 (.int .i64 2)∨ev=.iface 272 (.int .i64 1))∧bm [] w w':=by
 refine(Any.internal_strconv_Atoi_all {laysC172 with} s (by omega) w).mono fun e w' ⟨he,hw⟩=>?_
 have hc:bm [] w w':=by
  rcases hw with rfl | ⟨t,rfl⟩
  ·
   exact bm.refl _ _
  exact Ew _ _ _
 cases h:Lib.atoiAll s.data.toList
 ·
  rename_i v
  rw [h] at he;exact⟨v,true,.nilIface,he,Lib.atoiAll_bounds h,.inl ⟨rfl,rfl⟩,(fun e=>by cases e),hc⟩
 ·
  rw [h] at he;exact⟨0,false,_,he,by decide,.inr ⟨rfl,_,_,rfl⟩,fun _=>.inl rfl,hc⟩
 rw [h] at he;exact⟨Lib.atoiSat s.data.toList,false,_,he,Lib.atoiSat_bounds _,.inr ⟨rfl,_,_,rfl⟩,fun _=>.inr rfl,hc⟩
set_option maxHeartbeats 400000
theorem B7 :CR prog 170 #[.int .i64 n] w (.bool (decide (30≤n) && decide (n≤32))):=by
 refine enter func170 rfl ntmps170 rfl<|?_;have aW:=St.s0 w;refine jx ?_;refine WC.mC (t:=2) (v:=.bool (decide (30≤n) && decide (n≤32))) aW ?_<|?_
 ·
  refine(dW) (fun g5=>?_) (fun g5=>?_)
  ·
   exact(iu) (by simp only [g5];first | rfl | simp) (aW)
  exact(iu) (by simp only [g5];first | rfl | simp) (aW)
 intro w1 st1;refine(cj) ?_;exact⟨rfl,(St.cg st1)⟩
theorem IW :CR prog 150 #[.int .i64 n] w (.bool (decide (1≤n) && decide (n≤22))):=by
 refine enter func150 rfl ntmps150 rfl<|?_;have aW:=St.s0 w;refine jx ?_;refine WC.mC (t:=2) (v:=.bool (decide (1≤n) && decide (n≤22))) aW ?_<|?_
 ·
  refine(dW) (fun g5=>?_) (fun g5=>?_)
  ·
   exact(iu) (by simp only [g5];first | rfl | simp) (aW)
  exact(iu) (by simp only [g5];first | rfl | simp) (aW)
 intro w1 st1;refine(cj) ?_;exact⟨rfl,(St.cg st1)⟩
theorem dF :CR prog 81 #[k.val] w (.bool (aB k)):=by
 refine enter func81 rfl ntmps81 rfl<|?_;have aW:=St.s0 w;refine(ef) aW fun b1 w1 pR dO st1=>?_;refine dC ?_;refine WC.mC (t:=2) (v:=.bool (aB k)) st1 ?_<|?_
 ·
  refine(bO) aZ st1.b0<|(dW) (fun g6=>?_) (fun g6=>?_)
  ·
   exact(iu) (by unfold aB;simp only [g6];first | rfl | simp) (st1)
  refine(bO) aZ st1.b0<|(dW) (fun g11=>?_) (fun g11=>?_)
  ·
   exact(iu) (by unfold aB;simp only [g6,g11];first | rfl | simp) (st1)
  refine(bO) aZ st1.b0<|?_;exact(iu) (by unfold aB;simp only [g6,g11];first | rfl | simp) (st1)
 intro w2 st2;refine(cj) ?_;exact⟨rfl,(St.cg st2)⟩
theorem sA :CR prog 139 #[k.val] w (.bool (decide (k.kind=31) || decide (k.kind=32))):=by
 refine enter func139 rfl ntmps139 rfl<|?_;have aW:=St.s0 w;refine(ef) aW fun b1 w1 pR dO st1=>?_;refine dC ?_;refine WC.mC (t:=2) (v:=.bool (decide (k.kind=31) || decide (k.kind=32))) st1 ?_<|?_
 ·
  refine(bO) aZ st1.b0<|(dW) (fun g6=>?_) (fun g6=>?_)
  ·
   exact(iu) (by simp only [g6];first | rfl | simp) (st1)
  refine(bO) aZ st1.b0<|?_;exact(iu) (by simp only [g6];first | rfl | simp) (st1)
 intro w2 st2;refine(cj) ?_;exact⟨rfl,(St.cg st2)⟩
theorem l4(hk:gY k):CR prog 108 #[k.val] w (.bool (decide (k.kind=32))):=by
 refine enter func108 rfl ntmps108 rfl<|?_;have aW:=St.s0 w;refine(ef) aW fun b1 w1 pR dO st1=>?_;refine dC ?_;refine WC.mC (t:=2) (v:=.bool (decide (k.kind=32))) st1 ?_<|?_
 ·
  refine(bO) aZ st1.b0<|(dW) (fun g6=>?_) (fun g6=>?_)
  ·
   exact(iu) (by simp only [g6];first | done | rfl | simp) (st1)
  refine(bO) aZ st1.b0<|(cW) aex (IW (n:=k.kind)) ?_;rintro _ w2 ⟨rfl,s2⟩;rw [show(decide (1≤k.kind) && decide (k.kind≤22))=false by(rcases hk with h | h <;> simp <;> omega)];have st2:=st1.step s2;exact(iu) (by simp only [g6];first | done | rfl | simp) (st2)
 intro w2 st2;refine(cj) ?_;exact⟨rfl,(St.cg st2)⟩
theorem pa{n:Nat}(hk:30≤k.kind∧k.kind≤32) (ht:k.text=itoa n) (hn:n≤99):CR prog 141 #[k.val] w (.int .i64 (n:Int)):=by
 obtain⟨kd,tx⟩:=k;simp only at hk ht;subst ht;refine enter func141 rfl ntmps141 rfl<|?_;have aW:=St.s0 w;refine(ef) aW fun b1 w1 pR dO st1=>?_;refine(bO) aZ st1.b0<|(cW) V2 (B7 (n:=kd)) ?_;rintro _ w2 ⟨rfl,s2⟩;rw [show(decide (30≤kd) && decide (kd≤32))=true by(simp;omega)];have st2:=st1.step s2;refine dy ?_;refine WC.gT rfl<|(bO) iq st2.b0<|(gg) (K3 hn w2) st2 fun w3 s3 aP=>?_;refine pQ ?_;refine WC.fF (t:=31) (v:=.bool false) aP ?_<|?_
 ·
  have Wf:=aP.dc;refine WC.eU (m:=15) (E:=dx [(12,fun v _=>v=.string (itoa n))]) aP (bS (⟨fun _ _ _ _ _ _ _ h=>h,trivial⟩)) mixed (by kernel_rfl)<|nx ?_;refine DP .r (fun _ hC=>PV.Xn FD rfl)<|nx ?_;refine DW.gi (t:=17) rfl (fun g17=>?_) (fun g17=>?_)
  ·
   refine(eu) ?_;rintro w4 ⟨lB,aU⟩ _;exact(dq) (tG g17) (aU)
  refine dC ?_;refine DW.gi (t:=21) rfl (fun g21=>?_) (fun g21=>?_)
  ·
   refine(eu) ?_;rintro w4 ⟨lB,aU⟩ _;exact(dq) (tG (aj g17 g21)) (aU)
  refine dC ?_;refine DW.gi (t:=25) rfl (fun fy=>?_) (fun fy=>?_)
  ·
   refine(eu) ?_;rintro w4 ⟨lB,aU⟩ _;exact(dq) (tG (aj g17<|aj g21 fy)) (aU)
  refine nx ?_;refine DW.c0 (fun wx hC hF=>lT (n:=(n:Int)) (by omega) (by omega) wx)<|(lX) iq St.g0<|(eu)<|?_;rintro w4 ⟨lB,aU⟩ ⟨_,_⟩;exact(dq) (tG (aj g17<|aj g21 fy)) (aU)
 intro w4 aU;refine(br) (fun pF=>?_) fun pF=>?_
 ·
  exact absurd pF (by simp)
 ·
  refine(cj) ?_;exact⟨rfl,(St.cg aU)⟩
 -- xO kC C8.T
theorem j6{n:Nat}(hk:30≤k.kind∧k.kind≤32) (ht:k.text=itoa n) (hn:n≤99):CR prog 138 #[k.val] w (.bool true):=by
 refine enter func138 rfl ntmps138 rfl<|?_;have aW:=St.s0 w;refine(ef) aW fun b1 w1 pR dO st1=>?_;refine(bO) aZ st1.b0<|(cW) V2 (B7 (n:=k.kind)) ?_;rintro _ w2 ⟨rfl,s2⟩;rw [show(decide (30≤k.kind) && decide (k.kind≤32))=true by(simp;omega)];have st2:=st1.step s2;refine cV ?_;refine WC.zP rfl<|(bA) av st2.b0<|(gg) (pa (k:=k) hk ht hn) st2 fun w3 s3 aP=>?_;refine(cj) ?_;exact⟨by simp,(St.cg aP)⟩
theorem th{a:Option Addr}{r c:Nat}(hr:iB A w a r c ab):CR prog 140 #[.slice a r c,.int .i64 n] w ((aS ab n).val):=by
 have hle:=hr.le;have hlen:=hr.len;refine enter func140 rfl ntmps140 rfl<|?_;have aW:=St.s0 w;refine(fU) aW fun b4 w1 jE bM st1=>?_;refine dC ?_;refine WC.fF (t:=17) (v:=.bool (decide (n<0) || (decide ((r:Int)≤n) || decide (99<n)))) st1 ?_<|?_
 ·
  refine(dW) (fun g8=>?_) (fun g8=>?_)
  ·
   exact(dq) (by simp only [g8];first | rfl | simp) (st1)
  refine(dW) (fun g14=>?_) (fun g14=>?_)
  ·
   exact(dq) (by simp only [g8,g14];first | rfl | simp) (st1)
  exact(dq) (by simp only [g8,g14];first | rfl | simp) (st1)
 intro w2 st2;refine(br) (fun g17=>?_) fun g17=>?_
 ·
  have hk:aS ab n=fW:=by unfold aS;rw [if_pos (by simp at g17;omega)]
  refine(dA) jT st2 fun w3 jv jC aP=>?_;refine(mU) av aP.b0<|?_;rw [hk];exact⟨rfl,(St.cg aP)⟩
 simp at g17
 obtain⟨i,rfl⟩:∃i:Nat,n=i:=⟨n.toNat,by omega⟩
 have hi:i<ab.length:=by omega
 have hk:aS ab i=⟨if aI ab i then 32 else 31,itoa i⟩:=by unfold aS;rw [if_neg (by omega)];rfl
 have lP:=da hi;refine pQ ?_;obtain⟨UB,UC,UD,mn,_,⟨q1,q2,q3,rfl,_⟩,pc,_⟩:=(hr.ext (St.cg st2)).at (aq hi);refine dy ?_;refine WP .r (PV.fC lS mn rfl rfl (by omega))<|nx ?_;refine WP .r (PV.ld1 (j:=0) fH pc rfl rfl)<|(br) (fun g23=>?_) fun g23=>?_
 ·
  have og:aS ab i=⟨32,itoa i⟩:=by rw [hk,lP,g23];rfl
  refine(gg) (lT (n:=(i:Int)) (by omega) (by omega) w2) st2 fun w3 s3 aP=>?_;refine WP .r (PV.cD (us:=_) Ic rfl rfl rfl)<|(dA) jT aP fun w4 sr nc aU=>?_;refine(mU) av aU.b0<|?_;rw [og];exact⟨rfl,(St.cg aU)⟩
 have og:aS ab i=⟨31,itoa i⟩:=by rw [hk,lP,g23];rfl
 refine(gg) (lT (n:=(i:Int)) (by omega) (by omega) w2) st2 fun w3 s3 aP=>?_;refine WP .r (PV.cD (us:=_) Ic rfl rfl rfl)<|(dA) jT aP fun w4 ED tj aU=>?_;refine(mU) av aU.b0<|?_;rw [og];exact⟨rfl,(St.cg aU)⟩
set_option maxHeartbeats 400000
set_option maxRecDepth 1000000 in
theorem oI(hs:s.size≤1000):CR prog 331 #[.string s] w (.string s):=by
 refine enter func331 rfl ntmps331 rfl<|?_;have aW:=St.s0 w;refine bC ?_;refine(br) (fun g6=>?_) fun g6=>?_
 ·
  refine(cj) ?_;exact⟨by rw [show s=⟨#[]⟩ from ByteArray.ext (Array.eq_empty_of_size_eq_zero (show s.size=0 by have:=of_decide_eq_true g6;omega))],(St.cg aW)⟩
 have h0:s.size≠0:=by have:=of_decide_eq_false g6;omega
 obtain⟨i,hi,hq⟩:=Option.map_eq_some_iff.1 (show(prog.info? 5).map (fun i=>(i.zero,i.size,i.bytes))=some (some (.int .u8 0),1,1) by kernel_rfl);simp only [Prod.mk.injEq] at hq;obtain⟨hz,h1,hb⟩:=hq;obtain⟨u1,u2,u3,k1,k2,k3,hc⟩:=Fb (S:=9) (it:=3) (ty1:=3) (ty2:=9) underlying211 hi hz h1 hb underlying547 h0 hs w;refine jx ?_;refine WL.go rfl (OX.acw rfl rfl rfl k1 ?_);refine gp ?_;refine WL.go rfl (OX.acx rfl rfl rfl k2 ?_);refine ew ?_;refine WP .r (PV.LQ VD 0 (show some (⟨w.heap.size,0,none⟩:Addr)=some ⟨w.heap.size,0,none⟩ from rfl) rfl rfl rfl (by omega))<|cV ?_;refine WL.go rfl (OX.aja rfl rfl rfl k3 ?_);refine(cj) ?_;exact⟨rfl,hc⟩
theorem Da(hs:s.size≤1000) (hv:w.cell? ⟨2,0,none⟩=some .nilIface):Calls prog 234 #[.string f,.string s] w fun e w'=>∃b,e=.returned (.pointer (some ⟨b,0,none⟩))∧bm [] w w':=by
 have hr:w.rangeAt 2 0 [.nilIface]:=fun j v hj=>by
  cases j with
  | zero=>simp at hj;subst hj;exact hv
  | succ j=>simp at hj
 refine enter func234 rfl ntmps234 rfl<|?_;have aW:=St.s0 w;refine jx ?_;have zo:=aW.dc;refine WC.eU (m:=4) (E:=dx [(2,fun v _=>v=.string s)]) aW (bS (⟨fun _ _ _ _ _ _ _ h=>h,trivial⟩)) mixed (by kernel_rfl)<|cV ?_;refine DW.c0 (fun wx hC hF=>oI hs)<|?_;refine DP .r (fun _ hC=>PV.pT FH (bG hr (St.cg hC.2) (by simp)) rfl rfl)<|(eu)<|?_;rintro w1 ⟨fh,st1⟩ ⟨_,_⟩;refine WP .r (PV.cD (us:=[.string f,.string s,.nilIface]) Mz rfl rfl rfl)<|(ef) st1 fun iI w2 lV fN st2=>?_;refine(cj) ?_;exact⟨_,rfl,(St.cg st2)⟩
theorem Db(hs:s.size≤1000) (hv:w.cell? ⟨2,0,none⟩=some (.iface t p)):Calls prog 234 #[.string f,.string s] w fun e w'=>∃b,e=.returned (.pointer (some ⟨b,0,none⟩))∧bm [] w w':=by
 have hr:w.rangeAt 2 0 [(.iface t p)]:=fun j v hj=>by
  cases j with
  | zero=>simp at hj;subst hj;exact hv
  | succ j=>simp at hj
 refine enter func234 rfl ntmps234 rfl<|?_;have aW:=St.s0 w;refine jx ?_;have zo:=aW.dc;refine WC.eU (m:=4) (E:=dx [(2,fun v _=>v=.string s)]) aW (bS (⟨fun _ _ _ _ _ _ _ h=>h,trivial⟩)) mixed (by kernel_rfl)<|cV ?_;refine DW.c0 (fun wx hC hF=>oI hs)<|?_;refine DP .r (fun _ hC=>PV.pT FH (bG hr (St.cg hC.2) (by simp)) rfl rfl)<|(eu)<|?_;rintro w1 ⟨fh,st1⟩ ⟨_,_⟩;refine WP .r (PV.cD (us:=[.string f,.string s,(.iface t p)]) Mz rfl rfl rfl)<|(ef) st1 fun iI w2 lV fN st2=>?_;refine(cj) ?_;exact⟨_,rfl,(St.cg st2)⟩
theorem al0:prog.globalNamed "strconv.ErrSyntax" = some 2:=by kernel_rfl
theorem F4(ht:oj prog A w) (hs:s.size≤1000):Calls prog 234 #[.string f,.string s] w fun e w'=>∃b,e=.returned (.pointer (some ⟨b,0,none⟩))∧bm [] w w':=by
 obtain⟨ev,hv,dP⟩:=ht.err (.inl rfl) al0
 rcases dP with rfl | ⟨t,p,rfl⟩
 ·
  exact Da hs hv
 exact Db hs hv
theorem Dc(hs:s.size≤1000) (hv:w.cell? ⟨3,0,none⟩=some .nilIface):Calls prog 235 #[.string f,.string s] w fun e w'=>∃b,e=.returned (.pointer (some ⟨b,0,none⟩))∧bm [] w w':=by
 have hr:w.rangeAt 3 0 [.nilIface]:=fun j v hj=>by
  cases j with
  | zero=>simp at hj;subst hj;exact hv
  | succ j=>simp at hj
 refine enter func235 rfl ntmps235 rfl<|?_;have aW:=St.s0 w;refine jx ?_;have zo:=aW.dc;refine WC.eU (m:=4) (E:=dx [(2,fun v _=>v=.string s)]) aW (bS (⟨fun _ _ _ _ _ _ _ h=>h,trivial⟩)) mixed (by kernel_rfl)<|cV ?_;refine DW.c0 (fun wx hC hF=>oI hs)<|?_;refine DP .r (fun _ hC=>PV.pT FH (bG hr (St.cg hC.2) (by simp)) rfl rfl)<|(eu)<|?_;rintro w1 ⟨fh,st1⟩ ⟨_,_⟩;refine WP .r (PV.cD (us:=[.string f,.string s,.nilIface]) Mz rfl rfl rfl)<|(ef) st1 fun iI w2 lV fN st2=>?_;refine(cj) ?_;exact⟨_,rfl,(St.cg st2)⟩
theorem Dd(hs:s.size≤1000) (hv:w.cell? ⟨3,0,none⟩=some (.iface t p)):Calls prog 235 #[.string f,.string s] w fun e w'=>∃b,e=.returned (.pointer (some ⟨b,0,none⟩))∧bm [] w w':=by
 have hr:w.rangeAt 3 0 [(.iface t p)]:=fun j v hj=>by
  cases j with
  | zero=>simp at hj;subst hj;exact hv
  | succ j=>simp at hj
 refine enter func235 rfl ntmps235 rfl<|?_;have aW:=St.s0 w;refine jx ?_;have zo:=aW.dc;refine WC.eU (m:=4) (E:=dx [(2,fun v _=>v=.string s)]) aW (bS (⟨fun _ _ _ _ _ _ _ h=>h,trivial⟩)) mixed (by kernel_rfl)<|cV ?_;refine DW.c0 (fun wx hC hF=>oI hs)<|?_;refine DP .r (fun _ hC=>PV.pT FH (bG hr (St.cg hC.2) (by simp)) rfl rfl)<|(eu)<|?_;rintro w1 ⟨fh,st1⟩ ⟨_,_⟩;refine WP .r (PV.cD (us:=[.string f,.string s,(.iface t p)]) Mz rfl rfl rfl)<|(ef) st1 fun iI w2 lV fN st2=>?_;refine(cj) ?_;exact⟨_,rfl,(St.cg st2)⟩
theorem al1:prog.globalNamed "strconv.ErrRange" = some 3:=by kernel_rfl
theorem F5(ht:oj prog A w) (hs:s.size≤1000):Calls prog 235 #[.string f,.string s] w fun e w'=>∃b,e=.returned (.pointer (some ⟨b,0,none⟩))∧bm [] w w':=by
 obtain⟨ev,hv,dP⟩:=ht.err (.inr rfl) al1
 rcases dP with rfl | ⟨t,p,rfl⟩
 ·
  exact Dc hs hv
 exact Dd hs hv
theorem IX(ht:oj prog A w) (hs:s.size≤1000):Calls prog 189 #[.string f,.string s,.int .i64 0,.int .i64 0,.iface 272 (.int .i64 2)] w fun e w'=>∃b,e=.returned (.iface 275 (.pointer (some ⟨b,0,none⟩)))∧bm [] w w':=by
 refine enter func189 rfl ntmps189 rfl<|?_;have aW:=St.s0 w;refine bC ?_;refine cV ?_;refine WP .r (PV.PA underlying272 (by intro ms h;cases h) rfl)<|WP .r (PV.Xq underlying203 (by kernel_rfl) underlying272 rfl rfl)<|(br) (fun g12=>?_) fun g12=>?_
 ·
  refine(cW) ae0 (F4 (ht.ext (St.cg aW)) hs) ?_;rintro _ w1 ⟨b,rfl,s1⟩;have st1:=aW.step s1;refine WP .r (PV.PA underlying275 (by intro ms h;cases h) rfl)<|(cj) ?_;exact⟨_,rfl,(St.cg st1)⟩
 ·
  exact gw g12
 -- xO kC C19 R4.0 R4.1 R5.2 R5.3 X1
theorem IY(ht:oj prog A w) (hs:s.size≤1000):Calls prog 189 #[.string f,.string s,.int .i64 0,.int .i64 0,.iface 272 (.int .i64 1)] w fun e w'=>∃b,e=.returned (.iface 275 (.pointer (some ⟨b,0,none⟩)))∧bm [] w w':=by
 refine enter func189 rfl ntmps189 rfl<|?_;have aW:=St.s0 w;refine bC ?_;refine cV ?_;refine WP .r (PV.PA underlying272 (by intro ms h;cases h) rfl)<|WP .r (PV.Xq underlying203 (by kernel_rfl) underlying272 rfl rfl)<|(br) (fun g12=>?_) fun g12=>?_
 ·
  exact gw g12
 ·
  refine cV ?_;refine WP .r (PV.PA underlying272 (by intro ms h;cases h) rfl)<|WP .r (PV.Xq underlying203 (by kernel_rfl) underlying272 rfl rfl)<|(br) (fun g19=>?_) fun g19=>?_
  ·
   refine(cW) ae1 (F5 (ht.ext (St.cg aW)) hs) ?_;rintro _ w1 ⟨b,rfl,s1⟩;have st1:=aW.step s1;refine WP .r (PV.PA underlying275 (by intro ms h;cases h) rfl)<|(cj) ?_;exact⟨_,rfl,(St.cg st1)⟩
  exact gw g19
 -- xO kC R3.2 R3.3 X1
theorem IZ{ev:Value}(ht:oj prog A w) (hs:s.size≤1000) (he:ev=.iface 272 (.int .i64 2)∨ev=.iface 272 (.int .i64 1)):Calls prog 189 #[.string f,.string s,.int .i64 0,.int .i64 0,ev] w fun e w'=>∃b,e=.returned (.iface 275 (.pointer (some ⟨b,0,none⟩)))∧bm [] w w':=by
 rcases he with rfl | rfl
 ·
  exact IX ht hs
 exact IY ht hs
theorem Rk(ht:oj prog A w) (hs:s.size≤1000):Calls prog 171 #[.string s] w fun e w'=>∃(v:Int) (ok:Bool) (ev:Value),e=.returned (.tuple #[.int .i64 v,ev])∧(-9223372036854775808≤v∧v≤9223372036854775807)∧((ok=true∧ev=.nilIface)∨(ok=false∧∃t y,ev=.iface t y))∧bm [] w w':=by
 refine enter func171 rfl ntmps171 rfl<|?_;have aW:=St.s0 w;refine(cW) aeS (IV hs w) ?_;rintro _ w1 ⟨v,ok,ev,rfl,hv,eL,dP,s1⟩;have st1:=aW.step s1;refine rT ?_;refine WP .r (PV.acv FD rfl eL)<|(br) (fun g12=>?_) fun g12=>?_
 ·
  refine(cW) aeT (IZ (ht.ext (St.cg st1)) hs (dP (by simpa using g12))) ?_;rintro _ w2 ⟨b,rfl,s2⟩;have st2:=st1.step s2;refine(CH) ?_;exact⟨v,false,_,rfl,hv,.inr ⟨rfl,_,_,rfl⟩,(St.cg st2)⟩
 refine(CH) ?_;exact⟨v,true,.nilIface,rfl,hv,.inl ⟨rfl,rfl⟩,(St.cg st1)⟩
end Go.Rc

