/- Walks over the program, part WH. Conditions: as each theorem says. -/
import Derived.Test.YtpoiojafnnaccaaGreatDoorUFacts
import Derived.Test.YtpoiojafnnaccaaGreatDoorUWB
import Derived.Test.YtpoiojafnnaccaaGreatDoorUWD
import Derived.Test.YtpoiojafnnaccaaGreatDoorUWF
import Derived.Test.YtpoiojafnnaccaaGreatDoorUBe
set_option linter.all false
namespace Go.Rc
open Go Go.Proofs Go.Proofs.Tryz
variable {n r c e2 n1 e1 n2 g eg:Nat}{w:World}{k:Key}{ab:List aJ}{A B Z M:Nat→Prop}{a a2 a1 ag:Option Addr}{l:List Rec}{x:dV}
set_option maxHeartbeats 400000
theorem CL{n:Int} :CR prog 314 #[.int .i64 n] w (.string (zl n)):=by
 refine enter func314 rfl ntmps314 rfl<|?_;have c0:bj [] w w:=bj.refl _ _;refine(bp) (fun g4=>?_) fun g4=>?_
 ·
  simp at g4
  refine(cm) ?_;exact⟨by unfold zl;rw [if_pos g4],c0⟩
 simp at g4
 refine(cm) ?_;exact⟨by unfold zl;rw [if_neg g4],c0⟩
theorem vM :CR prog 226 #[k.val] w (.string (ub k)):=by
 refine enter func226 rfl ntmps226 rfl<|?_;have c0:bj [] w w:=bj.refl _ _;refine db ?_;refine WL.go rfl (OX.box rfl rfl rfl fun b1 w1 pK dQ=>?_);have s1:=pK.ext;have uC:=pK.kI c0;have c1:=c0.trans s1;refine gp ?_;refine WP .r (PV.fa fh rfl)<|(bN) aX dQ.range<|(bp) (fun g3=>?_) fun g3=>?_
 ·
  simp at g3
  refine(cm) ?_;exact⟨by unfold ub;rw [if_pos g3],c1⟩
 simp at g3
 refine(bz) av dQ.range<|(df) NH (eB (k:=k)) ?_;rintro _ w2 ⟨rfl,s2⟩;have c2:=c1.trans s2;have dQ:=dQ.ext s2;refine(bp) (fun g7=>?_) fun g7=>?_
 ·
  refine db ?_;refine WP .r (PV.fa fh rfl)<|(bN) aX dQ.range<|(df) aeM (CL (n:=k.kind)) ?_;rintro _ w3 ⟨rfl,s3⟩;have c3:=c2.trans s3;have dQ:=dQ.ext s3;refine(cm) ?_;exact⟨by unfold ub;rw [if_neg g3,if_pos g7],c3⟩
 refine(cm) ?_;exact⟨by unfold ub;rw [if_neg g3,if_neg (by simp [g7])],c2⟩
theorem Ie(hr:iW A w a r c ab):CR prog 72 #[.slice a r c,k.val] w (.bool (jP ab k)):=by
 refine enter func72 rfl ntmps72 rfl<|?_;have c0:bj [] w w:=bj.refl _ _;refine db ?_;refine WL.go rfl (OX.box rfl rfl rfl fun b3 w1 ic dA=>?_);have s1:=ic.ext;have r5:=ic.kI c0;have c1:=c0.trans s1;refine dF ?_;refine WC.o8 (t:=4) (v:=.bool (jP ab k)) (bj [] w1) ?_<|?_
 ·
  refine WC.drawn (m:=17) (C:=bj [] w1) (T:=fun _=>bj []) (E:=dy [(1,fun v _=>v=.bool (ik k)),(14,fun v _=>v=.int .i64 (number k)),(15,fun v _=>v=(aQ ab (number k)).val)]) (bT (⟨fun _ _ _ _ _ _ _ h=>h,⟨fun _ _ _ _ _ _ _ h=>h,⟨fun _ _ _ _ _ _ _ h=>h,trivial⟩⟩⟩)) mixed (by kernel_rfl) (bj.drew _ _)<|?_;refine DP .r (fun _ hC=>PV.MC av (dA.ext hC).range rfl rfl)<|?_;refine DW.e rfl rfl rfl rfl rfl (fun wx hC hF=>OX.call Qg rfl rfl ((kY (k:=k)).mono ?_))<|?_
  ·
   rintro _ wy ⟨rfl,hy⟩;exact⟨_,rfl,hC.trans hy,hy,_,rfl,rfl⟩
  rintro _ wz _ rfl;refine(tf) (fun g7=>?_) (fun g7=>?_)
  ·
   refine DP .r (fun _ hC=>PV.fa fh rfl)<|DP .r (fun _ hC=>PV.ld1 aX (dA.ext hC).range rfl rfl)<|(tf) (fun g11=>?_) (fun g11=>?_)
   ·
    refine DP .r (fun _ hC=>PV.fa fh rfl)<|DP .r (fun _ hC=>PV.ld1 aX (dA.ext hC).range rfl rfl)<|(tf) (fun g16=>?_) (fun g16=>?_)
    ·
     refine(ey) ?_;rintro w2 s2 _;have c2:=c1.trans s2;have dA:=dA.ext s2;exact(iw) (by unfold jP;simp only [g7,g11,g16];first | rfl | simp) s2
    refine nx ?_;refine DP .r (fun _ hC=>PV.MC av (dA.ext hC).range rfl rfl)<|?_;refine DW.e rfl rfl rfl rfl rfl (fun wx hC hF=>OX.call TT rfl rfl ((mN (k:=k)).mono ?_))<|?_
    ·
     rintro _ wy ⟨rfl,hy⟩;exact⟨_,rfl,hC.trans hy,hy,_,rfl,rfl⟩
    rintro _ wz _ rfl;refine DW.e rfl rfl rfl rfl rfl (fun wx hC hF=>OX.call NF rfl rfl ((l8 (n:=number k) (hr.ext (c1.trans hC))).mono ?_))<|?_
    ·
     rintro _ wy ⟨rfl,hy⟩;exact⟨_,rfl,hC.trans hy,hy,_,rfl,rfl⟩
    rintro _ wz _ rfl;refine DP .r (fun _ hC=>PV.MC av (dA.ext hC).range rfl rfl)<|(ey)<|?_;rintro w2 s2 _;have c2:=c1.trans s2;have dA:=dA.ext s2;refine WP .r (PV.G3 gB (p:=aQ ab (number k)) (q:=k) rfl rfl)<|?_;exact(iw) (by unfold jP;simp only [g7,g11,g16];first | rfl | simp) s2
   refine jo ?_;refine DP .r (fun _ hC=>PV.MC av (dA.ext hC).range rfl rfl)<|?_;refine DW.e rfl rfl rfl rfl rfl (fun wx hC hF=>OX.call TT rfl rfl ((mN (k:=k)).mono ?_))<|?_
   ·
    rintro _ wy ⟨rfl,hy⟩;exact⟨_,rfl,hC.trans hy,hy,_,rfl,rfl⟩
   rintro _ wz _ rfl;refine DW.e rfl rfl rfl rfl rfl (fun wx hC hF=>OX.call NF rfl rfl ((l8 (n:=number k) (hr.ext (c1.trans hC))).mono ?_))<|?_
   ·
    rintro _ wy ⟨rfl,hy⟩;exact⟨_,rfl,hC.trans hy,hy,_,rfl,rfl⟩
   rintro _ wz _ rfl;refine DP .r (fun _ hC=>PV.MC av (dA.ext hC).range rfl rfl)<|(ey)<|?_;rintro w2 s2 _;have c2:=c1.trans s2;have dA:=dA.ext s2;refine WP .r (PV.G3 gB (p:=aQ ab (number k)) (q:=k) rfl rfl)<|?_;exact(iw) (by unfold jP;simp only [g7,g11];first | rfl | simp) s2
  refine bC ?_;refine(ey) ?_;rintro w2 s2 _;have c2:=c1.trans s2;have dA:=dA.ext s2;exact(iw) (by unfold jP;simp only [g7];first | rfl | simp) s2
 intro w2 s2;have c2:=c1.trans s2;have dA:=dA.ext s2;refine(cm) ?_;exact⟨rfl,c2⟩
theorem ie{ao:List ByteArray}{C:Nat→Prop}{r2:Nat}(ht:oy prog A w) (hr:iW B w a r c ab) (hl:Strs C w a2 r2 e2 ao) (hb:∀x∈ab,0≤x.c∧x.c≤65535∧x.asks.length≤1000) (hk:gY k):CR prog 116 #[.slice a r c,k.val,.slice a2 r2 e2] w ((aZ ab k ao).val):=by
 refine enter func116 rfl ntmps116 rfl<|?_;have c0:bj [] w w:=bj.refl _ _;refine db ?_;refine WL.go rfl (OX.box rfl rfl rfl fun b4 w1 jS bL=>?_);have s1:=jS.ext;have iR:=jS.kI c0;have c1:=c0.trans s1;refine WL.go rfl (OX.alloc vI rfl fun b6 w2 mV eM=>?_);have s2:=mV.ext;have gO:=mV.kI c1;have eu:b4≠b6:=mV.ne bL.lt;have qp:b6≠b4:=Ne.symm eu;have c2:=c1.trans s2;have bL:=bL.ext s2;refine eA ?_;refine WC.nb (t:=7) (v:=.bool (decide (k.kind=31) || decide (k.kind=32))) (fun wx=>w2=wx) ?_ ?_
 ·
  refine nx ?_;refine WP .r (PV.fa fh rfl)<|(bN) aX bL.range<|(dT) (fun g11=>?_) (fun g11=>?_)
  ·
   exact(dx) (by simp only [g11];first | rfl | simp) rfl
  refine WP .r (PV.fa fh rfl)<|(bN) aX bL.range<|?_;exact(dx) (by simp only [g11];first | rfl | simp) rfl
 rintro _ rfl;refine(bp) (fun g7=>?_) fun g7=>?_
 ·
  simp at g7
  have hv:aZ ab k ao=dP ab k ao:=by unfold aZ;rw [if_pos g7]
  refine(bz) av bL.range<|(df) aej (KF (k:=k) (ht.ext c2) (hr.ext c2) (hl.ext c2) hb) ?_;rintro _ w3 ⟨rfl,s3⟩;have c3:=c2.trans s3;have bL:=bL.ext s3;have eM:=eM.ext s3;refine WL.go rfl (OX.qx jk eM rfl rfl rfl rfl rfl fun w4 s4 _ eM=>?_);have c4:=c3.own s4 gO;have bL:=bL.cX s4 (by simp [eu]);refine(mI) kW eM.range<|?_;rw [hv];exact⟨rfl,c4⟩
 simp at g7
 have hv:aZ ab k ao=⟨true,⟨#[]⟩,fW⟩:=by unfold aZ;rw [if_neg (by omega)]
 refine nx ?_;refine WC.nb (t:=20) (v:=.bool (aB k || (decide (k.kind<1) || decide (22<k.kind)))) (bj [] w2) ?_<|?_
 ·
  refine(bz) av bL.range<|(df) NG (fM (k:=k)) ?_;rintro _ w3 ⟨rfl,s3⟩;have c3:=c2.trans s3;have bL:=bL.ext s3;have eM:=eM.ext s3;refine(dT) (fun g23=>?_) (fun g23=>?_)
  ·
   exact(dx) (by simp only [g23];first | rfl | simp) s3
  refine WP .r (PV.fa fh rfl)<|(bN) aX bL.range<|(dT) (fun iU=>?_) (fun iU=>?_)
  ·
   exact(dx) (by simp only [g23,iU];first | rfl | simp) s3
  refine WP .r (PV.fa fh rfl)<|(bN) aX bL.range<|?_;exact(dx) (by simp only [g23,iU];first | rfl | simp) s3
 intro w3 s3;have c3:=c2.trans s3;have bL:=bL.ext s3;have eM:=eM.ext s3;refine(bp) (fun g20=>?_) fun g20=>?_
 ·
  skip
  refine db ?_;refine WP .r (PV.cD (us:=[.bool true,.string ⟨#[]⟩,.int .i64 0,.string ⟨#[]⟩]) qK rfl rfl rfl)<|?_;refine WL.go rfl (OX.qx jk eM rfl rfl rfl rfl rfl fun w4 s4 _ eM=>?_);have c4:=c3.own s4 gO;have bL:=bL.cX s4 (by simp [eu]);refine(mI) kW eM.range<|?_;rw [hv];exact⟨rfl,c4⟩
 exfalso;simp at g20;rcases hk with h | h <;> omega
theorem Bt{rev:Int}(hl:Rd RR.fl 8 Z w a n c l):CR prog 153 #[.slice a n c,.int .i64 rev,k.val] w (.bool (cY l rev k)):=by
 refine enter func153 rfl ntmps153 rfl<|?_;have c0:bj [] w w:=bj.refl _ _;refine db ?_;refine WL.go rfl (OX.box rfl rfl rfl fun b5 w1 nH gI=>?_);have s1:=nH.ext;have uD:=nH.kI c0;have c1:=c0.trans s1;refine(bz) av gI.range<|(df) uA (fH (k:=k) (hl.ext c1)) ?_;rintro _ w2 ⟨f1,f2,f3,rfl,s2⟩;have c2:=c1.trans s2;have gI:=gI.ext s2;refine dw ?_;refine WL.go rfl (OX.alloc uv rfl fun b7 w3 tJ nT=>?_);have s3:=tJ.ext;have FB:=tJ.kI c2;have nN:b5≠b7:=tJ.ne gI.lt;have KO:b7≠b5:=Ne.symm nN;have c3:=c2.trans s3;have gI:=gI.ext s3;refine WL.go rfl (OX.qx gC nT rfl rfl rfl rfl rfl fun w4 s4 _ nT=>?_);have c4:=c3.own s4 FB;have gI:=gI.cX s4 (by simp [nN]);refine dF ?_;refine WC.o8 (t:=6) (v:=.bool (cY l rev k)) (bj [] w4) ?_<|?_
 ·
  refine(dT) (fun g16=>?_) (fun g16=>?_)
  ·
   refine(bz) av gI.range<|(df) NH (eB (k:=k)) ?_;rintro _ w5 ⟨rfl,s5⟩;have c5:=c4.trans s5;have gI:=gI.ext s5;have nT:=nT.ext s5;refine(dT) (fun g20=>?_) (fun g20=>?_)
   ·
    refine WP .r (PV.fa uy rfl)<|(bN) aX nT.range<|(dT) (fun kX=>?_) (fun kX=>?_)
    ·
     refine WP .r (PV.fa Kz rfl)<|(bN) fG nT.range<|?_;exact(iw) (by unfold cY;simp only [g16,g20,kX];first | rfl | simp) s5
    exact(iw) (by unfold cY;simp only [g16,g20,kX];first | rfl | simp) s5
   exact(iw) (by unfold cY;simp only [g16,g20];first | rfl | simp) s5
  refine bC ?_;exact(iw) (by unfold cY;simp only [g16];first | rfl | simp) (bj.refl _ _)
 intro w5 s5;have c5:=c4.trans s5;have gI:=gI.ext s5;have nT:=nT.ext s5;refine(cm) ?_;exact⟨rfl,c5⟩
theorem KP(hi:Rd RR.aH 4 Z w a1 n1 e1 x.ah) (hr:Rd RR.fl 8 Z w a2 n2 e2 x.ak) {k:Key}:CR prog 158 #[.agg (x.row a1 n1 e1 a2 n2 e2).toArray,k.val] w (.tuple #[.string (zZ x k),.bool (rF x k)]):=by
 refine enter func158 rfl ntmps158 rfl<|?_;have c0:bj [] w w:=bj.refl _ _;refine db ?_;refine WL.go rfl (OX.box rfl rfl rfl fun b2 w1 lB eZ=>?_);have s1:=lB.ext;have rZ:=lB.kI c0;have c1:=c0.trans s1;refine WL.go rfl (OX.box rfl rfl rfl fun b3 w2 ic dA=>?_);have s2:=ic.ext;have r5:=ic.kI c1;have iS:b2≠b3:=ic.ne eZ.lt;have qo:b3≠b2:=Ne.symm iS;have c2:=c1.trans s2;have eZ:=eZ.ext s2;refine(bz) av dA.range<|(df) NG (fM (k:=k)) ?_;rintro _ w3 ⟨rfl,s3⟩;have c3:=c2.trans s3;have eZ:=eZ.ext s3;have dA:=dA.ext s3;refine(bp) (fun g9=>?_) fun g9=>?_
 ·
  refine(bz) aN eZ.range<|(bz) av dA.range<|(df) adB (xB (k:=k) (hi.ext c3) (hr.ext c3)) ?_;rintro _ w4 ⟨rfl,s4⟩;have c4:=c3.trans s4;have eZ:=eZ.ext s4;have dA:=dA.ext s4;refine(GH) ?_;exact⟨by unfold zZ rF;rw [if_pos g9,g9];rfl,c4⟩
 refine eA ?_;refine WP .r (PV.fa xp rfl)<|(bN) ez eZ.range<|(bz) av dA.range<|(df) uA (fH (k:=k) (hr.ext c3)) ?_;rintro _ w4 ⟨f1,f2,f3,rfl,s4⟩;have c4:=c3.trans s4;have eZ:=eZ.ext s4;have dA:=dA.ext s4;refine dw ?_;refine WL.go rfl (OX.alloc uv rfl fun b6 w5 mV eM=>?_);have s5:=mV.ext;have gO:=mV.kI c4;have Bu:b2≠b6:=mV.ne eZ.lt;have YY:b6≠b2:=Ne.symm Bu;have gD:b3≠b6:=mV.ne dA.lt;have uF:b6≠b3:=Ne.symm gD;have c5:=c4.trans s5;have eZ:=eZ.ext s5;have dA:=dA.ext s5;refine WL.go rfl (OX.qx gC eM rfl rfl rfl rfl rfl fun w6 s6 _ eM=>?_);have c6:=c5.own s6 gO;have eZ:=eZ.cX s6 (by simp [Bu]);have dA:=dA.cX s6 (by simp [gD]);refine dF ?_;refine WC.nb (t:=27) (v:=.bool (rF x k)) (fun wx=>w6=wx) ?_ ?_
 ·
  refine(dT) (fun g21=>?_) (fun g21=>?_)
  ·
   refine WP .r (PV.fa uy rfl)<|(bN) aX eM.range<|?_;refine WP .r (PV.fa oH rfl)<|(bN) aX eZ.range<|?_;exact(dx) (by unfold rF;simp only [g9,g21];first | rfl | simp) rfl
  exact(dx) (by unfold rF;simp only [g9,g21];first | rfl | simp) rfl
 rintro _ rfl;refine(bp) (fun Cq=>?_) fun Cq=>?_
 ·
  refine db ?_;refine WP .r (PV.fa AZ rfl)<|(bN) iq eM.range<|(GH) ?_;exact⟨by unfold zZ;rw [if_neg (by simp [g9]),if_pos Cq,Cq],c6⟩
 refine(GH) ?_;exact⟨by unfold zZ;rw [if_neg (by simp [g9]),if_neg (by simp [Cq]),Cq],c6⟩
theorem Bv(hi:Rd RR.aH 4 Z w a1 n1 e1 x.ah) (hr:Rd RR.fl 8 Z w a2 n2 e2 x.ak) {k:Key}{v:ByteArray}{reads:List Key}{a:Option Addr}{n e:Nat}(hk:Rd RR.key 2 Z w a n e reads):Calls prog 118 #[.agg (x.row a1 n1 e1 a2 n2 e2).toArray,k.val,.string v,.slice a n e] w fun en w'=>en=.returned (.agg ((et x k v reads).row a n e).toArray)∧bj [] w w':=by
 have hlen:=SR.len hk;have hle:=SR.le hk;refine enter func118 rfl ntmps118 rfl<|?_;have c0:bj [] w w:=bj.refl _ _;refine db ?_;refine WL.go rfl (OX.box rfl rfl rfl fun b4 w1 jS bL=>?_);have s1:=jS.ext;have iR:=jS.kI c0;have c1:=c0.trans s1;refine WL.go rfl (OX.box rfl rfl rfl fun b5 w2 nH gI=>?_);have s2:=nH.ext;have uD:=nH.kI c1;have nI:b4≠b5:=nH.ne bL.lt;have uE:b5≠b4:=Ne.symm nI;have c2:=c1.trans s2;have bL:=bL.ext s2;refine WL.go rfl (OX.alloc uv rfl fun b8 w3 Bn jm=>?_);have s3:=Bn.ext;have xx:=Bn.kI c2;have lQ:b4≠b8:=Bn.ne bL.lt;have KG:b8≠b4:=Ne.symm lQ;have uI:b5≠b8:=Bn.ne gI.lt;have YZ:b8≠b5:=Ne.symm uI;have c3:=c2.trans s3;have bL:=bL.ext s3;have gI:=gI.ext s3;refine(bz) av gI.range<|db ?_;refine WP .r (PV.fa oH rfl)<|(bN) aX bL.range<|?_;refine WP .r (PV.fa oH rfl)<|(bN) aX bL.range<|nx ?_;refine WP .r (PV.j0 fL rfl)<|nx ?_;refine WP .r (PV.cD (us:=(Rec.mk k v reads x.ae x.ae (1+(n:Int)) false).row a n e) adb rfl rfl rfl)<|?_;refine WL.go rfl (OX.alloc uv rfl fun b9 w4 QE Bw=>?_);have s4:=QE.ext;have QF:=QE.kI c3;have uJ:b4≠b9:=QE.ne bL.lt;have Y0:b9≠b4:=Ne.symm uJ;have uK:b5≠b9:=QE.ne gI.lt;have Y1:b9≠b5:=Ne.symm uK;have uL:b8≠b9:=QE.ne jm.lt;have Bx:b9≠b8:=Ne.symm uL;have c4:=c3.trans s4;have bL:=bL.ext s4;have gI:=gI.ext s4;have jm:=jm.ext s4;refine WL.go rfl (OX.qx gC Bw rfl rfl rfl rfl rfl fun w5 s5 _ Bw=>?_);have c5:=c4.own s5 QF;have bL:=bL.cX s5 (by simp [uJ]);have gI:=gI.cX s5 (by simp [uK]);have jm:=jm.cX s5 (by simp [uL]);refine eA ?_;refine WP .r (PV.fa xp rfl)<|(bN) ez bL.range<|(bz) av gI.range<|(df) uA (fH (k:=k) (hr.ext c5)) ?_;rintro _ w6 ⟨f1,f2,f3,rfl,s6⟩;have c6:=c5.trans s6;have bL:=bL.ext s6;have gI:=gI.ext s6;have jm:=jm.ext s6;have Bw:=Bw.ext s6;refine dw ?_;refine WL.go rfl (OX.alloc uv rfl fun jd w7 ma fP=>?_);have s7:=ma.ext;have Fx:=ma.kI c6;have mb:b4≠jd:=ma.ne bL.lt;have H7:jd≠b4:=Ne.symm mb;have yu:b5≠jd:=ma.ne gI.lt;have VT:jd≠b5:=Ne.symm yu;have mc:b8≠jd:=ma.ne jm.lt;have r6:jd≠b8:=Ne.symm mc;have yv:b9≠jd:=ma.ne Bw.lt;have Ig:jd≠b9:=Ne.symm yv;have c7:=c6.trans s7;have bL:=bL.ext s7;have gI:=gI.ext s7;have jm:=jm.ext s7;have Bw:=Bw.ext s7;refine WL.go rfl (OX.qx gC fP rfl rfl rfl rfl rfl fun w8 s8 _ fP=>?_);have c8:=c7.own s8 Fx;have bL:=bL.cX s8 (by simp [mb]);have gI:=gI.cX s8 (by simp [yu]);have jm:=jm.cX s8 (by simp [mc]);have Bw:=Bw.cX s8 (by simp [yv]);refine dF ?_;refine WC.nb (t:=36) (v:=.bool ((aD x.ak k).isSome && decide ((aG x.ak k).value=v))) (fun wx=>w8=wx) ?_ ?_
 ·
  refine(dT) (fun px=>?_) (fun px=>?_)
  ·
   refine WP .r (PV.fa AZ rfl)<|(bN) iq fP.range<|?_;exact(dx) (by simp only [px];first | rfl | simp) rfl
  exact(dx) (by simp only [px];first | rfl | simp) rfl
 rintro _ rfl;refine(bp) (fun ir=>?_) fun ir=>?_
 ·
  have hm:et x k v reads=⟨k,v,reads,(aG x.ak k).changed,x.ae,1+(reads.length:Int),false⟩:=by unfold et;rw [if_pos ir]
  refine nx ?_;refine WP .r (PV.fa Ba rfl)<|(bN) aX fP.range<|?_;refine WP .r (PV.fa Ba rfl)<|?_;refine WL.go rfl (OX.st RW Bw rfl rfl (by first | (simp [nth];done) | exact nns rfl) rfl rfl fun w9 s9 _ Bw=>?_);have c9:=c8.own s9 QF;have bL:=bL.cX s9 (by simp [uJ]);have gI:=gI.cX s9 (by simp [uK]);have jm:=jm.cX s9 (by simp [uL]);have fP:=fP.cX s9 (by simp [Ig]);refine(bz) dm Bw.range<|?_;refine WL.go rfl (OX.qx gC jm rfl rfl rfl rfl rfl fun kM pz _ jm=>?_);have Qr:=c9.own pz xx;have bL:=bL.cX pz (by simp [lQ]);have gI:=gI.cX pz (by simp [uI]);have Bw:=Bw.cX pz (by simp [Bx]);have fP:=fP.cX pz (by simp [r6]);refine(mI) dm jm.range<|?_;exact⟨by rw [hm,← hlen] <;> rfl,Qr⟩
 have hm:et x k v reads=⟨k,v,reads,x.ae,x.ae,1+(reads.length:Int),false⟩:=by unfold et;rw [if_neg (by simp [ir])]
 refine(bz) dm Bw.range<|?_;refine WL.go rfl (OX.qx gC jm rfl rfl rfl rfl rfl fun w9 s9 _ jm=>?_);have c9:=c8.own s9 xx;have bL:=bL.cX s9 (by simp [lQ]);have gI:=gI.cX s9 (by simp [uI]);have Bw:=Bw.cX s9 (by simp [Bx]);have fP:=fP.cX s9 (by simp [r6]);refine(mI) dm jm.range<|?_;exact⟨by rw [hm,← hlen] <;> rfl,c9⟩
theorem oP{goals:List Key}{ar:Option Addr}(hu:iW A w ar r c ab) (hi:Rd RR.aH 4 Z w a1 n1 e1 x.ah) (hr:Rd RR.fl 8 Z w a2 n2 e2 x.ak) (hg:zI B w ag g eg goals):CR prog 36 #[.slice ar r c,.agg (x.row a1 n1 e1 a2 n2 e2).toArray,.slice ag g eg] w (.int .i64 (iC ab x goals)):=by
 have hlen:=SR.len hg;have hle:=SR.le hg;refine enter func36 rfl ntmps36 rfl<|?_;have c0:bj [] w w:=bj.refl _ _;refine db ?_;refine WL.go rfl (OX.box rfl rfl rfl fun b4 w1 jS bL=>?_);have s1:=jS.ext;have iR:=jS.kI c0;have c1:=c0.trans s1;refine(df) ajV (H8 (hu.ext c1)) ?_;rintro _ w2 ⟨bv,rfl,hbv,s2⟩;have c2:=c1.trans s2;have bL:=bL.ext s2;refine(bp) (fun g9=>?_) fun g9=>?_
 ·
  simp at g9
  have hE:iC ab x goals=41:=by unfold iC;rw [if_pos (by rw [← hbv];simp [g9])]
  refine(cm) ?_;exact⟨by rw [hE],c2⟩
 simp at g9
 have hR:=hbv.1 g9;refine(bz) aN bL.range<|(df) YB (qq (hi.ext c2) (hr.ext c2)) ?_;rintro _ w3 ⟨bv2,rfl,aeV,s3⟩;have c3:=c2.trans s3;have bL:=bL.ext s3;refine(bp) (fun g13=>?_) fun g13=>?_
 ·
  simp at g13
  have hE:iC ab x goals=42:=by unfold iC;rw [if_neg (by simpa using hR),if_pos (by rw [← aeV];simp [g13])]
  refine(cm) ?_;exact⟨by rw [hE],c3⟩
 simp at g13
 have hB:=aeV.1 g13;refine dw ?_;refine WP .r (PV.j0 fL rfl)<|(bp) (fun g17=>?_) fun g17=>?_
 ·
  simp at g17
  have hE:iC ab x goals=3:=by unfold iC;rw [if_neg (by simpa using hR),if_neg (by simpa using hB),if_pos (by omega)]
  refine(cm) ?_;exact⟨by rw [hE],c3⟩
 simp at g17
 have hE:iC ab x goals=if goals.all (jP ab) then 0 else 40:=by unfold iC;rw [if_neg (by simpa using hR),if_neg (by simpa using hB),if_neg (by omega)]
 refine gp ?_;refine WP .r (PV.j0 fL rfl)<|dF ?_;refine WC.loop (σ:=Nat) (eI:=fun i=>[(0,.slice ar r c),(21,.slice ag g eg),(22,.int .i64 (g:Int)),(23,.int .i64 (i:Int))]) (I:=fun i w'=>bj [] w w'∧i≤g∧∀j y,j<i→goals[j]?=some y→jP ab y=true) (μ:=fun i=>g - i) 0 Sub.t ⟨c3,by omega,fun j y h=>by omega⟩ ?_;rintro i w4 ⟨c4,gQ,cy⟩;refine(bp) (fun g24=>?_) fun g24=>?_
 ·
  simp at g24
  have cV:i<goals.length:=by omega
  obtain⟨TW,TX,TY,oK,_,KJ,jG,_⟩:=SR.at hg (aq cV);subst KJ;refine eA ?_;have jG:=bE jG c4 (by simp);refine nx ?_;refine WP .r (PV.fm fL oK rfl rfl (by omega))<|(bz) av jG<|?_;refine WL.go rfl (OX.alloc Kx rfl fun b8 w5 Bn jm=>?_);have s5:=Bn.ext;have xx:=Bn.kI c4;have c5:=c4.trans s5;refine WL.go rfl (OX.qx jH jm rfl rfl rfl rfl rfl fun w6 s6 _ jm=>?_);have c6:=c5.own s6 xx;refine(bz) av jm.range<|(df) ajW (Ie (k:=goals[i]) (hu.ext c6)) ?_;rintro _ w7 ⟨rfl,s7⟩;have c7:=c6.trans s7;have jm:=jm.ext s7;refine(bp) (fun l9=>?_) fun l9=>?_
  ·
   simp at l9
   have hE:iC ab x goals=40:=by rw [hE,if_neg];rw [List.all_eq_true];intro h;have:=h _ (List.getElem_mem cV);rw [l9] at this;cases this
   refine(cm) ?_;exact⟨by rw [hE],c7⟩
  simp at l9
  refine gp ?_;refine EX.again (i+1) (Sub.k2 rfl rfl<|Sub.cons rfl<|Sub.lz rfl (by simp)<|Sub.nil) ⟨c7,by omega,dJ (P:=fun _ y=>jP ab y=true) cV cy l9⟩ (by omega)
 simp at g24
 have hE:iC ab x goals=0:=by rw [hE,if_pos];rw [List.all_eq_true];intro y hy;obtain⟨j,hj,rfl⟩:=List.mem_iff_getElem.1 hy;exact cy j _ (by omega) (aq hj)
 refine(cm) ?_;exact⟨by rw [hE],c4⟩
theorem vN{group:List Key}(bF:St w M Z w []) (hl:Rd RR.fl 8 Z w a n c l) (hg:Rd RR.key 2 Z w ag g eg group) (hb:∀i,(((group.take i).flatMap fun m=>eE group m (aG l m).reads)).length≤100000000):Calls prog 113 #[.slice a n c,.slice ag g eg] w fun e w'=>∃a' n' c' Z',e=.returned (.slice a' n' c')∧cQ w.heap.size Z Z'∧St w M Z' w' [As.os RR.MR 160 4 a' n' c' (cC l group)]:=by
 have hlen:=hg.len;have hle:=hg.le;refine enter func113 rfl ntmps113 rfl<|?_;have aW:=bF;have st1:=aW.fr hl;have st2:=st1.fr hg;have aP:=st2.eX RR.MR 160 4;refine bC ?_;refine gp ?_;refine WC.kj (σ:=Nat × (Nat→Prop) × (List tz) × (Option Addr) × Nat × Nat) (eI:=fun(i,Z1,acc,cP,cB,cS)=>[(0,.slice a n c),(1,.slice ag g eg),(5,.slice cP cB cS),(12,.slice ag g eg),(13,.int .i64 (g:Int)),(14,.int .i64 (i:Int))]) (F:=fun(i,Z1,acc,cP,cB,cS)=>[As.os RR.MR 160 4 cP cB cS (acc)]) (I:=fun(i,Z1,acc,cP,cB,cS)=>(i≤g)∧(cQ w.heap.size Z Z1)∧(acc=(group.take i).flatMap fun m=>eE group m (aG l m).reads)∧True) (μ:=fun(i,Z1,acc,cP,cB,cS)=>g - i) (Zf:=fun(i,Z1,acc,cP,cB,cS)=>Z1) (0,Z,[],none,0,0) (aP) Sub.t (⟨by omega,cQ.refl _ _,by simp,trivial⟩)<|?_;rintro⟨i,Z1,acc,cP,cB,cS⟩ w1 aV ⟨hi,hZ,ee,_⟩;simp only [CA,NA] at aV hi hZ ee ⊢;refine(bp) (fun g15=>?_) fun g15=>?_
 ·
  simp at g15
  have cV:i<group.length:=by omega
  refine eA ?_;obtain⟨gE,js,iT,aS,fi,bq,bY,di⟩:=Rd.at (As.gr aV.g1) cV;have bq:=RR.cH bq;subst bq;have bf:=aV.fg di bY;refine nx ?_;refine WP .r (PV.fm fL aS rfl rfl (by omega))<|(bz) av (As.nh bf.g0)<|(fT) bf fun b7 w2 tJ nT br=>?_;refine(dB) jH br fun w3 jC jI bP=>?_;refine(bz) av bP.b0<|?_;have bS:=bP;refine(df) uA (kx (k:=group[i]) bS.e0 (As.gr bS.g4)) ?_;rintro _ w4 ⟨f1,f2,f3,rfl,hq4,fN⟩;have bX:=St.lr bS fN;have rp:=St.cK fN;have hsz:=bS.size;have aM:=bX.bV (by omega);have kZ:=hZ.trans (cQ.fo (F:=fun x=>x∈aL f1) rp) hsz;have hqn:=((As.gr aM.g0)).len;refine(fT) aM fun b8 w5 Bn jm aT=>?_;refine(dB) gC aT fun w6 r7 mR aY=>?_;refine(bN) fE aY.b0<|eA ?_;refine WC.bQ (σ:=Nat × (List tz) × (Option Addr) × Nat × Nat) (eI:=fun(j,jJ,cP,cB,cS)=>[(0,.slice a n c),(1,.slice ag g eg),(5,.slice cP cB cS),(7,.pointer (some ⟨b7,0,none⟩)),(12,.slice ag g eg),(13,.int .i64 (g:Int)),(14,.int .i64 (i:Int)),(25,.slice f1 f2 f3),(26,.int .i64 (f2:Int)),(27,.int .i64 (j:Int))]) (F:=fun(j,jJ,cP,cB,cS)=>[As.os RR.MR 160 4 cP cB cS (jJ)]) (I:=fun(j,jJ,cP,cB,cS)=>(j≤f2)∧(jJ=acc++eE group group[i] ((aG l group[i]).reads.take j))∧True) (μ:=fun(j,jJ,cP,cB,cS)=>f2 - j) (0,acc,cP,cB,cS) (aY.p4) Sub.t (⟨by omega,by simp [eE],trivial⟩)<|?_;rintro⟨j,jJ,cP,cB,cS⟩ w7 bG ⟨hj,r8,_⟩;simp only [CA,NA] at bG hj r8 ⊢;have l3:=((As.gs bG.g0)).len;have Mq:=hb i;rw [← ee] at Mq;have CK:=mJ group group[i] ((aG l group[i]).reads.take j)
  have htl:jJ.length≤100100000:=by rw [r8,List.length_append];rw [List.length_take] at CK;omega
  refine(bp) (fun iU=>?_) fun iU=>?_
  ·
   simp at iU
   have kL:j<(aG l group[i]).reads.length:=by omega
   refine eA ?_;obtain⟨uM,Ih,CN,ft,tK,gk,jO,pB⟩:=Rd.at (As.gr bG.g2) kL;have gk:=RR.cH gk;subst gk;have bB:=bG.fg pB jO;refine nx ?_;refine WP .r (PV.fm fL ft rfl rfl (by omega))<|(bz) av (As.nh bB.g0)<|(fT) bB fun tS w8 QG T3 bd=>?_;refine(dB) jH bd fun w9 Ej td aU=>?_;refine(bz) av aU.b0<|(gw) (sX (k:=(aG l group[i]).reads[j]) (As.gr aU.g7)) aU fun kM pz bM=>?_;refine(bp) (fun uW=>?_) fun uW=>?_
   ·
    simp at uW
    have Md:=lT (group:=group) (m:=group[i]) kL;rw [if_neg uW] at Md;refine(bz) av bM.b5<|(bz) av bM.b0<|?_;refine WP .r (PV.cD (us:=(tz.mk group[i] (aG l group[i]).reads[j]).cells) Vl rfl rfl rfl)<|?_;refine WL.go rfl (OX.bA (us:=(tz.mk group[i] (aG l group[i]).reads[j]).cells) Mh rfl rfl rfl rfl fun b39 kN aku akv=>?_);have bO:=bM.eW aku akv;refine WL.ap rfl rfl bO.p3 (SR.eP (A:=fun _=>True) (x:=tz.mk group[i] (aG l group[i]).reads[j]) (As.gb bO.g0) trivial rfl (by simp [tz.cells,Value.oneCell']) rfl) fun a40 akw qL ar6 ar7 bD=>?_;refine kJ ?_;refine fx (j+1,_,a40,(cB+1),akw) ⟨bD.p1.drop.p1.drop.p1.drop,⟨by omega,by rw [Md,r8,List.append_assoc],trivial⟩⟩
   simp at uW
   have Md:=lT (group:=group) (m:=group[i]) kL;rw [if_pos uW] at Md;refine gp ?_;refine fx (j+1,_,cP,cB,cS) ⟨bM.drop.drop,⟨by omega,by rw [Md,r8],trivial⟩⟩
  simp at iU
  have cy:(aG l group[i]).reads.take j=(aG l group[i]).reads:=List.take_of_length_le (by omega);refine nj ?_;refine fx (i+1,_,jJ,cP,cB,cS) ⟨bG.p6.p6.p2.k3,⟨by omega,kZ,by rw [r8,cy,ee,List.take_succ_eq_append_getElem cV];simp only [List.flatMap_append,List.flatMap_cons,List.flatMap_nil,List.append_nil],trivial⟩⟩
 simp at g15
 have cy:group.take i=group:=List.take_of_length_le (by omega);rw [cy] at ee;subst ee;refine(cm) ?_;exact⟨_,_,_,_,rfl,hZ,aV.p1.drop.p1.drop⟩
set_option maxHeartbeats 400000
theorem Bz{l:List eH}(hl:Rd RR.qU 6 Z w a r c l):CR prog 115 #[.slice a r c,k.val] w (.bool (lj l k)):=by
 have hle:=SR.le hl;have hlen:=SR.len hl;refine enter func115 rfl ntmps115 rfl<|?_;have c0:bj [] w w:=bj.refl _ _;refine db ?_;refine WL.go rfl (OX.box rfl rfl rfl fun b3 w1 ic dA=>?_);have s1:=ic.ext;have r5:=ic.kI c0;have c1:=c0.trans s1;refine gp ?_;refine WP .r (PV.j0 HZ rfl)<|dF ?_;refine WC.loop (σ:=Nat) (eI:=fun i=>[(3,.pointer (some ⟨b3,0,none⟩)),(7,.slice a r c),(8,.int .i64 (r:Int)),(9,.int .i64 (i:Int))]) (I:=fun i w'=>bj [] w w'∧cJ w' b3 58 [.int .i64 k.kind,.string k.text]∧i≤r∧∀j y,j<i→l[j]?=some y→decide (eH.key y=k)=false) (μ:=fun i=>r - i) 0 Sub.t ⟨c1,dA,by omega,fun j y h=>by omega⟩ ?_;rintro i w2 ⟨c2,dA,hi,gh⟩;refine(bp) (fun g10=>?_) fun g10=>?_
 ·
  simp at g10
  have cV:i<l.length:=by omega
  refine eA ?_;obtain⟨TW,TX,TY,oK,_,⟨q1,q2,q3,q4,q5,q6,rfl,_⟩,jG,_⟩:=SR.at hl (aq cV);have jG:=bE jG c2 (by simp);refine nx ?_;refine WP .r (PV.fm HZ oK rfl rfl (by omega))<|(bz) D9 jG<|?_;refine WL.go rfl (OX.alloc adq rfl fun b6 w3 mV eM=>?_);have s3:=mV.ext;have gO:=mV.kI c2;have gD:b3≠b6:=mV.ne dA.lt;have uF:b6≠b3:=Ne.symm gD;have c3:=c2.trans s3;have dA:=dA.ext s3;refine WL.go rfl (OX.qx Tl eM rfl rfl rfl rfl rfl fun w4 s4 _ eM=>?_);have c4:=c3.own s4 gO;have dA:=dA.cX s4 (by simp [gD]);refine dF ?_;refine WP .r (PV.fa Qf rfl)<|(kl) av eM.range<|(bz) av dA.range<|?_;refine WP .r (PV.G3 gB (p:=l[i].key) (q:=k) rfl rfl)<|(bp) (fun g16=>?_) fun g16=>?_
  ·
   have hv:lj l k=true:=List.any_eq_true.2 ⟨_,List.getElem_mem cV,g16⟩;refine(cm) ?_;exact⟨by rw [hv],c4⟩
  skip
  refine gp ?_;refine EX.again (i+1) (Sub.k2 rfl rfl<|Sub.cons rfl<|Sub.lz rfl (by simp)<|Sub.nil) ⟨c4,dA,by omega,dJ (P:=fun _ (y:eH)=>decide (y.key=k)=false) cV gh g16⟩ (by omega)
 simp at g10
 have hv:lj l k=false:=List.any_eq_false.2 fun y hy=>by obtain⟨j,hj,rfl⟩:=List.mem_iff_getElem.1 hy;simpa using gh j _ (by omega) (aq hj)
 refine(cm) ?_;exact⟨by rw [hv],c2⟩
theorem vO(hi:Rd RR.aH 4 Z w a1 n1 e1 x.ah) (hr:Rd RR.fl 8 Z w a2 n2 e2 x.ak) {l:List eH}{k:Key}{a:Option Addr}{n c:Nat}(hl:Rd RR.qU 6 Z w a n c l):CR prog 76 #[.agg (x.row a1 n1 e1 a2 n2 e2).toArray,.slice a n c,k.val] w (.bool (gH x l k)):=by
 refine enter func76 rfl ntmps76 rfl<|?_;have c0:bj [] w w:=bj.refl _ _;refine db ?_;refine WL.go rfl (OX.box rfl rfl rfl fun b3 w1 ic dA=>?_);have s1:=ic.ext;have r5:=ic.kI c0;have c1:=c0.trans s1;refine WL.go rfl (OX.box rfl rfl rfl fun b5 w2 nH gI=>?_);have s2:=nH.ext;have uD:=nH.kI c1;have KQ:b3≠b5:=nH.ne dA.lt;have Y2:b5≠b3:=Ne.symm KQ;have c2:=c1.trans s2;have dA:=dA.ext s2;refine eA ?_;refine WC.nb (t:=15) (v:=.bool (aB k || lj l k)) (bj [] w2) ?_<|?_
 ·
  refine(bz) av gI.range<|(df) NG (fM (k:=k)) ?_;rintro _ w3 ⟨rfl,s3⟩;have c3:=c2.trans s3;have dA:=dA.ext s3;have gI:=gI.ext s3;refine(dT) (fun g11=>?_) (fun g11=>?_)
  ·
   exact(dx) (by simp only [g11];first | rfl | simp) s3
  refine(bz) av gI.range<|(df) Qi (Bz (k:=k) (hl.ext c3)) ?_;rintro _ w4 ⟨rfl,s4⟩;have c4:=c3.trans s4;have dA:=dA.ext s4;have gI:=gI.ext s4;exact(dx) (by simp only [g11];first | rfl | simp) (s3.trans s4)
 intro w3 s3;have c3:=c2.trans s3;have dA:=dA.ext s3;have gI:=gI.ext s3;refine(bp) (fun g15=>?_) fun g15=>?_
 ·
  have hv:gH x l k=false:=by unfold gH;rw [g15];rfl
  refine(cm) ?_;exact⟨by rw [hv],c3⟩
 have hv:gH x l k=(!(aD x.ak k).isSome || decide ((aG x.ak k).az≠x.ae)):=by unfold gH;rw [g15];rfl
 refine dF ?_;refine WP .r (PV.fa xp rfl)<|(bN) ez dA.range<|(bz) av gI.range<|(df) uA (fH (k:=k) (hr.ext c3)) ?_;rintro _ w4 ⟨f1,f2,f3,rfl,s4⟩;have c4:=c3.trans s4;have dA:=dA.ext s4;have gI:=gI.ext s4;refine dw ?_;refine WL.go rfl (OX.alloc uv rfl fun b7 w5 tJ nT=>?_);have s5:=tJ.ext;have FB:=tJ.kI c4;have BA:b3≠b7:=tJ.ne dA.lt;have Y3:b7≠b3:=Ne.symm BA;have nN:b5≠b7:=tJ.ne gI.lt;have KO:b7≠b5:=Ne.symm nN;have c5:=c4.trans s5;have dA:=dA.ext s5;have gI:=gI.ext s5;refine WL.go rfl (OX.qx gC nT rfl rfl rfl rfl rfl fun w6 s6 _ nT=>?_);have c6:=c5.own s6 FB;have dA:=dA.cX s6 (by simp [BA]);have gI:=gI.cX s6 (by simp [nN]);refine dF ?_;refine WC.o8 (t:=6) (v:=.bool (gH x l k)) (fun wx=>w6=wx) ?_ ?_
 ·
  refine(dT) (fun fB=>?_) (fun fB=>?_)
  ·
   exact(iw) (by rw [hv];simp only [fB];first | rfl | simp) rfl
  refine WP .r (PV.fa uy rfl)<|(bN) aX nT.range<|?_;refine WP .r (PV.fa oH rfl)<|(bN) aX dA.range<|?_;exact(iw) (by rw [hv];simp only [fB];first | rfl | simp) rfl
 rintro _ rfl;refine(cm) ?_;exact⟨rfl,c6⟩
theorem BB(hi:Rd RR.aH 4 Z w a1 n1 e1 x.ah) (hr:Rd RR.fl 8 Z w a2 n2 e2 x.ak) {l others:List eH}{k:Key}{a a3:Option Addr}{n c n3 e3:Nat}(hl:Rd RR.qU 6 Z w a n c l) (ho:Rd RR.qU 6 Z w a3 n3 e3 others):CR prog 119 #[.agg (x.row a1 n1 e1 a2 n2 e2).toArray,.slice a n c,.slice a3 n3 e3,k.val] w (.int .i64 (dG x l others k)):=by
 refine enter func119 rfl ntmps119 rfl<|?_;have c0:bj [] w w:=bj.refl _ _;refine db ?_;refine WL.go rfl (OX.box rfl rfl rfl fun b4 w1 jS bL=>?_);have s1:=jS.ext;have iR:=jS.kI c0;have c1:=c0.trans s1;refine WL.go rfl (OX.box rfl rfl rfl fun b7 w2 tJ nT=>?_);have s2:=tJ.ext;have FB:=tJ.kI c1;have KS:b4≠b7:=tJ.ne bL.lt;have Y4:b7≠b4:=Ne.symm KS;have c2:=c1.trans s2;have bL:=bL.ext s2;refine jo ?_;refine WC.nb (t:=9) (v:=.bool (!aA k && lj l k)) (bj [] w2) ?_<|?_
 ·
  refine(bz) av nT.range<|(df) NH (eB (k:=k)) ?_;rintro _ w3 ⟨rfl,s3⟩;have c3:=c2.trans s3;have bL:=bL.ext s3;have nT:=nT.ext s3;refine(dT) (fun g13=>?_) (fun g13=>?_)
  ·
   refine(bz) av nT.range<|(df) Qi (Bz (k:=k) (hl.ext c3)) ?_;rintro _ w4 ⟨rfl,s4⟩;have c4:=c3.trans s4;have bL:=bL.ext s4;have nT:=nT.ext s4;exact(dx) (by simp only [g13];first | rfl | simp) (s3.trans s4)
  exact(dx) (by simp only [g13];first | rfl | simp) s3
 intro w3 s3;have c3:=c2.trans s3;have bL:=bL.ext s3;have nT:=nT.ext s3;refine(bp) (fun g9=>?_) fun g9=>?_
 ·
  skip
  refine(cm) ?_;exact⟨by unfold dG;rw [if_pos g9],c3⟩
 have g9:¬((!aA k && lj l k)=true):=by simp [g9]
 refine(bz) aN bL.range<|(bz) av nT.range<|(df) adM (vO (k:=k) (hi.ext c3) (hr.ext c3) (hl.ext c3)) ?_;rintro _ w4 ⟨rfl,s4⟩;have c4:=c3.trans s4;have bL:=bL.ext s4;have nT:=nT.ext s4;refine(bp) (fun g18=>?_) fun g18=>?_
 ·
  skip
  refine(cm) ?_;exact⟨by unfold dG;rw [if_neg g9,if_pos g18],c4⟩
 have g18:¬((!gH x l k)=true):=by simp [g18]
 refine(bz) av nT.range<|(df) Qi (Bz (k:=k) (ho.ext c4)) ?_;rintro _ w5 ⟨rfl,s5⟩;have c5:=c4.trans s5;have bL:=bL.ext s5;have nT:=nT.ext s5;refine(bp) (fun g24=>?_) fun g24=>?_
 ·
  skip
  refine(cm) ?_;exact⟨by unfold dG;rw [if_neg g9,if_neg g18,if_pos g24],c5⟩
 have g24:¬((!lj others k)=true):=by simp [g24]
 refine(bz) av nT.range<|(df) NH (eB (k:=k)) ?_;rintro _ w6 ⟨rfl,s6⟩;have c6:=c5.trans s6;have bL:=bL.ext s6;have nT:=nT.ext s6;refine(bp) (fun oq=>?_) fun oq=>?_
 ·
  skip
  refine(cm) ?_;exact⟨by unfold dG;rw [if_neg g9,if_neg g18,if_neg g24,if_pos oq],c6⟩
 refine(cm) ?_;exact⟨by unfold dG;rw [if_neg g9,if_neg g18,if_neg g24,if_neg (by simp [oq])],c6⟩
theorem yT{l:List aJ}(bF:St w M Z w []) (hl:Rd RR.gN 4 Z w a n c l) (h6:l.length≤1000000) (h4:∀x∈l,x.asks.length≤1000):Calls prog 73 #[.slice a n c] w fun e w'=>∃a' n' c' Z',e=.returned (.slice a' n' c')∧cQ w.heap.size Z Z'∧St w M Z' w' [As.os RR.gN 69 4 a' n' c' l]:=by
 have hlen:=hl.len;have hle:=hl.le;refine enter func73 rfl ntmps73 rfl<|?_;have aW:=bF;have st1:=aW.fr hl;have st2:=st1.eX RR.gN 69 4;refine bC ?_;refine gp ?_;refine WC.kj (σ:=Nat × (Nat→Prop) × (List aJ) × (Option Addr) × Nat × Nat) (eI:=fun(i,Z1,acc,cP,cB,cS)=>[(3,.slice cP cB cS),(6,.slice a n c),(7,.int .i64 (n:Int)),(8,.int .i64 (i:Int))]) (F:=fun(i,Z1,acc,cP,cB,cS)=>[As.os RR.gN 69 4 cP cB cS (acc)]) (I:=fun(i,Z1,acc,cP,cB,cS)=>(i≤n)∧(cQ w.heap.size Z Z1)∧(acc=l.take i)∧True) (μ:=fun(i,Z1,acc,cP,cB,cS)=>n - i) (Zf:=fun(i,Z1,acc,cP,cB,cS)=>Z1) (0,Z,[],none,0,0) (st2) Sub.t (⟨by omega,cQ.refl _ _,by simp,trivial⟩)<|?_;rintro⟨i,Z1,acc,cP,cB,cS⟩ w1 aP ⟨hi,hZ,ee,_⟩;simp only [CA,NA] at aP hi hZ ee ⊢;have l3:=((As.gs aP.g0)).len
 have CK:acc.length≤1000000:=by rw [ee,List.length_take];omega
 refine(bp) (fun g9=>?_) fun g9=>?_
 ·
  simp at g9
  have cV:i<l.length:=by omega
  refine eA ?_;obtain⟨gE,js,iT,aS,fi,bq,bY,di⟩:=Rd.at (As.gr aP.g1) cV;obtain⟨q1,q2,q3,rfl,aeY⟩:=bq;have aV:=aP.fg di bY;have aeZ:Rd RR.ask 4 _ _ q1 q2 q3 l[i].asks:=aeY;have bf:=aV.fr (aeZ);have oM:=h4 _ (List.getElem_mem cV);have hqn:=SR.len aeZ;have br:=bf.eX RR.ask 129 4;refine nx ?_;refine WP .r (PV.fm lO aS rfl rfl (by omega))<|(bz) yl (As.nh br.g2)<|(fT) br fun b5 w2 nH gI bP=>?_;refine(dB) Kw bP fun w3 jC jI bS=>?_;refine(bN) nF bS.b0<|?_;have hsz:=bS.size;refine WL.ap rfl rfl bS.p1 ((As.gr bS.g2)) fun QH KT w4 NR ae0 bX=>?_;refine nx ?_;refine WL.s1 bX.p1 fun w5 _ aM=>?_;refine db ?_;have aT:=aM.p1.bV (by simp;omega)
  have rp:∀x∈aL QH,w.heap.size≤x:=fun x hx=>by rcases NR x hx with h | h;simp [aL] at h;omega
  have kZ:=hZ.trans (cQ.fo (F:=fun x=>x∈aL QH) rp) (Nat.le_refl _);refine(bz) yl aT.b1<|?_;refine WL.go rfl (OX.bA (us:=l[i].row _ _ _) Kt rfl rfl rfl rfl fun b18 w6 T4 T5=>?_);have aY:=aT.eW T4 T5;refine WL.ap rfl rfl aY.p5 (SR.eP (A:=fun _=>True) (x:=l[i]) (As.gb aY.g0) trivial rfl (aJ.one _ _ _ _) ⟨_,_,_,rfl,(As.gr aY.g1)⟩) fun a19 Y5 w7 aky akz bG=>?_;refine kJ ?_;refine fx (i+1,_,acc++[l[i]],a19,(cB+1),Y5) ⟨bG.p6.p1.k2,⟨by omega,kZ,by rw [ee,List.take_succ_eq_append_getElem cV],trivial⟩⟩
 simp at g9
 have cy:acc=l:=by rw [ee];exact List.take_of_length_le (by omega)
 subst cy;refine(cm) ?_;exact⟨_,_,_,_,rfl,hZ,aP.p1.drop⟩
end Go.Rc

