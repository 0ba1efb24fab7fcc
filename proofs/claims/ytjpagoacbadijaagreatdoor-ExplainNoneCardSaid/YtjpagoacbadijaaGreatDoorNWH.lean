/- Walks over the program, part WH. Conditions: as each theorem says. -/
import Derived.Test.YtjpagoacbadijaaGreatDoorNFacts
import Derived.Test.YtjpagoacbadijaaGreatDoorNWB
import Derived.Test.YtjpagoacbadijaaGreatDoorNWD
import Derived.Test.YtjpagoacbadijaaGreatDoorNWF
import Derived.Test.YtjpagoacbadijaaGreatDoorNBe
set_option linter.all false
namespace Go.Rc
open Go Go.Proofs Go.Proofs.Tryz
variable {n r c e2 n1 e1 n2 g eg:Nat}{w:World}{k:Key}{ab:List aG}{A B Z M:Nat→Prop}{a a2 a1 ag:Option Addr}{l:List Rec}{x:dQ}
set_option maxHeartbeats 400000
theorem BP{n:Int} :CR prog 140 #[.int .i64 n] w (.string (yx n)):=by
 refine enter func140 rfl ntmps140 rfl<|?_;have c0:aV [] w w:=aV.refl _ _;refine(aZ) (fun g4=>?_) fun g4=>?_
 ·
  simp at g4
  refine(cA) ?_;exact⟨by unfold yx;rw [if_pos g4],c0⟩
 simp at g4
 refine(cA) ?_;exact⟨by unfold yx;rw [if_neg g4],c0⟩
theorem uR :CR prog 107 #[k.val] w (.string (te k)):=by
 refine enter func107 rfl ntmps107 rfl<|?_;have c0:aV [] w w:=aV.refl _ _;refine cS ?_;refine WL.go rfl (OX.box rfl rfl rfl fun b1 w1 oY dN=>?_);have s1:=oY.ext;have tI:=oY.ki c0;have c1:=c0.trans s1;refine gN ?_;refine WP .r (PV.fa eU rfl)<|(bL) aT dN.range<|(aZ) (fun g3=>?_) fun g3=>?_
 ·
  simp at g3
  refine(cA) ?_;exact⟨by unfold te;rw [if_pos g3],c1⟩
 simp at g3
 refine(bz) aq dN.range<|(dj) MD (ef (k:=k)) ?_;rintro _ w2 ⟨rfl,s2⟩;have c2:=c1.trans s2;have dN:=dN.ext s2;refine(aZ) (fun g7=>?_) fun g7=>?_
 ·
  refine cS ?_;refine WP .r (PV.fa eU rfl)<|(bL) aT dN.range<|(dj) adg (BP (n:=k.kind)) ?_;rintro _ w3 ⟨rfl,s3⟩;have c3:=c2.trans s3;have dN:=dN.ext s3;refine(cA) ?_;exact⟨by unfold te;rw [if_neg g3,if_pos g7],c3⟩
 refine(cA) ?_;exact⟨by unfold te;rw [if_neg g3,if_neg (by simp [g7])],c2⟩
theorem Hf(hr:il A w a r c ab):CR prog 63 #[.slice a r c,k.val] w (.bool (jt ab k)):=by
 refine enter func63 rfl ntmps63 rfl<|?_;have c0:aV [] w w:=aV.refl _ _;refine cS ?_;refine WL.go rfl (OX.box rfl rfl rfl fun b3 w1 iR dL=>?_);have s1:=iR.ext;have qN:=iR.ki c0;have c1:=c0.trans s1;refine dW ?_;refine WC.oA (t:=4) (v:=.bool (jt ab k)) (aV [] w1) ?_<|?_
 ·
  refine WC.drawn (m:=17) (C:=aV [] w1) (T:=fun _=>aV []) (E:=dr [(1,fun v _=>v=.bool (gO k)),(14,fun v _=>v=.int .i64 (number k)),(15,fun v _=>v=(aN ab (number k)).val)]) (bM (⟨fun _ _ _ _ _ _ _ h=>h,⟨fun _ _ _ _ _ _ _ h=>h,⟨fun _ _ _ _ _ _ _ h=>h,trivial⟩⟩⟩)) mixed (by kernel_rfl) (aV.drew _ _)<|?_;refine DP .r (fun _ hC=>PV.Lq aq (dL.ext hC).range rfl rfl)<|?_;refine DW.e rfl rfl rfl rfl rfl (fun wx hC hF=>OX.call Pm rfl rfl ((kA (k:=k)).mono ?_))<|?_
  ·
   rintro _ wy ⟨rfl,hy⟩;exact⟨_,rfl,hC.trans hy,hy,_,rfl,rfl⟩
  rintro _ wz _ rfl;refine(rS) (fun g7=>?_) (fun g7=>?_)
  ·
   refine DP .r (fun _ hC=>PV.fa eU rfl)<|DP .r (fun _ hC=>PV.ld1 aT (dL.ext hC).range rfl rfl)<|(rS) (fun g11=>?_) (fun g11=>?_)
   ·
    refine DP .r (fun _ hC=>PV.fa eU rfl)<|DP .r (fun _ hC=>PV.ld1 aT (dL.ext hC).range rfl rfl)<|(rS) (fun g16=>?_) (fun g16=>?_)
    ·
     refine(eh) ?_;rintro w2 s2 _;have c2:=c1.trans s2;have dL:=dL.ext s2;exact(iK) (by unfold jt;simp only [g7,g11,g16];first | rfl | simp) s2
    refine nx ?_;refine DP .r (fun _ hC=>PV.Lq aq (dL.ext hC).range rfl rfl)<|?_;refine DW.e rfl rfl rfl rfl rfl (fun wx hC hF=>OX.call S6 rfl rfl ((mq (k:=k)).mono ?_))<|?_
    ·
     rintro _ wy ⟨rfl,hy⟩;exact⟨_,rfl,hC.trans hy,hy,_,rfl,rfl⟩
    rintro _ wz _ rfl;refine DW.e rfl rfl rfl rfl rfl (fun wx hC hF=>OX.call BL rfl rfl ((iI (n:=number k) (hr.ext (c1.trans hC))).mono ?_))<|?_
    ·
     rintro _ wy ⟨rfl,hy⟩;exact⟨_,rfl,hC.trans hy,hy,_,rfl,rfl⟩
    rintro _ wz _ rfl;refine DP .r (fun _ hC=>PV.Lq aq (dL.ext hC).range rfl rfl)<|(eh)<|?_;rintro w2 s2 _;have c2:=c1.trans s2;have dL:=dL.ext s2;refine WP .r (PV.Kp gS (p:=aN ab (number k)) (q:=k) rfl rfl)<|?_;exact(iK) (by unfold jt;simp only [g7,g11,g16];first | rfl | simp) s2
   refine ji ?_;refine DP .r (fun _ hC=>PV.Lq aq (dL.ext hC).range rfl rfl)<|?_;refine DW.e rfl rfl rfl rfl rfl (fun wx hC hF=>OX.call S6 rfl rfl ((mq (k:=k)).mono ?_))<|?_
   ·
    rintro _ wy ⟨rfl,hy⟩;exact⟨_,rfl,hC.trans hy,hy,_,rfl,rfl⟩
   rintro _ wz _ rfl;refine DW.e rfl rfl rfl rfl rfl (fun wx hC hF=>OX.call BL rfl rfl ((iI (n:=number k) (hr.ext (c1.trans hC))).mono ?_))<|?_
   ·
    rintro _ wy ⟨rfl,hy⟩;exact⟨_,rfl,hC.trans hy,hy,_,rfl,rfl⟩
   rintro _ wz _ rfl;refine DP .r (fun _ hC=>PV.Lq aq (dL.ext hC).range rfl rfl)<|(eh)<|?_;rintro w2 s2 _;have c2:=c1.trans s2;have dL:=dL.ext s2;refine WP .r (PV.Kp gS (p:=aN ab (number k)) (q:=k) rfl rfl)<|?_;exact(iK) (by unfold jt;simp only [g7,g11];first | rfl | simp) s2
  refine bf ?_;refine(eh) ?_;rintro w2 s2 _;have c2:=c1.trans s2;have dL:=dL.ext s2;exact(iK) (by unfold jt;simp only [g7];first | rfl | simp) s2
 intro w2 s2;have c2:=c1.trans s2;have dL:=dL.ext s2;refine(cA) ?_;exact⟨rfl,c2⟩
theorem gM{ah:List ByteArray}{C:Nat→Prop}{r2:Nat}(ht:nQ prog A w) (hr:il B w a r c ab) (hl:Strs C w a2 r2 e2 ah) (hb:∀x∈ab,0≤x.c∧x.c≤65535∧x.asks.length≤1000) (hk:gY k):CR prog 75 #[.slice a r c,k.val,.slice a2 r2 e2] w ((aM ab k ah).val):=by
 refine enter func75 rfl ntmps75 rfl<|?_;have c0:aV [] w w:=aV.refl _ _;refine cS ?_;refine WL.go rfl (OX.box rfl rfl rfl fun b4 w1 jK bG=>?_);have s1:=jK.ext;have iw:=jK.ki c0;have c1:=c0.trans s1;refine WL.go rfl (OX.alloc uN rfl fun b6 w2 mD eE=>?_);have s2:=mD.ext;have gC:=mD.ki c1;have ed:b4≠b6:=mD.ne bG.lt;have py:b6≠b4:=Ne.symm ed;have c2:=c1.trans s2;have bG:=bG.ext s2;refine ek ?_;refine WC.mJ (t:=7) (v:=.bool (decide (k.kind=31) || decide (k.kind=32))) (fun wx=>w2=wx) ?_ ?_
 ·
  refine nx ?_;refine WP .r (PV.fa eU rfl)<|(bL) aT bG.range<|(dY) (fun g11=>?_) (fun g11=>?_)
  ·
   exact(dt) (by simp only [g11];first | rfl | simp) rfl
  refine WP .r (PV.fa eU rfl)<|(bL) aT bG.range<|?_;exact(dt) (by simp only [g11];first | rfl | simp) rfl
 rintro _ rfl;refine(aZ) (fun g7=>?_) fun g7=>?_
 ·
  simp at g7
  have hv:aM ab k ah=dw ab k ah:=by unfold aM;rw [if_pos g7]
  refine(bz) aq bG.range<|(dj) acU (JD (k:=k) (ht.ext c2) (hr.ext c2) (hl.ext c2) hb) ?_;rintro _ w3 ⟨rfl,s3⟩;have c3:=c2.trans s3;have bG:=bG.ext s3;have eE:=eE.ext s3;refine WL.go rfl (OX.pG iU eE rfl rfl rfl rfl rfl fun w4 s4 _ eE=>?_);have c4:=c3.own s4 gC;have bG:=bG.cT s4 (by simp [ed]);refine(mz) kx eE.range<|?_;rw [hv];exact⟨rfl,c4⟩
 simp at g7
 have hv:aM ab k ah=⟨true,⟨#[]⟩,da⟩:=by unfold aM;rw [if_neg (by omega)]
 refine nx ?_;refine WC.mJ (t:=20) (v:=.bool (az k || (decide (k.kind<1) || decide (22<k.kind)))) (aV [] w2) ?_<|?_
 ·
  refine(bz) aq bG.range<|(dj) MC (fD (k:=k)) ?_;rintro _ w3 ⟨rfl,s3⟩;have c3:=c2.trans s3;have bG:=bG.ext s3;have eE:=eE.ext s3;refine(dY) (fun g23=>?_) (fun g23=>?_)
  ·
   exact(dt) (by simp only [g23];first | rfl | simp) s3
  refine WP .r (PV.fa eU rfl)<|(bL) aT bG.range<|(dY) (fun iP=>?_) (fun iP=>?_)
  ·
   exact(dt) (by simp only [g23,iP];first | rfl | simp) s3
  refine WP .r (PV.fa eU rfl)<|(bL) aT bG.range<|?_;exact(dt) (by simp only [g23,iP];first | rfl | simp) s3
 intro w3 s3;have c3:=c2.trans s3;have bG:=bG.ext s3;have eE:=eE.ext s3;refine(aZ) (fun g20=>?_) fun g20=>?_
 ·
  skip
  refine cS ?_;refine WP .r (PV.bW (us:=[.bool true,.string ⟨#[]⟩,.int .i64 0,.string ⟨#[]⟩]) pR rfl rfl rfl)<|?_;refine WL.go rfl (OX.pG iU eE rfl rfl rfl rfl rfl fun w4 s4 _ eE=>?_);have c4:=c3.own s4 gC;have bG:=bG.cT s4 (by simp [ed]);refine(mz) kx eE.range<|?_;rw [hv];exact⟨rfl,c4⟩
 exfalso;simp at g20;rcases hk with h | h <;> omega
theorem Aq{rev:Int}(hl:Rd RR.fV 8 Z w a n c l):CR prog 36 #[.slice a n c,.int .i64 rev,k.val] w (.bool (cI l rev k)):=by
 refine enter func36 rfl ntmps36 rfl<|?_;have c0:aV [] w w:=aV.refl _ _;refine cS ?_;refine WL.go rfl (OX.box rfl rfl rfl fun b5 w1 nq gy=>?_);have s1:=nq.ext;have tJ:=nq.ki c0;have c1:=c0.trans s1;refine(bz) aq gy.range<|(dj) tH (fw (k:=k) (hl.ext c1)) ?_;rintro _ w2 ⟨f1,f2,f3,rfl,s2⟩;have c2:=c1.trans s2;have gy:=gy.ext s2;refine dE ?_;refine WL.go rfl (OX.alloc tB rfl fun b7 w3 vq oe=>?_);have s3:=vq.ext;have Et:=vq.ki c2;have nc:b5≠b7:=vq.ne gy.lt;have JL:b7≠b5:=Ne.symm nc;have c3:=c2.trans s3;have gy:=gy.ext s3;refine WL.go rfl (OX.pG iH oe rfl rfl rfl rfl rfl fun w4 s4 _ oe=>?_);have c4:=c3.own s4 Et;have gy:=gy.cT s4 (by simp [nc]);refine dW ?_;refine WC.oA (t:=6) (v:=.bool (cI l rev k)) (aV [] w4) ?_<|?_
 ·
  refine(dY) (fun g16=>?_) (fun g16=>?_)
  ·
   refine(bz) aq gy.range<|(dj) MD (ef (k:=k)) ?_;rintro _ w5 ⟨rfl,s5⟩;have c5:=c4.trans s5;have gy:=gy.ext s5;have oe:=oe.ext s5;refine(dY) (fun g20=>?_) (fun g20=>?_)
   ·
    refine WP .r (PV.fa tE rfl)<|(bL) aT oe.range<|(dY) (fun kz=>?_) (fun kz=>?_)
    ·
     refine WP .r (PV.fa Jx rfl)<|(bL) ft oe.range<|?_;exact(iK) (by unfold cI;simp only [g16,g20,kz];first | rfl | simp) s5
    exact(iK) (by unfold cI;simp only [g16,g20,kz];first | rfl | simp) s5
   exact(iK) (by unfold cI;simp only [g16,g20];first | rfl | simp) s5
  refine bf ?_;exact(iK) (by unfold cI;simp only [g16];first | rfl | simp) (aV.refl _ _)
 intro w5 s5;have c5:=c4.trans s5;have gy:=gy.ext s5;have oe:=oe.ext s5;refine(cA) ?_;exact⟨rfl,c5⟩
theorem JM(hi:Rd RR.aF 4 Z w a1 n1 e1 x.ae) (hr:Rd RR.fV 8 Z w a2 n2 e2 x.ak) {k:Key}:CR prog 23 #[.agg (x.row a1 n1 e1 a2 n2 e2).toArray,k.val] w (.tuple #[.string (uw x k),.bool (nV x k)]):=by
 refine enter func23 rfl ntmps23 rfl<|?_;have c0:aV [] w w:=aV.refl _ _;refine cS ?_;refine WL.go rfl (OX.box rfl rfl rfl fun b2 w1 nz fm=>?_);have s1:=nz.ext;have qM:=nz.ki c0;have c1:=c0.trans s1;refine WL.go rfl (OX.box rfl rfl rfl fun b3 w2 iR dL=>?_);have s2:=iR.ext;have qN:=iR.ki c1;have iy:b2≠b3:=iR.ne fm.lt;have px:b3≠b2:=Ne.symm iy;have c2:=c1.trans s2;have fm:=fm.ext s2;refine(bz) aq dL.range<|(dj) MC (fD (k:=k)) ?_;rintro _ w3 ⟨rfl,s3⟩;have c3:=c2.trans s3;have fm:=fm.ext s3;have dL:=dL.ext s3;refine(aZ) (fun g9=>?_) fun g9=>?_
 ·
  refine(bz) aP fm.range<|(bz) aq dL.range<|(dj) acK (wt (k:=k) (hi.ext c3) (hr.ext c3)) ?_;rintro _ w4 ⟨rfl,s4⟩;have c4:=c3.trans s4;have fm:=fm.ext s4;have dL:=dL.ext s4;refine(FL) ?_;exact⟨by unfold uw nV;rw [if_pos g9,g9];rfl,c4⟩
 refine ek ?_;refine WP .r (PV.fa vZ rfl)<|(bL) eW fm.range<|(bz) aq dL.range<|(dj) tH (fw (k:=k) (hr.ext c3)) ?_;rintro _ w4 ⟨f1,f2,f3,rfl,s4⟩;have c4:=c3.trans s4;have fm:=fm.ext s4;have dL:=dL.ext s4;refine dE ?_;refine WL.go rfl (OX.alloc tB rfl fun b6 w5 mD eE=>?_);have s5:=mD.ext;have gC:=mD.ki c4;have Ar:b2≠b6:=mD.ne fm.lt;have X8:b6≠b2:=Ne.symm Ar;have gp:b3≠b6:=mD.ne dL.lt;have tL:b6≠b3:=Ne.symm gp;have c5:=c4.trans s5;have fm:=fm.ext s5;have dL:=dL.ext s5;refine WL.go rfl (OX.pG iH eE rfl rfl rfl rfl rfl fun w6 s6 _ eE=>?_);have c6:=c5.own s6 gC;have fm:=fm.cT s6 (by simp [Ar]);have dL:=dL.cT s6 (by simp [gp]);refine dW ?_;refine WC.mJ (t:=27) (v:=.bool (nV x k)) (fun wx=>w6=wx) ?_ ?_
 ·
  refine(dY) (fun g21=>?_) (fun g21=>?_)
  ·
   refine WP .r (PV.fa tE rfl)<|(bL) aT eE.range<|?_;refine WP .r (PV.fa n0 rfl)<|(bL) aT fm.range<|?_;exact(dt) (by unfold nV;simp only [g9,g21];first | rfl | simp) rfl
  exact(dt) (by unfold nV;simp only [g9,g21];first | rfl | simp) rfl
 rintro _ rfl;refine(aZ) (fun ye=>?_) fun ye=>?_
 ·
  refine cS ?_;refine WP .r (PV.fa Ab rfl)<|(bL) iG eE.range<|(FL) ?_;exact⟨by unfold uw;rw [if_neg (by simp [g9]),if_pos ye,ye],c6⟩
 refine(FL) ?_;exact⟨by unfold uw;rw [if_neg (by simp [g9]),if_neg (by simp [ye]),ye],c6⟩
theorem Au(hi:Rd RR.aF 4 Z w a1 n1 e1 x.ae) (hr:Rd RR.fV 8 Z w a2 n2 e2 x.ak) {k:Key}{v:ByteArray}{reads:List Key}{a:Option Addr}{n e:Nat}(hk:Rd RR.key 2 Z w a n e reads):Calls prog 102 #[.agg (x.row a1 n1 e1 a2 n2 e2).toArray,k.val,.string v,.slice a n e] w fun en w'=>en=.returned (.agg ((dK x k v reads).row a n e).toArray)∧aV [] w w':=by
 have hlen:=SR.len hk;have hle:=SR.le hk;refine enter func102 rfl ntmps102 rfl<|?_;have c0:aV [] w w:=aV.refl _ _;refine cS ?_;refine WL.go rfl (OX.box rfl rfl rfl fun b4 w1 jK bG=>?_);have s1:=jK.ext;have iw:=jK.ki c0;have c1:=c0.trans s1;refine WL.go rfl (OX.box rfl rfl rfl fun b5 w2 nq gy=>?_);have s2:=nq.ext;have tJ:=nq.ki c1;have mY:b4≠b5:=nq.ne bG.lt;have tK:b5≠b4:=Ne.symm mY;have c2:=c1.trans s2;have bG:=bG.ext s2;refine WL.go rfl (OX.alloc tB rfl fun b8 w3 BN iX=>?_);have s3:=BN.ext;have wi:=BN.ki c2;have ly:b4≠b8:=BN.ne bG.lt;have JE:b8≠b4:=Ne.symm ly;have tP:b5≠b8:=BN.ne gy.lt;have X9:b8≠b5:=Ne.symm tP;have c3:=c2.trans s3;have bG:=bG.ext s3;have gy:=gy.ext s3;refine(bz) aq gy.range<|cS ?_;refine WP .r (PV.fa n0 rfl)<|(bL) aT bG.range<|?_;refine WP .r (PV.fa n0 rfl)<|(bL) aT bG.range<|nx ?_;refine WP .r (PV.jM fP rfl)<|nx ?_;refine WP .r (PV.bW (us:=(Rec.mk k v reads x.ad x.ad (1+(n:Int)) false).row a n e) aco rfl rfl rfl)<|?_;refine WL.go rfl (OX.alloc tB rfl fun b9 w4 Q1 Bv=>?_);have s4:=Q1.ext;have PO:=Q1.ki c3;have tQ:b4≠b9:=Q1.ne bG.lt;have Ya:b9≠b4:=Ne.symm tQ;have tR:b5≠b9:=Q1.ne gy.lt;have Yb:b9≠b5:=Ne.symm tR;have tS:b8≠b9:=Q1.ne iX.lt;have Av:b9≠b8:=Ne.symm tS;have c4:=c3.trans s4;have bG:=bG.ext s4;have gy:=gy.ext s4;have iX:=iX.ext s4;refine WL.go rfl (OX.pG iH Bv rfl rfl rfl rfl rfl fun w5 s5 _ Bv=>?_);have c5:=c4.own s5 PO;have bG:=bG.cT s5 (by simp [tQ]);have gy:=gy.cT s5 (by simp [tR]);have iX:=iX.cT s5 (by simp [tS]);refine ek ?_;refine WP .r (PV.fa vZ rfl)<|(bL) eW bG.range<|(bz) aq gy.range<|(dj) tH (fw (k:=k) (hr.ext c5)) ?_;rintro _ w6 ⟨f1,f2,f3,rfl,s6⟩;have c6:=c5.trans s6;have bG:=bG.ext s6;have gy:=gy.ext s6;have iX:=iX.ext s6;have Bv:=Bv.ext s6;refine dE ?_;refine WL.go rfl (OX.alloc tB rfl fun iJ w7 lz fE=>?_);have s7:=lz.ext;have Eo:=lz.ki c6;have lR:b4≠iJ:=lz.ne bG.lt;have G8:iJ≠b4:=Ne.symm lR;have xB:b5≠iJ:=lz.ne gy.lt;have U0:iJ≠b5:=Ne.symm xB;have lS:b8≠iJ:=lz.ne iX.lt;have qO:iJ≠b8:=Ne.symm lS;have xC:b9≠iJ:=lz.ne Bv.lt;have Hg:iJ≠b9:=Ne.symm xC;have c7:=c6.trans s7;have bG:=bG.ext s7;have gy:=gy.ext s7;have iX:=iX.ext s7;have Bv:=Bv.ext s7;refine WL.go rfl (OX.pG iH fE rfl rfl rfl rfl rfl fun w8 s8 _ fE=>?_);have c8:=c7.own s8 Eo;have bG:=bG.cT s8 (by simp [lR]);have gy:=gy.cT s8 (by simp [xB]);have iX:=iX.cT s8 (by simp [lS]);have Bv:=Bv.cT s8 (by simp [xC]);refine dW ?_;refine WC.mJ (t:=36) (v:=.bool ((aC x.ak k).isSome && decide ((aH x.ak k).value=v))) (fun wx=>w8=wx) ?_ ?_
 ·
  refine(dY) (fun rW=>?_) (fun rW=>?_)
  ·
   refine WP .r (PV.fa Ab rfl)<|(bL) iG fE.range<|?_;exact(dt) (by simp only [rW];first | rfl | simp) rfl
  exact(dt) (by simp only [rW];first | rfl | simp) rfl
 rintro _ rfl;refine(aZ) (fun gT=>?_) fun gT=>?_
 ·
  have hm:dK x k v reads=⟨k,v,reads,(aH x.ak k).changed,x.ad,1+(reads.length:Int),false⟩:=by unfold dK;rw [if_pos gT]
  refine nx ?_;refine WP .r (PV.fa Ac rfl)<|(bL) aT fE.range<|?_;refine WP .r (PV.fa Ac rfl)<|?_;refine WL.go rfl (OX.st Q0 Bv rfl rfl (by first | (simp [nth];done) | exact nns rfl) rfl rfl fun w9 s9 _ Bv=>?_);have c9:=c8.own s9 PO;have bG:=bG.cT s9 (by simp [tQ]);have gy:=gy.cT s9 (by simp [tR]);have iX:=iX.cT s9 (by simp [tS]);have fE:=fE.cT s9 (by simp [Hg]);refine(bz) ey Bv.range<|?_;refine WL.go rfl (OX.pG iH iX rfl rfl rfl rfl rfl fun kB ob _ iX=>?_);have Pz:=c9.own ob wi;have bG:=bG.cT ob (by simp [ly]);have gy:=gy.cT ob (by simp [tP]);have Bv:=Bv.cT ob (by simp [Av]);have fE:=fE.cT ob (by simp [qO]);refine(mz) ey iX.range<|?_;exact⟨by rw [hm,← hlen] <;> rfl,Pz⟩
 have hm:dK x k v reads=⟨k,v,reads,x.ad,x.ad,1+(reads.length:Int),false⟩:=by unfold dK;rw [if_neg (by simp [gT])]
 refine(bz) ey Bv.range<|?_;refine WL.go rfl (OX.pG iH iX rfl rfl rfl rfl rfl fun w9 s9 _ iX=>?_);have c9:=c8.own s9 wi;have bG:=bG.cT s9 (by simp [ly]);have gy:=gy.cT s9 (by simp [tP]);have Bv:=Bv.cT s9 (by simp [Av]);have fE:=fE.cT s9 (by simp [qO]);refine(mz) ey iX.range<|?_;exact⟨by rw [hm,← hlen] <;> rfl,c9⟩
theorem oj{goals:List Key}{ar:Option Addr}(hu:il A w ar r c ab) (hi:Rd RR.aF 4 Z w a1 n1 e1 x.ae) (hr:Rd RR.fV 8 Z w a2 n2 e2 x.ak) (hg:Dx B w ag g eg goals):CR prog 31 #[.slice ar r c,.agg (x.row a1 n1 e1 a2 n2 e2).toArray,.slice ag g eg] w (.int .i64 (ia ab x goals)):=by
 have hlen:=SR.len hg;have hle:=SR.le hg;refine enter func31 rfl ntmps31 rfl<|?_;have c0:aV [] w w:=aV.refl _ _;refine cS ?_;refine WL.go rfl (OX.box rfl rfl rfl fun b4 w1 jK bG=>?_);have s1:=jK.ext;have iw:=jK.ki c0;have c1:=c0.trans s1;refine(dj) aiW (G9 (hu.ext c1)) ?_;rintro _ w2 ⟨bv,rfl,hbv,s2⟩;have c2:=c1.trans s2;have bG:=bG.ext s2;refine(aZ) (fun g9=>?_) fun g9=>?_
 ·
  simp at g9
  have hE:ia ab x goals=41:=by unfold ia;rw [if_pos (by rw [← hbv];simp [g9])]
  refine(cA) ?_;exact⟨by rw [hE],c2⟩
 simp at g9
 have hR:=hbv.1 g9;refine(bz) aP bG.range<|(dj) XN (pz (hi.ext c2) (hr.ext c2)) ?_;rintro _ w3 ⟨bv2,rfl,adY,s3⟩;have c3:=c2.trans s3;have bG:=bG.ext s3;refine(aZ) (fun g13=>?_) fun g13=>?_
 ·
  simp at g13
  have hE:ia ab x goals=42:=by unfold ia;rw [if_neg (by simpa using hR),if_pos (by rw [← adY];simp [g13])]
  refine(cA) ?_;exact⟨by rw [hE],c3⟩
 simp at g13
 have hB:=adY.1 g13;refine dE ?_;refine WP .r (PV.jM fP rfl)<|(aZ) (fun g17=>?_) fun g17=>?_
 ·
  simp at g17
  have hE:ia ab x goals=3:=by unfold ia;rw [if_neg (by simpa using hR),if_neg (by simpa using hB),if_pos (by omega)]
  refine(cA) ?_;exact⟨by rw [hE],c3⟩
 simp at g17
 have hE:ia ab x goals=if goals.all (jt ab) then 0 else 40:=by unfold ia;rw [if_neg (by simpa using hR),if_neg (by simpa using hB),if_neg (by omega)]
 refine gN ?_;refine WP .r (PV.jM fP rfl)<|dW ?_;refine WC.loop (σ:=Nat) (eJ:=fun i=>[(0,.slice ar r c),(21,.slice ag g eg),(22,.int .i64 (g:Int)),(23,.int .i64 (i:Int))]) (I:=fun i w'=>aV [] w w'∧i≤g∧∀j y,j<i→goals[j]?=some y→jt ab y=true) (μ:=fun i=>g - i) 0 Sub.t ⟨c3,by omega,fun j y h=>by omega⟩ ?_;rintro i w4 ⟨c4,iB,cZ⟩;refine(aZ) (fun g24=>?_) fun g24=>?_
 ·
  simp at g24
  have cV:i<goals.length:=by omega
  obtain⟨Ta,Tb,Tc,oa,_,JH,js,_⟩:=SR.at hg (ao cV);subst JH;refine ek ?_;have js:=bH js c4 (by simp);refine nx ?_;refine WP .r (PV.fI fP oa rfl rfl (by omega))<|(bz) aq js<|?_;refine WL.go rfl (OX.alloc Jv rfl fun b8 w5 BN iX=>?_);have s5:=BN.ext;have wi:=BN.ki c4;have c5:=c4.trans s5;refine WL.go rfl (OX.pG jx iX rfl rfl rfl rfl rfl fun w6 s6 _ iX=>?_);have c6:=c5.own s6 wi;refine(bz) aq iX.range<|(dj) acL (Hf (k:=goals[i]) (hu.ext c6)) ?_;rintro _ w7 ⟨rfl,s7⟩;have c7:=c6.trans s7;have iX:=iX.ext s7;refine(aZ) (fun lQ=>?_) fun lQ=>?_
  ·
   simp at lQ
   have hE:ia ab x goals=40:=by rw [hE,if_neg];rw [List.all_eq_true];intro h;have:=h _ (List.getElem_mem cV);rw [lQ] at this;cases this
   refine(cA) ?_;exact⟨by rw [hE],c7⟩
  simp at lQ
  refine gN ?_;refine EX.again (i+1) (Sub.k2 rfl rfl<|Sub.cons rfl<|Sub.kO rfl (by simp)<|Sub.nil) ⟨c7,by omega,dG (P:=fun _ y=>jt ab y=true) cV cZ lQ⟩ (by omega)
 simp at g24
 have hE:ia ab x goals=0:=by rw [hE,if_pos];rw [List.all_eq_true];intro y hy;obtain⟨j,hj,rfl⟩:=List.mem_iff_getElem.1 hy;exact cZ j _ (by omega) (ao hj)
 refine(cA) ?_;exact⟨by rw [hE],c4⟩
theorem uS{group:List Key}(bJ:St w M Z w []) (hl:Rd RR.fV 8 Z w a n c l) (hg:Rd RR.key 2 Z w ag g eg group) (hb:∀i,(((group.take i).flatMap fun m=>dZ group m (aH l m).reads)).length≤100000000):Calls prog 97 #[.slice a n c,.slice ag g eg] w fun e w'=>∃a' n' c' Z',e=.returned (.slice a' n' c')∧cN w.heap.size Z Z'∧St w M Z' w' [As.os RR.LN 126 4 a' n' c' (bP l group)]:=by
 have hlen:=hg.len;have hle:=hg.le;refine enter func97 rfl ntmps97 rfl<|?_;have bd:=bJ;have st1:=bd.fr hl;have st2:=st1.fr hg;have aW:=st2.eP RR.LN 126 4;refine bf ?_;refine gN ?_;refine WC.jC (σ:=Nat × (Nat→Prop) × (List si) × (Option Addr) × Nat × Nat) (eJ:=fun(i,Z1,acc,cF,cm,cG)=>[(0,.slice a n c),(1,.slice ag g eg),(5,.slice cF cm cG),(12,.slice ag g eg),(13,.int .i64 (g:Int)),(14,.int .i64 (i:Int))]) (F:=fun(i,Z1,acc,cF,cm,cG)=>[As.os RR.LN 126 4 cF cm cG (acc)]) (I:=fun(i,Z1,acc,cF,cm,cG)=>(i≤g)∧(cN w.heap.size Z Z1)∧(acc=(group.take i).flatMap fun m=>dZ group m (aH l m).reads)∧True) (μ:=fun(i,Z1,acc,cF,cm,cG)=>g - i) (Zf:=fun(i,Z1,acc,cF,cm,cG)=>Z1) (0,Z,[],none,0,0) (aW) Sub.t (⟨by omega,cN.refl _ _,by simp,trivial⟩)<|?_;rintro⟨i,Z1,acc,cF,cm,cG⟩ w1 ba ⟨hi,hZ,eu,_⟩;simp only [CA,NA] at ba hi hZ eu ⊢;refine(aZ) (fun g15=>?_) fun g15=>?_
 ·
  simp at g15
  have cV:i<group.length:=by omega
  refine ek ?_;obtain⟨ik,kf,jE,aU,fX,bD,cP,dM⟩:=Rd.at (As.gr ba.g1) cV;have bD:=RR.cy bD;subst bD;have bw:=ba.fg dM cP;refine nx ?_;refine WP .r (PV.fI fP aU rfl rfl (by omega))<|(bz) aq (As.nR bw.g0)<|(gu) bw fun b7 w2 vq oe bj=>?_;refine(dD) jx bj fun w3 jY j7 bX=>?_;refine(bz) aq bX.b0<|?_;have bV:=bX;refine(dj) tH (j8 (k:=group[i]) bV.e0 (As.gr bV.g4)) ?_;rintro _ w4 ⟨f1,f2,f3,rfl,hq4,iY⟩;have cq:=St.lr bV iY;have qk:=St.cH iY;have hsz:=bV.size;have aL:=cq.bN (by omega);have lA:=hZ.trans (cN.fh (F:=fun x=>x∈aI f1) qk) hsz;have hqn:=((As.gr aL.g0)).len;refine(gu) aL fun b8 w5 BN iX aO=>?_;refine(dD) iH aO fun w6 sC nt aS=>?_;refine(bL) gK aS.b0<|ek ?_;refine WC.ct (σ:=Nat × (List si) × (Option Addr) × Nat × Nat) (eJ:=fun(j,jo,cF,cm,cG)=>[(0,.slice a n c),(1,.slice ag g eg),(5,.slice cF cm cG),(7,.pointer (some ⟨b7,0,none⟩)),(12,.slice ag g eg),(13,.int .i64 (g:Int)),(14,.int .i64 (i:Int)),(25,.slice f1 f2 f3),(26,.int .i64 (f2:Int)),(27,.int .i64 (j:Int))]) (F:=fun(j,jo,cF,cm,cG)=>[As.os RR.LN 126 4 cF cm cG (jo)]) (I:=fun(j,jo,cF,cm,cG)=>(j≤f2)∧(jo=acc++dZ group group[i] ((aH l group[i]).reads.take j))∧True) (μ:=fun(j,jo,cF,cm,cG)=>f2 - j) (0,acc,cF,cm,cG) (aS.p4) Sub.t (⟨by omega,by simp [dZ],trivial⟩)<|?_;rintro⟨j,jo,cF,cm,cG⟩ w7 bE ⟨hj,qQ,_⟩;simp only [CA,NA] at bE hj qQ ⊢;have l4:=((As.gs bE.g0)).len;have Li:=hb i;rw [← eu] at Li;have BM:=mh group group[i] ((aH l group[i]).reads.take j)
  have htl:jo.length≤100100000:=by rw [qQ,List.length_append];rw [List.length_take] at BM;omega
  refine(aZ) (fun iP=>?_) fun iP=>?_
  ·
   simp at iP
   have kR:j<(aH l group[i]).reads.length:=by omega
   refine ek ?_;obtain⟨wv,JN,Hh,fQ,xD,gB,kD,oP⟩:=Rd.at (As.gr bE.g2) kR;have gB:=RR.cy gB;subst gB;have bs:=bE.fg oP kD;refine nx ?_;refine WP .r (PV.fI fP fQ rfl rfl (by omega))<|(bz) aq (As.nR bs.g0)<|(gu) bs fun xQ w8 ad1 ad2 aY=>?_;refine(dD) jx aY fun w9 BO ry aQ=>?_;refine(bz) aq aQ.b0<|(iz) (wg (k:=(aH l group[i]).reads[j]) (As.gr aQ.g7)) aQ fun kB ob bF=>?_;refine(aZ) (fun yb=>?_) fun yb=>?_
   ·
    simp at yb
    have Mv:=lB (group:=group) (m:=group[i]) kR;rw [if_neg yb] at Mv;refine(bz) aq bF.b5<|(bz) aq bF.b0<|?_;refine WP .r (PV.bW (us:=(si.mk group[i] (aH l group[i]).reads[j]).cells) Ux rfl rfl rfl)<|?_;refine WL.go rfl (OX.aR (us:=(si.mk group[i] (aH l group[i]).reads[j]).cells) K7 rfl rfl rfl rfl fun b39 kC ajC ajD=>?_);have bK:=bF.eF ajC ajD;refine WL.ap rfl rfl bK.p3 (SR.ew (A:=fun _=>True) (x:=si.mk group[i] (aH l group[i]).reads[j]) (As.gb bK.g0) trivial rfl (by simp [si.cells,Value.oneCell']) rfl) fun a40 ajE qb arb arc br=>?_;refine kQ ?_;refine fH (j+1,_,a40,(cm+1),ajE) ⟨br.p1.drop.p1.drop.p1.drop,⟨by omega,by rw [Mv,qQ,List.append_assoc],trivial⟩⟩
   simp at yb
   have Mv:=lB (group:=group) (m:=group[i]) kR;rw [if_pos yb] at Mv;refine gN ?_;refine fH (j+1,_,cF,cm,cG) ⟨bF.drop.drop,⟨by omega,by rw [Mv,qQ],trivial⟩⟩
  simp at iP
  have cZ:(aH l group[i]).reads.take j=(aH l group[i]).reads:=List.take_of_length_le (by omega);refine nT ?_;refine fH (i+1,_,jo,cF,cm,cG) ⟨bE.p6.p6.p2.k3,⟨by omega,lA,by rw [qQ,cZ,eu,List.take_succ_eq_append_getElem cV];simp only [List.flatMap_append,List.flatMap_cons,List.flatMap_nil,List.append_nil],trivial⟩⟩
 simp at g15
 have cZ:group.take i=group:=List.take_of_length_le (by omega);rw [cZ] at eu;subst eu;refine(cA) ?_;exact⟨_,_,_,_,rfl,hZ,ba.p1.drop.p1.drop⟩
set_option maxHeartbeats 400000
theorem Aw{l:List et}(hl:Rd RR.pX 6 Z w a r c l):CR prog 144 #[.slice a r c,k.val] w (.bool (kI l k)):=by
 have hle:=SR.le hl;have hlen:=SR.len hl;refine enter func144 rfl ntmps144 rfl<|?_;have c0:aV [] w w:=aV.refl _ _;refine cS ?_;refine WL.go rfl (OX.box rfl rfl rfl fun b3 w1 iR dL=>?_);have s1:=iR.ext;have qN:=iR.ki c0;have c1:=c0.trans s1;refine gN ?_;refine WP .r (PV.jM xt rfl)<|dW ?_;refine WC.loop (σ:=Nat) (eJ:=fun i=>[(3,.pointer (some ⟨b3,0,none⟩)),(7,.slice a r c),(8,.int .i64 (r:Int)),(9,.int .i64 (i:Int))]) (I:=fun i w'=>aV [] w w'∧cW w' b3 39 [.int .i64 k.kind,.string k.text]∧i≤r∧∀j y,j<i→l[j]?=some y→decide (et.key y=k)=false) (μ:=fun i=>r - i) 0 Sub.t ⟨c1,dL,by omega,fun j y h=>by omega⟩ ?_;rintro i w2 ⟨c2,dL,hi,gV⟩;refine(aZ) (fun g10=>?_) fun g10=>?_
 ·
  simp at g10
  have cV:i<l.length:=by omega
  refine ek ?_;obtain⟨Ta,Tb,Tc,oa,_,⟨q1,q2,q3,q4,q5,q6,rfl,_⟩,js,_⟩:=SR.at hl (ao cV);have js:=bH js c2 (by simp);refine nx ?_;refine WP .r (PV.fI xt oa rfl rfl (by omega))<|(bz) vX js<|?_;refine WL.go rfl (OX.alloc UF rfl fun b6 w3 mD eE=>?_);have s3:=mD.ext;have gC:=mD.ki c2;have gp:b3≠b6:=mD.ne dL.lt;have tL:b6≠b3:=Ne.symm gp;have c3:=c2.trans s3;have dL:=dL.ext s3;refine WL.go rfl (OX.pG Lc eE rfl rfl rfl rfl rfl fun w4 s4 _ eE=>?_);have c4:=c3.own s4 gC;have dL:=dL.cT s4 (by simp [gp]);refine dW ?_;refine WP .r (PV.fa Lf rfl)<|(j3) aq eE.range<|(bz) aq dL.range<|?_;refine WP .r (PV.Kp gS (p:=l[i].key) (q:=k) rfl rfl)<|(aZ) (fun g16=>?_) fun g16=>?_
  ·
   have hv:kI l k=true:=List.any_eq_true.2 ⟨_,List.getElem_mem cV,g16⟩;refine(cA) ?_;exact⟨by rw [hv],c4⟩
  skip
  refine gN ?_;refine EX.again (i+1) (Sub.k2 rfl rfl<|Sub.cons rfl<|Sub.kO rfl (by simp)<|Sub.nil) ⟨c4,dL,by omega,dG (P:=fun _ (y:et)=>decide (y.key=k)=false) cV gV g16⟩ (by omega)
 simp at g10
 have hv:kI l k=false:=List.any_eq_false.2 fun y hy=>by obtain⟨j,hj,rfl⟩:=List.mem_iff_getElem.1 hy;simpa using gV j _ (by omega) (ao hj)
 refine(cA) ?_;exact⟨by rw [hv],c2⟩
theorem uT(hi:Rd RR.aF 4 Z w a1 n1 e1 x.ae) (hr:Rd RR.fV 8 Z w a2 n2 e2 x.ak) {l:List et}{k:Key}{a:Option Addr}{n c:Nat}(hl:Rd RR.pX 6 Z w a n c l):CR prog 113 #[.agg (x.row a1 n1 e1 a2 n2 e2).toArray,.slice a n c,k.val] w (.bool (gw x l k)):=by
 refine enter func113 rfl ntmps113 rfl<|?_;have c0:aV [] w w:=aV.refl _ _;refine cS ?_;refine WL.go rfl (OX.box rfl rfl rfl fun b3 w1 iR dL=>?_);have s1:=iR.ext;have qN:=iR.ki c0;have c1:=c0.trans s1;refine WL.go rfl (OX.box rfl rfl rfl fun b5 w2 nq gy=>?_);have s2:=nq.ext;have tJ:=nq.ki c1;have JO:b3≠b5:=nq.ne dL.lt;have Yc:b5≠b3:=Ne.symm JO;have c2:=c1.trans s2;have dL:=dL.ext s2;refine ek ?_;refine WC.mJ (t:=15) (v:=.bool (az k || kI l k)) (aV [] w2) ?_<|?_
 ·
  refine(bz) aq gy.range<|(dj) MC (fD (k:=k)) ?_;rintro _ w3 ⟨rfl,s3⟩;have c3:=c2.trans s3;have dL:=dL.ext s3;have gy:=gy.ext s3;refine(dY) (fun g11=>?_) (fun g11=>?_)
  ·
   exact(dt) (by simp only [g11];first | rfl | simp) s3
  refine(bz) aq gy.range<|(dj) Pp (Aw (k:=k) (hl.ext c3)) ?_;rintro _ w4 ⟨rfl,s4⟩;have c4:=c3.trans s4;have dL:=dL.ext s4;have gy:=gy.ext s4;exact(dt) (by simp only [g11];first | rfl | simp) (s3.trans s4)
 intro w3 s3;have c3:=c2.trans s3;have dL:=dL.ext s3;have gy:=gy.ext s3;refine(aZ) (fun g15=>?_) fun g15=>?_
 ·
  have hv:gw x l k=false:=by unfold gw;rw [g15];rfl
  refine(cA) ?_;exact⟨by rw [hv],c3⟩
 have hv:gw x l k=(!(aC x.ak k).isSome || decide ((aH x.ak k).ax≠x.ad)):=by unfold gw;rw [g15];rfl
 refine dW ?_;refine WP .r (PV.fa vZ rfl)<|(bL) eW dL.range<|(bz) aq gy.range<|(dj) tH (fw (k:=k) (hr.ext c3)) ?_;rintro _ w4 ⟨f1,f2,f3,rfl,s4⟩;have c4:=c3.trans s4;have dL:=dL.ext s4;have gy:=gy.ext s4;refine dE ?_;refine WL.go rfl (OX.alloc tB rfl fun b7 w5 vq oe=>?_);have s5:=vq.ext;have Et:=vq.ki c4;have Ax:b3≠b7:=vq.ne dL.lt;have Yd:b7≠b3:=Ne.symm Ax;have nc:b5≠b7:=vq.ne gy.lt;have JL:b7≠b5:=Ne.symm nc;have c5:=c4.trans s5;have dL:=dL.ext s5;have gy:=gy.ext s5;refine WL.go rfl (OX.pG iH oe rfl rfl rfl rfl rfl fun w6 s6 _ oe=>?_);have c6:=c5.own s6 Et;have dL:=dL.cT s6 (by simp [Ax]);have gy:=gy.cT s6 (by simp [nc]);refine dW ?_;refine WC.oA (t:=6) (v:=.bool (gw x l k)) (fun wx=>w6=wx) ?_ ?_
 ·
  refine(dY) (fun fb=>?_) (fun fb=>?_)
  ·
   exact(iK) (by rw [hv];simp only [fb];first | rfl | simp) rfl
  refine WP .r (PV.fa tE rfl)<|(bL) aT oe.range<|?_;refine WP .r (PV.fa n0 rfl)<|(bL) aT dL.range<|?_;exact(iK) (by rw [hv];simp only [fb];first | rfl | simp) rfl
 rintro _ rfl;refine(cA) ?_;exact⟨rfl,c6⟩
theorem Ay(hi:Rd RR.aF 4 Z w a1 n1 e1 x.ae) (hr:Rd RR.fV 8 Z w a2 n2 e2 x.ak) {l others:List et}{k:Key}{a a3:Option Addr}{n c n3 e3:Nat}(hl:Rd RR.pX 6 Z w a n c l) (ho:Rd RR.pX 6 Z w a3 n3 e3 others):CR prog 145 #[.agg (x.row a1 n1 e1 a2 n2 e2).toArray,.slice a n c,.slice a3 n3 e3,k.val] w (.int .i64 (dJ x l others k)):=by
 refine enter func145 rfl ntmps145 rfl<|?_;have c0:aV [] w w:=aV.refl _ _;refine cS ?_;refine WL.go rfl (OX.box rfl rfl rfl fun b4 w1 jK bG=>?_);have s1:=jK.ext;have iw:=jK.ki c0;have c1:=c0.trans s1;refine WL.go rfl (OX.box rfl rfl rfl fun b7 w2 vq oe=>?_);have s2:=vq.ext;have Et:=vq.ki c1;have JP:b4≠b7:=vq.ne bG.lt;have Ye:b7≠b4:=Ne.symm JP;have c2:=c1.trans s2;have bG:=bG.ext s2;refine ji ?_;refine WC.mJ (t:=9) (v:=.bool (!aA k && kI l k)) (aV [] w2) ?_<|?_
 ·
  refine(bz) aq oe.range<|(dj) MD (ef (k:=k)) ?_;rintro _ w3 ⟨rfl,s3⟩;have c3:=c2.trans s3;have bG:=bG.ext s3;have oe:=oe.ext s3;refine(dY) (fun g13=>?_) (fun g13=>?_)
  ·
   refine(bz) aq oe.range<|(dj) Pp (Aw (k:=k) (hl.ext c3)) ?_;rintro _ w4 ⟨rfl,s4⟩;have c4:=c3.trans s4;have bG:=bG.ext s4;have oe:=oe.ext s4;exact(dt) (by simp only [g13];first | rfl | simp) (s3.trans s4)
  exact(dt) (by simp only [g13];first | rfl | simp) s3
 intro w3 s3;have c3:=c2.trans s3;have bG:=bG.ext s3;have oe:=oe.ext s3;refine(aZ) (fun g9=>?_) fun g9=>?_
 ·
  skip
  refine(cA) ?_;exact⟨by unfold dJ;rw [if_pos g9],c3⟩
 have g9:¬((!aA k && kI l k)=true):=by simp [g9]
 refine(bz) aP bG.range<|(bz) aq oe.range<|(dj) UN (uT (k:=k) (hi.ext c3) (hr.ext c3) (hl.ext c3)) ?_;rintro _ w4 ⟨rfl,s4⟩;have c4:=c3.trans s4;have bG:=bG.ext s4;have oe:=oe.ext s4;refine(aZ) (fun g18=>?_) fun g18=>?_
 ·
  skip
  refine(cA) ?_;exact⟨by unfold dJ;rw [if_neg g9,if_pos g18],c4⟩
 have g18:¬((!gw x l k)=true):=by simp [g18]
 refine(bz) aq oe.range<|(dj) Pp (Aw (k:=k) (ho.ext c4)) ?_;rintro _ w5 ⟨rfl,s5⟩;have c5:=c4.trans s5;have bG:=bG.ext s5;have oe:=oe.ext s5;refine(aZ) (fun g24=>?_) fun g24=>?_
 ·
  skip
  refine(cA) ?_;exact⟨by unfold dJ;rw [if_neg g9,if_neg g18,if_pos g24],c5⟩
 have g24:¬((!kI others k)=true):=by simp [g24]
 refine(bz) aq oe.range<|(dj) MD (ef (k:=k)) ?_;rintro _ w6 ⟨rfl,s6⟩;have c6:=c5.trans s6;have bG:=bG.ext s6;have oe:=oe.ext s6;refine(aZ) (fun qj=>?_) fun qj=>?_
 ·
  skip
  refine(cA) ?_;exact⟨by unfold dJ;rw [if_neg g9,if_neg g18,if_neg g24,if_pos qj],c6⟩
 refine(cA) ?_;exact⟨by unfold dJ;rw [if_neg g9,if_neg g18,if_neg g24,if_neg (by simp [qj])],c6⟩
theorem yf{l:List aG}(bJ:St w M Z w []) (hl:Rd RR.gQ 4 Z w a n c l) (h6:l.length≤1000000) (h4:∀x∈l,x.asks.length≤1000):Calls prog 110 #[.slice a n c] w fun e w'=>∃a' n' c' Z',e=.returned (.slice a' n' c')∧cN w.heap.size Z Z'∧St w M Z' w' [As.os RR.gQ 59 4 a' n' c' l]:=by
 have hlen:=hl.len;have hle:=hl.le;refine enter func110 rfl ntmps110 rfl<|?_;have bd:=bJ;have st1:=bd.fr hl;have st2:=st1.eP RR.gQ 59 4;refine bf ?_;refine gN ?_;refine WC.jC (σ:=Nat × (Nat→Prop) × (List aG) × (Option Addr) × Nat × Nat) (eJ:=fun(i,Z1,acc,cF,cm,cG)=>[(3,.slice cF cm cG),(6,.slice a n c),(7,.int .i64 (n:Int)),(8,.int .i64 (i:Int))]) (F:=fun(i,Z1,acc,cF,cm,cG)=>[As.os RR.gQ 59 4 cF cm cG (acc)]) (I:=fun(i,Z1,acc,cF,cm,cG)=>(i≤n)∧(cN w.heap.size Z Z1)∧(acc=l.take i)∧True) (μ:=fun(i,Z1,acc,cF,cm,cG)=>n - i) (Zf:=fun(i,Z1,acc,cF,cm,cG)=>Z1) (0,Z,[],none,0,0) (st2) Sub.t (⟨by omega,cN.refl _ _,by simp,trivial⟩)<|?_;rintro⟨i,Z1,acc,cF,cm,cG⟩ w1 aW ⟨hi,hZ,eu,_⟩;simp only [CA,NA] at aW hi hZ eu ⊢;have l4:=((As.gs aW.g0)).len
 have BM:acc.length≤1000000:=by rw [eu,List.length_take];omega
 refine(aZ) (fun g9=>?_) fun g9=>?_
 ·
  simp at g9
  have cV:i<l.length:=by omega
  refine ek ?_;obtain⟨ik,kf,jE,aU,fX,bD,cP,dM⟩:=Rd.at (As.gr aW.g1) cV;obtain⟨q1,q2,q3,rfl,ad3⟩:=bD;have ba:=aW.fg dM cP;have ad4:Rd RR.ask 4 _ _ q1 q2 q3 l[i].asks:=ad3;have bw:=ba.fr (ad4);have qP:=h4 _ (List.getElem_mem cV);have hqn:=SR.len ad4;have bj:=bw.eP RR.ask 61 4;refine nx ?_;refine WP .r (PV.fI lq aU rfl rfl (by omega))<|(bz) xo (As.nR bj.g2)<|(gu) bj fun b5 w2 nq gy bX=>?_;refine(dD) Jt bX fun w3 jY j7 bV=>?_;refine(bL) mW bV.b0<|?_;have hsz:=bV.size;refine WL.ap rfl rfl bV.p1 ((As.gr bV.g2)) fun PQ JQ w4 ML ad5 cq=>?_;refine nx ?_;refine WL.s1 cq.p1 fun w5 _ aL=>?_;refine cS ?_;have aO:=aL.p1.bN (by simp;omega)
  have qk:∀x∈aI PQ,w.heap.size≤x:=fun x hx=>by rcases ML x hx with h | h;simp [aI] at h;omega
  have lA:=hZ.trans (cN.fh (F:=fun x=>x∈aI PQ) qk) (Nat.le_refl _);refine(bz) xo aO.b1<|?_;refine WL.go rfl (OX.aR (us:=l[i].row _ _ _) Pa rfl rfl rfl rfl fun b18 w6 Yf Yg=>?_);have aS:=aO.eF Yf Yg;refine WL.ap rfl rfl aS.p5 (SR.ew (A:=fun _=>True) (x:=l[i]) (As.gb aS.g0) trivial rfl (aG.one _ _ _ _) ⟨_,_,_,rfl,(As.gr aS.g1)⟩) fun a19 Yh w7 ajG ajH bE=>?_;refine kQ ?_;refine fH (i+1,_,acc++[l[i]],a19,(cm+1),Yh) ⟨bE.p6.p1.k2,⟨by omega,lA,by rw [eu,List.take_succ_eq_append_getElem cV],trivial⟩⟩
 simp at g9
 have cZ:acc=l:=by rw [eu];exact List.take_of_length_le (by omega)
 subst cZ;refine(cA) ?_;exact⟨_,_,_,_,rfl,hZ,aW.p1.drop⟩
end Go.Rc

