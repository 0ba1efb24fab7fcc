/- Walks over the program, part WH. Conditions: as each theorem says. -/
import Derived.Test.YtpoiojafnnaccaaGreatDoorTFacts
import Derived.Test.YtpoiojafnnaccaaGreatDoorTWB
import Derived.Test.YtpoiojafnnaccaaGreatDoorTWD
import Derived.Test.YtpoiojafnnaccaaGreatDoorTWF
import Derived.Test.YtpoiojafnnaccaaGreatDoorTBe
set_option linter.all false
namespace Go.Rc
open Go Go.Proofs Go.Proofs.Tryz
variable {n r c e2 n1 e1 n2 g eg:Nat}{w:World}{k:Key}{ab:List aJ}{A B Z M:Nat→Prop}{a a2 a1 ag:Option Addr}{l:List Rec}{x:dT}
set_option maxHeartbeats 400000
theorem C6{n:Int} :CR prog 314 #[.int .i64 n] w (.string (zH n)):=by
 refine enter func314 rfl ntmps314 rfl<|?_;have c0:bm [] w w:=bm.refl _ _;refine(br) (fun g4=>?_) fun g4=>?_
 ·
  simp at g4
  refine(cj) ?_;exact⟨by unfold zH;rw [if_pos g4],c0⟩
 simp at g4
 refine(cj) ?_;exact⟨by unfold zH;rw [if_neg g4],c0⟩
theorem vT :CR prog 226 #[k.val] w (.string (uk k)):=by
 refine enter func226 rfl ntmps226 rfl<|?_;have c0:bm [] w w:=bm.refl _ _;refine cV ?_;refine WL.go rfl (OX.box rfl rfl rfl fun b1 w1 pR dO=>?_);have s1:=pR.ext;have uM:=pR.kK c0;have c1:=c0.trans s1;refine gp ?_;refine WP .r (PV.fa fk rfl)<|(bO) aZ dO.range<|(br) (fun g3=>?_) fun g3=>?_
 ·
  simp at g3
  refine(cj) ?_;exact⟨by unfold uk;rw [if_pos g3],c1⟩
 simp at g3
 refine(bA) av dO.range<|(cW) N3 (eA (k:=k)) ?_;rintro _ w2 ⟨rfl,s2⟩;have c2:=c1.trans s2;have dO:=dO.ext s2;refine(br) (fun g7=>?_) fun g7=>?_
 ·
  refine cV ?_;refine WP .r (PV.fa fk rfl)<|(bO) aZ dO.range<|(cW) ae2 (C6 (n:=k.kind)) ?_;rintro _ w3 ⟨rfl,s3⟩;have c3:=c2.trans s3;have dO:=dO.ext s3;refine(cj) ?_;exact⟨by unfold uk;rw [if_neg g3,if_pos g7],c3⟩
 refine(cj) ?_;exact⟨by unfold uk;rw [if_neg g3,if_neg (by simp [g7])],c2⟩
theorem Iv(hr:iB A w a r c ab):CR prog 72 #[.slice a r c,k.val] w (.bool (jR ab k)):=by
 refine enter func72 rfl ntmps72 rfl<|?_;have c0:bm [] w w:=bm.refl _ _;refine cV ?_;refine WL.go rfl (OX.box rfl rfl rfl fun b3 w1 gO dB=>?_);have s1:=gO.ext;have sn:=gO.kK c0;have c1:=c0.trans s1;refine dC ?_;refine WC.po (t:=4) (v:=.bool (jR ab k)) (bm [] w1) ?_<|?_
 ·
  refine WC.drawn (m:=17) (C:=bm [] w1) (T:=fun _=>bm []) (E:=dx [(1,fun v _=>v=.bool (ig k)),(14,fun v _=>v=.int .i64 (number k)),(15,fun v _=>v=(aS ab (number k)).val)]) (bS (⟨fun _ _ _ _ _ _ _ h=>h,⟨fun _ _ _ _ _ _ _ h=>h,⟨fun _ _ _ _ _ _ _ h=>h,trivial⟩⟩⟩)) mixed (by kernel_rfl) (bm.drew _ _)<|?_;refine DP .r (fun _ hC=>PV.MS av (dB.ext hC).range rfl rfl)<|?_;refine DW.e rfl rfl rfl rfl rfl (fun wx hC hF=>OX.call Qx rfl rfl ((kY (k:=k)).mono ?_))<|?_
  ·
   rintro _ wy ⟨rfl,hy⟩;exact⟨_,rfl,hC.trans hy,hy,_,rfl,rfl⟩
  rintro _ wz _ rfl;refine(tm) (fun g7=>?_) (fun g7=>?_)
  ·
   refine DP .r (fun _ hC=>PV.fa fk rfl)<|DP .r (fun _ hC=>PV.ld1 aZ (dB.ext hC).range rfl rfl)<|(tm) (fun g11=>?_) (fun g11=>?_)
   ·
    refine DP .r (fun _ hC=>PV.fa fk rfl)<|DP .r (fun _ hC=>PV.ld1 aZ (dB.ext hC).range rfl rfl)<|(tm) (fun g16=>?_) (fun g16=>?_)
    ·
     refine(eu) ?_;rintro w2 s2 _;have c2:=c1.trans s2;have dB:=dB.ext s2;exact(iu) (by unfold jR;simp only [g7,g11,g16];first | rfl | simp) s2
    refine nx ?_;refine DP .r (fun _ hC=>PV.MS av (dB.ext hC).range rfl rfl)<|?_;refine DW.e rfl rfl rfl rfl rfl (fun wx hC hF=>OX.call Ue rfl rfl ((mZ (k:=k)).mono ?_))<|?_
    ·
     rintro _ wy ⟨rfl,hy⟩;exact⟨_,rfl,hC.trans hy,hy,_,rfl,rfl⟩
    rintro _ wz _ rfl;refine DW.e rfl rfl rfl rfl rfl (fun wx hC hF=>OX.call N1 rfl rfl ((mc (n:=number k) (hr.ext (c1.trans hC))).mono ?_))<|?_
    ·
     rintro _ wy ⟨rfl,hy⟩;exact⟨_,rfl,hC.trans hy,hy,_,rfl,rfl⟩
    rintro _ wz _ rfl;refine DP .r (fun _ hC=>PV.MS av (dB.ext hC).range rfl rfl)<|(eu)<|?_;rintro w2 s2 _;have c2:=c1.trans s2;have dB:=dB.ext s2;refine WP .r (PV.JD im (p:=aS ab (number k)) (q:=k) rfl rfl)<|?_;exact(iu) (by unfold jR;simp only [g7,g11,g16];first | rfl | simp) s2
   refine jx ?_;refine DP .r (fun _ hC=>PV.MS av (dB.ext hC).range rfl rfl)<|?_;refine DW.e rfl rfl rfl rfl rfl (fun wx hC hF=>OX.call Ue rfl rfl ((mZ (k:=k)).mono ?_))<|?_
   ·
    rintro _ wy ⟨rfl,hy⟩;exact⟨_,rfl,hC.trans hy,hy,_,rfl,rfl⟩
   rintro _ wz _ rfl;refine DW.e rfl rfl rfl rfl rfl (fun wx hC hF=>OX.call N1 rfl rfl ((mc (n:=number k) (hr.ext (c1.trans hC))).mono ?_))<|?_
   ·
    rintro _ wy ⟨rfl,hy⟩;exact⟨_,rfl,hC.trans hy,hy,_,rfl,rfl⟩
   rintro _ wz _ rfl;refine DP .r (fun _ hC=>PV.MS av (dB.ext hC).range rfl rfl)<|(eu)<|?_;rintro w2 s2 _;have c2:=c1.trans s2;have dB:=dB.ext s2;refine WP .r (PV.JD im (p:=aS ab (number k)) (q:=k) rfl rfl)<|?_;exact(iu) (by unfold jR;simp only [g7,g11];first | rfl | simp) s2
  refine bC ?_;refine(eu) ?_;rintro w2 s2 _;have c2:=c1.trans s2;have dB:=dB.ext s2;exact(iu) (by unfold jR;simp only [g7];first | rfl | simp) s2
 intro w2 s2;have c2:=c1.trans s2;have dB:=dB.ext s2;refine(cj) ?_;exact⟨rfl,c2⟩
theorem ie{ak:List ByteArray}{C:Nat→Prop}{r2:Nat}(ht:oj prog A w) (hr:iB B w a r c ab) (hl:Strs C w a2 r2 e2 ak) (hb:∀x∈ab,0≤x.c∧x.c≤65535∧x.asks.length≤1000) (hk:gY k):CR prog 116 #[.slice a r c,k.val,.slice a2 r2 e2] w ((bf ab k ak).val):=by
 refine enter func116 rfl ntmps116 rfl<|?_;have c0:bm [] w w:=bm.refl _ _;refine cV ?_;refine WL.go rfl (OX.box rfl rfl rfl fun b4 w1 jE bM=>?_);have s1:=jE.ext;have iS:=jE.kK c0;have c1:=c0.trans s1;refine WL.go rfl (OX.alloc vO rfl fun b6 w2 mY eO=>?_);have s2:=mY.ext;have gP:=mY.kK c1;have et:b4≠b6:=mY.ne bM.lt;have qy:b6≠b4:=Ne.symm et;have c2:=c1.trans s2;have bM:=bM.ext s2;refine ew ?_;refine WC.nD (t:=7) (v:=.bool (decide (k.kind=31) || decide (k.kind=32))) (fun wx=>w2=wx) ?_ ?_
 ·
  refine nx ?_;refine WP .r (PV.fa fk rfl)<|(bO) aZ bM.range<|(dW) (fun g11=>?_) (fun g11=>?_)
  ·
   exact(dq) (by simp only [g11];first | rfl | simp) rfl
  refine WP .r (PV.fa fk rfl)<|(bO) aZ bM.range<|?_;exact(dq) (by simp only [g11];first | rfl | simp) rfl
 rintro _ rfl;refine(br) (fun g7=>?_) fun g7=>?_
 ·
  simp at g7
  have hv:bf ab k ak=dN ab k ak:=by unfold bf;rw [if_pos g7]
  refine(bA) av bM.range<|(cW) aez (K4 (k:=k) (ht.ext c2) (hr.ext c2) (hl.ext c2) hb) ?_;rintro _ w3 ⟨rfl,s3⟩;have c3:=c2.trans s3;have bM:=bM.ext s3;have eO:=eO.ext s3;refine WL.go rfl (OX.qJ jn eO rfl rfl rfl rfl rfl fun w4 s4 _ eO=>?_);have c4:=c3.own s4 gP;have bM:=bM.cT s4 (by simp [et]);refine(mU) kW eO.range<|?_;rw [hv];exact⟨rfl,c4⟩
 simp at g7
 have hv:bf ab k ak=⟨true,⟨#[]⟩,fW⟩:=by unfold bf;rw [if_neg (by omega)]
 refine nx ?_;refine WC.nD (t:=20) (v:=.bool (aB k || (decide (k.kind<1) || decide (22<k.kind)))) (bm [] w2) ?_<|?_
 ·
  refine(bA) av bM.range<|(cW) N2 (fM (k:=k)) ?_;rintro _ w3 ⟨rfl,s3⟩;have c3:=c2.trans s3;have bM:=bM.ext s3;have eO:=eO.ext s3;refine(dW) (fun g23=>?_) (fun g23=>?_)
  ·
   exact(dq) (by simp only [g23];first | rfl | simp) s3
  refine WP .r (PV.fa fk rfl)<|(bO) aZ bM.range<|(dW) (fun iG=>?_) (fun iG=>?_)
  ·
   exact(dq) (by simp only [g23,iG];first | rfl | simp) s3
  refine WP .r (PV.fa fk rfl)<|(bO) aZ bM.range<|?_;exact(dq) (by simp only [g23,iG];first | rfl | simp) s3
 intro w3 s3;have c3:=c2.trans s3;have bM:=bM.ext s3;have eO:=eO.ext s3;refine(br) (fun g20=>?_) fun g20=>?_
 ·
  skip
  refine cV ?_;refine WP .r (PV.cD (us:=[.bool true,.string ⟨#[]⟩,.int .i64 0,.string ⟨#[]⟩]) qV rfl rfl rfl)<|?_;refine WL.go rfl (OX.qJ jn eO rfl rfl rfl rfl rfl fun w4 s4 _ eO=>?_);have c4:=c3.own s4 gP;have bM:=bM.cT s4 (by simp [et]);refine(mU) kW eO.range<|?_;rw [hv];exact⟨rfl,c4⟩
 exfalso;simp at g20;rcases hk with h | h <;> omega
theorem BM{rev:Int}(hl:Rd RR.ff 8 Z w a n c l):CR prog 153 #[.slice a n c,.int .i64 rev,k.val] w (.bool (cY l rev k)):=by
 refine enter func153 rfl ntmps153 rfl<|?_;have c0:bm [] w w:=bm.refl _ _;refine cV ?_;refine WL.go rfl (OX.box rfl rfl rfl fun b5 w1 mM gz=>?_);have s1:=mM.ext;have uN:=mM.kK c0;have c1:=c0.trans s1;refine(bA) av gz.range<|(cW) vR (fI (k:=k) (hl.ext c1)) ?_;rintro _ w2 ⟨f1,f2,f3,rfl,s2⟩;have c2:=c1.trans s2;have gz:=gz.ext s2;refine dy ?_;refine WL.go rfl (OX.alloc uG rfl fun b7 w3 uR oo=>?_);have s3:=uR.ext;have FT:=uR.kK c2;have nZ:b5≠b7:=uR.ne gz.lt;have Lc:b7≠b5:=Ne.symm nZ;have c3:=c2.trans s3;have gz:=gz.ext s3;refine WL.go rfl (OX.qJ gJ oo rfl rfl rfl rfl rfl fun w4 s4 _ oo=>?_);have c4:=c3.own s4 FT;have gz:=gz.cT s4 (by simp [nZ]);refine dC ?_;refine WC.po (t:=6) (v:=.bool (cY l rev k)) (bm [] w4) ?_<|?_
 ·
  refine(dW) (fun g16=>?_) (fun g16=>?_)
  ·
   refine(bA) av gz.range<|(cW) N3 (eA (k:=k)) ?_;rintro _ w5 ⟨rfl,s5⟩;have c5:=c4.trans s5;have gz:=gz.ext s5;have oo:=oo.ext s5;refine(dW) (fun g20=>?_) (fun g20=>?_)
   ·
    refine WP .r (PV.fa uJ rfl)<|(bO) aZ oo.range<|(dW) (fun kX=>?_) (fun kX=>?_)
    ·
     refine WP .r (PV.fa KY rfl)<|(bO) fH oo.range<|?_;exact(iu) (by unfold cY;simp only [g16,g20,kX];first | rfl | simp) s5
    exact(iu) (by unfold cY;simp only [g16,g20,kX];first | rfl | simp) s5
   exact(iu) (by unfold cY;simp only [g16,g20];first | rfl | simp) s5
  refine bC ?_;exact(iu) (by unfold cY;simp only [g16];first | rfl | simp) (bm.refl _ _)
 intro w5 s5;have c5:=c4.trans s5;have gz:=gz.ext s5;have oo:=oo.ext s5;refine(cj) ?_;exact⟨rfl,c5⟩
theorem Le(hi:Rd RR.aH 4 Z w a1 n1 e1 x.ah) (hr:Rd RR.ff 8 Z w a2 n2 e2 x.ao) {k:Key}:CR prog 158 #[.agg (x.row a1 n1 e1 a2 n2 e2).toArray,k.val] w (.tuple #[.string (mK x k),.bool (iC x k)]):=by
 refine enter func158 rfl ntmps158 rfl<|?_;have c0:bm [] w w:=bm.refl _ _;refine cV ?_;refine WL.go rfl (OX.box rfl rfl rfl fun b2 w1 lA eZ=>?_);have s1:=lA.ext;have sk:=lA.kK c0;have c1:=c0.trans s1;refine WL.go rfl (OX.box rfl rfl rfl fun b3 w2 gO dB=>?_);have s2:=gO.ext;have sn:=gO.kK c1;have iT:b2≠b3:=gO.ne eZ.lt;have qx:b3≠b2:=Ne.symm iT;have c2:=c1.trans s2;have eZ:=eZ.ext s2;refine(bA) av dB.range<|(cW) N2 (fM (k:=k)) ?_;rintro _ w3 ⟨rfl,s3⟩;have c3:=c2.trans s3;have eZ:=eZ.ext s3;have dB:=dB.ext s3;refine(br) (fun g9=>?_) fun g9=>?_
 ·
  refine(bA) aM eZ.range<|(bA) av dB.range<|(cW) adQ (xQ (k:=k) (hi.ext c3) (hr.ext c3)) ?_;rintro _ w4 ⟨rfl,s4⟩;have c4:=c3.trans s4;have eZ:=eZ.ext s4;have dB:=dB.ext s4;refine(CH) ?_;exact⟨by unfold mK iC;rw [if_pos g9,g9];rfl,c4⟩
 refine ew ?_;refine WP .r (PV.fa xH rfl)<|(bO) eN eZ.range<|(bA) av dB.range<|(cW) vR (fI (k:=k) (hr.ext c3)) ?_;rintro _ w4 ⟨f1,f2,f3,rfl,s4⟩;have c4:=c3.trans s4;have eZ:=eZ.ext s4;have dB:=dB.ext s4;refine dy ?_;refine WL.go rfl (OX.alloc uG rfl fun b6 w5 mY eO=>?_);have s5:=mY.ext;have gP:=mY.kK c4;have BN:b2≠b6:=mY.ne eZ.lt;have Za:b6≠b2:=Ne.symm BN;have gE:b3≠b6:=mY.ne dB.lt;have uP:b6≠b3:=Ne.symm gE;have c5:=c4.trans s5;have eZ:=eZ.ext s5;have dB:=dB.ext s5;refine WL.go rfl (OX.qJ gJ eO rfl rfl rfl rfl rfl fun w6 s6 _ eO=>?_);have c6:=c5.own s6 gP;have eZ:=eZ.cT s6 (by simp [BN]);have dB:=dB.cT s6 (by simp [gE]);refine dC ?_;refine WC.nD (t:=27) (v:=.bool (iC x k)) (fun wx=>w6=wx) ?_ ?_
 ·
  refine(dW) (fun g21=>?_) (fun g21=>?_)
  ·
   refine WP .r (PV.fa uJ rfl)<|(bO) aZ eO.range<|?_;refine WP .r (PV.fa oU rfl)<|(bO) aZ eZ.range<|?_;exact(dq) (by unfold iC;simp only [g9,g21];first | rfl | simp) rfl
  exact(dq) (by unfold iC;simp only [g9,g21];first | rfl | simp) rfl
 rintro _ rfl;refine(br) (fun CL=>?_) fun CL=>?_
 ·
  refine cV ?_;refine WP .r (PV.fa Bt rfl)<|(bO) iq eO.range<|(CH) ?_;exact⟨by unfold mK;rw [if_neg (by simp [g9]),if_pos CL,CL],c6⟩
 refine(CH) ?_;exact⟨by unfold mK;rw [if_neg (by simp [g9]),if_neg (by simp [CL]),CL],c6⟩
theorem BO(hi:Rd RR.aH 4 Z w a1 n1 e1 x.ah) (hr:Rd RR.ff 8 Z w a2 n2 e2 x.ao) {k:Key}{v:ByteArray}{reads:List Key}{a:Option Addr}{n e:Nat}(hk:Rd RR.key 2 Z w a n e reads):Calls prog 118 #[.agg (x.row a1 n1 e1 a2 n2 e2).toArray,k.val,.string v,.slice a n e] w fun en w'=>en=.returned (.agg ((ek x k v reads).row a n e).toArray)∧bm [] w w':=by
 have hlen:=SR.len hk;have hle:=SR.le hk;refine enter func118 rfl ntmps118 rfl<|?_;have c0:bm [] w w:=bm.refl _ _;refine cV ?_;refine WL.go rfl (OX.box rfl rfl rfl fun b4 w1 jE bM=>?_);have s1:=jE.ext;have iS:=jE.kK c0;have c1:=c0.trans s1;refine WL.go rfl (OX.box rfl rfl rfl fun b5 w2 mM gz=>?_);have s2:=mM.ext;have uN:=mM.kK c1;have nU:b4≠b5:=mM.ne bM.lt;have uO:b5≠b4:=Ne.symm nU;have c2:=c1.trans s2;have bM:=bM.ext s2;refine WL.go rfl (OX.alloc uG rfl fun b8 w3 zM jm=>?_);have s3:=zM.ext;have xM:=zM.kK c2;have lU:b4≠b8:=zM.ne bM.lt;have K5:b8≠b4:=Ne.symm lU;have uT:b5≠b8:=zM.ne gz.lt;have Zc:b8≠b5:=Ne.symm uT;have c3:=c2.trans s3;have bM:=bM.ext s3;have gz:=gz.ext s3;refine(bA) av gz.range<|cV ?_;refine WP .r (PV.fa oU rfl)<|(bO) aZ bM.range<|?_;refine WP .r (PV.fa oU rfl)<|(bO) aZ bM.range<|nx ?_;refine WP .r (PV.j9 fP rfl)<|nx ?_;refine WP .r (PV.cD (us:=(Rec.mk k v reads x.ae x.ae (1+(n:Int)) false).row a n e) adq rfl rfl rfl)<|?_;refine WL.go rfl (OX.alloc uG rfl fun b9 w4 QT BP=>?_);have s4:=QT.ext;have QU:=QT.kK c3;have uU:b4≠b9:=QT.ne bM.lt;have Zd:b9≠b4:=Ne.symm uU;have uV:b5≠b9:=QT.ne gz.lt;have Ze:b9≠b5:=Ne.symm uV;have uW:b8≠b9:=QT.ne jm.lt;have BQ:b9≠b8:=Ne.symm uW;have c4:=c3.trans s4;have bM:=bM.ext s4;have gz:=gz.ext s4;have jm:=jm.ext s4;refine WL.go rfl (OX.qJ gJ BP rfl rfl rfl rfl rfl fun w5 s5 _ BP=>?_);have c5:=c4.own s5 QU;have bM:=bM.cT s5 (by simp [uU]);have gz:=gz.cT s5 (by simp [uV]);have jm:=jm.cT s5 (by simp [uW]);refine ew ?_;refine WP .r (PV.fa xH rfl)<|(bO) eN bM.range<|(bA) av gz.range<|(cW) vR (fI (k:=k) (hr.ext c5)) ?_;rintro _ w6 ⟨f1,f2,f3,rfl,s6⟩;have c6:=c5.trans s6;have bM:=bM.ext s6;have gz:=gz.ext s6;have jm:=jm.ext s6;have BP:=BP.ext s6;refine dy ?_;refine WL.go rfl (OX.alloc uG rfl fun iI w7 lV fN=>?_);have s7:=lV.ext;have FP:=lV.kK c6;have mf:b4≠iI:=lV.ne bM.lt;have Ip:iI≠b4:=Ne.symm mf;have yJ:b5≠iI:=lV.ne gz.lt;have V9:iI≠b5:=Ne.symm yJ;have mg:b8≠iI:=lV.ne jm.lt;have sq:iI≠b8:=Ne.symm mg;have yK:b9≠iI:=lV.ne BP.lt;have Iw:iI≠b9:=Ne.symm yK;have c7:=c6.trans s7;have bM:=bM.ext s7;have gz:=gz.ext s7;have jm:=jm.ext s7;have BP:=BP.ext s7;refine WL.go rfl (OX.qJ gJ fN rfl rfl rfl rfl rfl fun w8 s8 _ fN=>?_);have c8:=c7.own s8 FP;have bM:=bM.cT s8 (by simp [mf]);have gz:=gz.cT s8 (by simp [yJ]);have jm:=jm.cT s8 (by simp [mg]);have BP:=BP.cT s8 (by simp [yK]);refine dC ?_;refine WC.nD (t:=36) (v:=.bool ((aD x.ao k).isSome && decide ((aG x.ao k).value=v))) (fun wx=>w8=wx) ?_ ?_
 ·
  refine(dW) (fun pF=>?_) (fun pF=>?_)
  ·
   refine WP .r (PV.fa Bt rfl)<|(bO) iq fN.range<|?_;exact(dq) (by simp only [pF];first | rfl | simp) rfl
  exact(dq) (by simp only [pF];first | rfl | simp) rfl
 rintro _ rfl;refine(br) (fun ir=>?_) fun ir=>?_
 ·
  have hm:ek x k v reads=⟨k,v,reads,(aG x.ao k).changed,x.ae,1+(reads.length:Int),false⟩:=by unfold ek;rw [if_pos ir]
  refine nx ?_;refine WP .r (PV.fa Bu rfl)<|(bO) aZ fN.range<|?_;refine WP .r (PV.fa Bu rfl)<|?_;refine WL.go rfl (OX.st Sf BP rfl rfl (by first | (simp [nth];done) | exact nns rfl) rfl rfl fun w9 s9 _ BP=>?_);have c9:=c8.own s9 QU;have bM:=bM.cT s9 (by simp [uU]);have gz:=gz.cT s9 (by simp [uV]);have jm:=jm.cT s9 (by simp [uW]);have fN:=fN.cT s9 (by simp [Iw]);refine(bA) dn BP.range<|?_;refine WL.go rfl (OX.qJ gJ jm rfl rfl rfl rfl rfl fun kN pI _ jm=>?_);have QI:=c9.own pI xM;have bM:=bM.cT pI (by simp [lU]);have gz:=gz.cT pI (by simp [uT]);have BP:=BP.cT pI (by simp [BQ]);have fN:=fN.cT pI (by simp [sq]);refine(mU) dn jm.range<|?_;exact⟨by rw [hm,← hlen] <;> rfl,QI⟩
 have hm:ek x k v reads=⟨k,v,reads,x.ae,x.ae,1+(reads.length:Int),false⟩:=by unfold ek;rw [if_neg (by simp [ir])]
 refine(bA) dn BP.range<|?_;refine WL.go rfl (OX.qJ gJ jm rfl rfl rfl rfl rfl fun w9 s9 _ jm=>?_);have c9:=c8.own s9 xM;have bM:=bM.cT s9 (by simp [lU]);have gz:=gz.cT s9 (by simp [uT]);have BP:=BP.cT s9 (by simp [BQ]);have fN:=fN.cT s9 (by simp [sq]);refine(mU) dn jm.range<|?_;exact⟨by rw [hm,← hlen] <;> rfl,c9⟩
theorem o7{goals:List Key}{ar:Option Addr}(hu:iB A w ar r c ab) (hi:Rd RR.aH 4 Z w a1 n1 e1 x.ah) (hr:Rd RR.ff 8 Z w a2 n2 e2 x.ao) (hg:Ab B w ag g eg goals):CR prog 36 #[.slice ar r c,.agg (x.row a1 n1 e1 a2 n2 e2).toArray,.slice ag g eg] w (.int .i64 (iD ab x goals)):=by
 have hlen:=SR.len hg;have hle:=SR.le hg;refine enter func36 rfl ntmps36 rfl<|?_;have c0:bm [] w w:=bm.refl _ _;refine cV ?_;refine WL.go rfl (OX.box rfl rfl rfl fun b4 w1 jE bM=>?_);have s1:=jE.ext;have iS:=jE.kK c0;have c1:=c0.trans s1;refine(cW) akn (Iq (hu.ext c1)) ?_;rintro _ w2 ⟨bv,rfl,hbv,s2⟩;have c2:=c1.trans s2;have bM:=bM.ext s2;refine(br) (fun g9=>?_) fun g9=>?_
 ·
  simp at g9
  have hE:iD ab x goals=41:=by unfold iD;rw [if_pos (by rw [← hbv];simp [g9])]
  refine(cj) ?_;exact⟨by rw [hE],c2⟩
 simp at g9
 have hR:=hbv.1 g9;refine(bA) aM bM.range<|(cW) YN (qA (hi.ext c2) (hr.ext c2)) ?_;rintro _ w3 ⟨bv2,rfl,afc,s3⟩;have c3:=c2.trans s3;have bM:=bM.ext s3;refine(br) (fun g13=>?_) fun g13=>?_
 ·
  simp at g13
  have hE:iD ab x goals=42:=by unfold iD;rw [if_neg (by simpa using hR),if_pos (by rw [← afc];simp [g13])]
  refine(cj) ?_;exact⟨by rw [hE],c3⟩
 simp at g13
 have hB:=afc.1 g13;refine dy ?_;refine WP .r (PV.j9 fP rfl)<|(br) (fun g17=>?_) fun g17=>?_
 ·
  simp at g17
  have hE:iD ab x goals=3:=by unfold iD;rw [if_neg (by simpa using hR),if_neg (by simpa using hB),if_pos (by omega)]
  refine(cj) ?_;exact⟨by rw [hE],c3⟩
 simp at g17
 have hE:iD ab x goals=if goals.all (jR ab) then 0 else 40:=by unfold iD;rw [if_neg (by simpa using hR),if_neg (by simpa using hB),if_neg (by omega)]
 refine gp ?_;refine WP .r (PV.j9 fP rfl)<|dC ?_;refine WC.loop (σ:=Nat) (eI:=fun i=>[(0,.slice ar r c),(21,.slice ag g eg),(22,.int .i64 (g:Int)),(23,.int .i64 (i:Int))]) (I:=fun i w'=>bm [] w w'∧i≤g∧∀j y,j<i→goals[j]?=some y→jR ab y=true) (μ:=fun i=>g - i) 0 Sub.t ⟨c3,by omega,fun j y h=>by omega⟩ ?_;rintro i w4 ⟨c4,gk,cx⟩;refine(br) (fun g24=>?_) fun g24=>?_
 ·
  simp at g24
  have cX:i<goals.length:=by omega
  obtain⟨Uh,Ui,Uj,oX,_,K8,jH,_⟩:=SR.at hg (aq cX);subst K8;refine ew ?_;have jH:=bG jH c4 (by simp);refine nx ?_;refine WP .r (PV.fC fP oX rfl rfl (by omega))<|(bA) av jH<|?_;refine WL.go rfl (OX.alloc KW rfl fun b8 w5 zM jm=>?_);have s5:=zM.ext;have xM:=zM.kK c4;have c5:=c4.trans s5;refine WL.go rfl (OX.qJ jT jm rfl rfl rfl rfl rfl fun w6 s6 _ jm=>?_);have c6:=c5.own s6 xM;refine(bA) av jm.range<|(cW) ako (Iv (k:=goals[i]) (hu.ext c6)) ?_;rintro _ w7 ⟨rfl,s7⟩;have c7:=c6.trans s7;have jm:=jm.ext s7;refine(br) (fun me=>?_) fun me=>?_
  ·
   simp at me
   have hE:iD ab x goals=40:=by rw [hE,if_neg];rw [List.all_eq_true];intro h;have:=h _ (List.getElem_mem cX);rw [me] at this;cases this
   refine(cj) ?_;exact⟨by rw [hE],c7⟩
  simp at me
  refine gp ?_;refine EX.again (i+1) (Sub.k2 rfl rfl<|Sub.cons rfl<|Sub.lC rfl (by simp)<|Sub.nil) ⟨c7,by omega,dJ (P:=fun _ y=>jR ab y=true) cX cx me⟩ (by omega)
 simp at g24
 have hE:iD ab x goals=0:=by rw [hE,if_pos];rw [List.all_eq_true];intro y hy;obtain⟨j,hj,rfl⟩:=List.mem_iff_getElem.1 hy;exact cx j _ (by omega) (aq hj)
 refine(cj) ?_;exact⟨by rw [hE],c4⟩
theorem vU{group:List Key}(bF:St w M Z w []) (hl:Rd RR.ff 8 Z w a n c l) (hg:Rd RR.key 2 Z w ag g eg group) (hb:∀i,(((group.take i).flatMap fun m=>eB group m (aG l m).reads)).length≤100000000):Calls prog 113 #[.slice a n c,.slice ag g eg] w fun e w'=>∃a' n' c' Z',e=.returned (.slice a' n' c')∧cQ w.heap.size Z Z'∧St w M Z' w' [As.os RR.Ni 160 4 a' n' c' (cC l group)]:=by
 have hlen:=hg.len;have hle:=hg.le;refine enter func113 rfl ntmps113 rfl<|?_;have aW:=bF;have st1:=aW.fr hl;have st2:=st1.fr hg;have aP:=st2.fc RR.Ni 160 4;refine bC ?_;refine gp ?_;refine WC.jY (σ:=Nat × (Nat→Prop) × (List tI) × (Option Addr) × Nat × Nat) (eI:=fun(i,Z1,acc,cO,cB,cS)=>[(0,.slice a n c),(1,.slice ag g eg),(5,.slice cO cB cS),(12,.slice ag g eg),(13,.int .i64 (g:Int)),(14,.int .i64 (i:Int))]) (F:=fun(i,Z1,acc,cO,cB,cS)=>[As.os RR.Ni 160 4 cO cB cS (acc)]) (I:=fun(i,Z1,acc,cO,cB,cS)=>(i≤g)∧(cQ w.heap.size Z Z1)∧(acc=(group.take i).flatMap fun m=>eB group m (aG l m).reads)∧True) (μ:=fun(i,Z1,acc,cO,cB,cS)=>g - i) (Zf:=fun(i,Z1,acc,cO,cB,cS)=>Z1) (0,Z,[],none,0,0) (aP) Sub.t (⟨by omega,cQ.refl _ _,by simp,trivial⟩)<|?_;rintro⟨i,Z1,acc,cO,cB,cS⟩ w1 aU ⟨hi,hZ,eJ,_⟩;simp only [CA,NA] at aU hi hZ eJ ⊢;refine(br) (fun g15=>?_) fun g15=>?_
 ·
  simp at g15
  have cX:i<group.length:=by omega
  refine ew ?_;obtain⟨gF,js,iU,aT,fl,bz,ck,di⟩:=Rd.at (As.gr aU.g1) cX;have bz:=RR.cL bz;subst bz;have aY:=aU.fg di ck;refine nx ?_;refine WP .r (PV.fC fP aT rfl rfl (by omega))<|(bA) av (As.om aY.g0)<|(fU) aY fun b7 w2 uR oo bj=>?_;refine(dA) jT bj fun w3 jv jC bP=>?_;refine(bA) av bP.b0<|?_;have bQ:=bP;refine(cW) vR (mi (k:=group[i]) bQ.e0 (As.gr bQ.g4)) ?_;rintro _ w4 ⟨f1,f2,f3,rfl,hq4,fE⟩;have bV:=St.lr bQ fE;have rK:=St.cH fE;have hsz:=bQ.size;have aL:=bV.bX (by omega);have kZ:=hZ.trans (cQ.fo (F:=fun x=>x∈aO f1) rK) hsz;have hqn:=((As.gr aL.g0)).len;refine(fU) aL fun b8 w5 zM jm aQ=>?_;refine(dA) gJ aQ fun w6 sr nc aV=>?_;refine(bO) fA aV.b0<|ew ?_;refine WC.bU (σ:=Nat × (List tI) × (Option Addr) × Nat × Nat) (eI:=fun(j,jJ,cO,cB,cS)=>[(0,.slice a n c),(1,.slice ag g eg),(5,.slice cO cB cS),(7,.pointer (some ⟨b7,0,none⟩)),(12,.slice ag g eg),(13,.int .i64 (g:Int)),(14,.int .i64 (i:Int)),(25,.slice f1 f2 f3),(26,.int .i64 (f2:Int)),(27,.int .i64 (j:Int))]) (F:=fun(j,jJ,cO,cB,cS)=>[As.os RR.Ni 160 4 cO cB cS (jJ)]) (I:=fun(j,jJ,cO,cB,cS)=>(j≤f2)∧(jJ=acc++eB group group[i] ((aG l group[i]).reads.take j))∧True) (μ:=fun(j,jJ,cO,cB,cS)=>f2 - j) (0,acc,cO,cB,cS) (aV.p4) Sub.t (⟨by omega,by simp [eB],trivial⟩)<|?_;rintro⟨j,jJ,cO,cB,cS⟩ w7 bD ⟨hj,ss,_⟩;simp only [CA,NA] at bD hj ss ⊢;have l8:=((As.gs bD.g0)).len;have GW:=hb i;rw [← eJ] at GW;have C5:=mV group group[i] ((aG l group[i]).reads.take j)
  have htl:jJ.length≤100100000:=by rw [ss,List.length_append];rw [List.length_take] at C5;omega
  refine(br) (fun iG=>?_) fun iG=>?_
  ·
   simp at iG
   have lF:j<(aG l group[i]).reads.length:=by omega
   refine ew ?_;obtain⟨vV,Ix,FU,fO,vW,gN,j4,pJ⟩:=Rd.at (As.gr bD.g2) lF;have gN:=RR.cL gN;subst gN;have bp:=bD.fg pJ j4;refine nx ?_;refine WP .r (PV.fC fP fO rfl rfl (by omega))<|(bA) av (As.om bp.g0)<|(fU) bp fun rI w8 QV Un ba=>?_;refine(dA) jT ba fun w9 ED tj aX=>?_;refine(bA) av aX.b0<|(gg) (xL (k:=(aG l group[i]).reads[j]) (As.gr aX.g7)) aX fun kN pI bN=>?_;refine(br) (fun pG=>?_) fun pG=>?_
   ·
    simp at pG
    have Mu:=lY (group:=group) (m:=group[i]) lF;rw [if_neg pG] at Mu;refine(bA) av bN.b5<|(bA) av bN.b0<|?_;refine WP .r (PV.cD (us:=(tI.mk group[i] (aG l group[i]).reads[j]).cells) VB rfl rfl rfl)<|?_;refine WL.go rfl (OX.bB (us:=(tI.mk group[i] (aG l group[i]).reads[j]).cells) My rfl rfl rfl rfl fun b39 kO akW akX=>?_);have bR:=bN.fb akW akX;refine WL.ap rfl rfl bR.p3 (SR.eP (A:=fun _=>True) (x:=tI.mk group[i] (aG l group[i]).reads[j]) (As.gb bR.g0) trivial rfl (by simp [tI.cells,Value.oneCell']) rfl) fun a40 akY qW asx asy bE=>?_;refine kE ?_;refine fx (j+1,_,a40,(cB+1),akY) ⟨bE.p1.drop.p1.drop.p1.drop,⟨by omega,by rw [Mu,ss,List.append_assoc],trivial⟩⟩
   simp at pG
   have Mu:=lY (group:=group) (m:=group[i]) lF;rw [if_pos pG] at Mu;refine gp ?_;refine fx (j+1,_,cO,cB,cS) ⟨bN.drop.drop,⟨by omega,by rw [Mu,ss],trivial⟩⟩
  simp at iG
  have cx:(aG l group[i]).reads.take j=(aG l group[i]).reads:=List.take_of_length_le (by omega);refine mT ?_;refine fx (i+1,_,jJ,cO,cB,cS) ⟨bD.p6.p6.p2.k3,⟨by omega,kZ,by rw [ss,cx,eJ,List.take_succ_eq_append_getElem cX];simp only [List.flatMap_append,List.flatMap_cons,List.flatMap_nil,List.append_nil],trivial⟩⟩
 simp at g15
 have cx:group.take i=group:=List.take_of_length_le (by omega);rw [cx] at eJ;subst eJ;refine(cj) ?_;exact⟨_,_,_,_,rfl,hZ,aU.p1.drop.p1.drop⟩
set_option maxHeartbeats 400000
theorem BR{l:List eH}(hl:Rd RR.rh 6 Z w a r c l):CR prog 115 #[.slice a r c,k.val] w (.bool (lq l k)):=by
 have hle:=SR.le hl;have hlen:=SR.len hl;refine enter func115 rfl ntmps115 rfl<|?_;have c0:bm [] w w:=bm.refl _ _;refine cV ?_;refine WL.go rfl (OX.box rfl rfl rfl fun b3 w1 gO dB=>?_);have s1:=gO.ext;have sn:=gO.kK c0;have c1:=c0.trans s1;refine gp ?_;refine WP .r (PV.j9 Ih rfl)<|dC ?_;refine WC.loop (σ:=Nat) (eI:=fun i=>[(3,.pointer (some ⟨b3,0,none⟩)),(7,.slice a r c),(8,.int .i64 (r:Int)),(9,.int .i64 (i:Int))]) (I:=fun i w'=>bm [] w w'∧cI w' b3 58 [.int .i64 k.kind,.string k.text]∧i≤r∧∀j y,j<i→l[j]?=some y→decide (eH.key y=k)=false) (μ:=fun i=>r - i) 0 Sub.t ⟨c1,dB,by omega,fun j y h=>by omega⟩ ?_;rintro i w2 ⟨c2,dB,hi,gh⟩;refine(br) (fun g10=>?_) fun g10=>?_
 ·
  simp at g10
  have cX:i<l.length:=by omega
  refine ew ?_;obtain⟨Uh,Ui,Uj,oX,_,⟨q1,q2,q3,q4,q5,q6,rfl,_⟩,jH,_⟩:=SR.at hl (aq cX);have jH:=bG jH c2 (by simp);refine nx ?_;refine WP .r (PV.fC Ih oX rfl rfl (by omega))<|(bA) Et jH<|?_;refine WL.go rfl (OX.alloc adD rfl fun b6 w3 mY eO=>?_);have s3:=mY.ext;have gP:=mY.kK c2;have gE:b3≠b6:=mY.ne dB.lt;have uP:b6≠b3:=Ne.symm gE;have c3:=c2.trans s3;have dB:=dB.ext s3;refine WL.go rfl (OX.qJ TF eO rfl rfl rfl rfl rfl fun w4 s4 _ eO=>?_);have c4:=c3.own s4 gP;have dB:=dB.cT s4 (by simp [gE]);refine dC ?_;refine WP .r (PV.fa Qw rfl)<|(kF) av eO.range<|(bA) av dB.range<|?_;refine WP .r (PV.JD im (p:=l[i].key) (q:=k) rfl rfl)<|(br) (fun g16=>?_) fun g16=>?_
  ·
   have hv:lq l k=true:=List.any_eq_true.2 ⟨_,List.getElem_mem cX,g16⟩;refine(cj) ?_;exact⟨by rw [hv],c4⟩
  skip
  refine gp ?_;refine EX.again (i+1) (Sub.k2 rfl rfl<|Sub.cons rfl<|Sub.lC rfl (by simp)<|Sub.nil) ⟨c4,dB,by omega,dJ (P:=fun _ (y:eH)=>decide (y.key=k)=false) cX gh g16⟩ (by omega)
 simp at g10
 have hv:lq l k=false:=List.any_eq_false.2 fun y hy=>by obtain⟨j,hj,rfl⟩:=List.mem_iff_getElem.1 hy;simpa using gh j _ (by omega) (aq hj)
 refine(cj) ?_;exact⟨by rw [hv],c2⟩
theorem vX(hi:Rd RR.aH 4 Z w a1 n1 e1 x.ah) (hr:Rd RR.ff 8 Z w a2 n2 e2 x.ao) {l:List eH}{k:Key}{a:Option Addr}{n c:Nat}(hl:Rd RR.rh 6 Z w a n c l):CR prog 76 #[.agg (x.row a1 n1 e1 a2 n2 e2).toArray,.slice a n c,k.val] w (.bool (gG x l k)):=by
 refine enter func76 rfl ntmps76 rfl<|?_;have c0:bm [] w w:=bm.refl _ _;refine cV ?_;refine WL.go rfl (OX.box rfl rfl rfl fun b3 w1 gO dB=>?_);have s1:=gO.ext;have sn:=gO.kK c0;have c1:=c0.trans s1;refine WL.go rfl (OX.box rfl rfl rfl fun b5 w2 mM gz=>?_);have s2:=mM.ext;have uN:=mM.kK c1;have Lf:b3≠b5:=mM.ne dB.lt;have Zg:b5≠b3:=Ne.symm Lf;have c2:=c1.trans s2;have dB:=dB.ext s2;refine ew ?_;refine WC.nD (t:=15) (v:=.bool (aB k || lq l k)) (bm [] w2) ?_<|?_
 ·
  refine(bA) av gz.range<|(cW) N2 (fM (k:=k)) ?_;rintro _ w3 ⟨rfl,s3⟩;have c3:=c2.trans s3;have dB:=dB.ext s3;have gz:=gz.ext s3;refine(dW) (fun g11=>?_) (fun g11=>?_)
  ·
   exact(dq) (by simp only [g11];first | rfl | simp) s3
  refine(bA) av gz.range<|(cW) Qz (BR (k:=k) (hl.ext c3)) ?_;rintro _ w4 ⟨rfl,s4⟩;have c4:=c3.trans s4;have dB:=dB.ext s4;have gz:=gz.ext s4;exact(dq) (by simp only [g11];first | rfl | simp) (s3.trans s4)
 intro w3 s3;have c3:=c2.trans s3;have dB:=dB.ext s3;have gz:=gz.ext s3;refine(br) (fun g15=>?_) fun g15=>?_
 ·
  have hv:gG x l k=false:=by unfold gG;rw [g15];rfl
  refine(cj) ?_;exact⟨by rw [hv],c3⟩
 have hv:gG x l k=(!(aD x.ao k).isSome || decide ((aG x.ao k).az≠x.ae)):=by unfold gG;rw [g15];rfl
 refine dC ?_;refine WP .r (PV.fa xH rfl)<|(bO) eN dB.range<|(bA) av gz.range<|(cW) vR (fI (k:=k) (hr.ext c3)) ?_;rintro _ w4 ⟨f1,f2,f3,rfl,s4⟩;have c4:=c3.trans s4;have dB:=dB.ext s4;have gz:=gz.ext s4;refine dy ?_;refine WL.go rfl (OX.alloc uG rfl fun b7 w5 uR oo=>?_);have s5:=uR.ext;have FT:=uR.kK c4;have BU:b3≠b7:=uR.ne dB.lt;have Zh:b7≠b3:=Ne.symm BU;have nZ:b5≠b7:=uR.ne gz.lt;have Lc:b7≠b5:=Ne.symm nZ;have c5:=c4.trans s5;have dB:=dB.ext s5;have gz:=gz.ext s5;refine WL.go rfl (OX.qJ gJ oo rfl rfl rfl rfl rfl fun w6 s6 _ oo=>?_);have c6:=c5.own s6 FT;have dB:=dB.cT s6 (by simp [BU]);have gz:=gz.cT s6 (by simp [nZ]);refine dC ?_;refine WC.po (t:=6) (v:=.bool (gG x l k)) (fun wx=>w6=wx) ?_ ?_
 ·
  refine(dW) (fun fy=>?_) (fun fy=>?_)
  ·
   exact(iu) (by rw [hv];simp only [fy];first | rfl | simp) rfl
  refine WP .r (PV.fa uJ rfl)<|(bO) aZ oo.range<|?_;refine WP .r (PV.fa oU rfl)<|(bO) aZ dB.range<|?_;exact(iu) (by rw [hv];simp only [fy];first | rfl | simp) rfl
 rintro _ rfl;refine(cj) ?_;exact⟨rfl,c6⟩
theorem BV(hi:Rd RR.aH 4 Z w a1 n1 e1 x.ah) (hr:Rd RR.ff 8 Z w a2 n2 e2 x.ao) {l others:List eH}{k:Key}{a a3:Option Addr}{n c n3 e3:Nat}(hl:Rd RR.rh 6 Z w a n c l) (ho:Rd RR.rh 6 Z w a3 n3 e3 others):CR prog 119 #[.agg (x.row a1 n1 e1 a2 n2 e2).toArray,.slice a n c,.slice a3 n3 e3,k.val] w (.int .i64 (dG x l others k)):=by
 refine enter func119 rfl ntmps119 rfl<|?_;have c0:bm [] w w:=bm.refl _ _;refine cV ?_;refine WL.go rfl (OX.box rfl rfl rfl fun b4 w1 jE bM=>?_);have s1:=jE.ext;have iS:=jE.kK c0;have c1:=c0.trans s1;refine WL.go rfl (OX.box rfl rfl rfl fun b7 w2 uR oo=>?_);have s2:=uR.ext;have FT:=uR.kK c1;have Lg:b4≠b7:=uR.ne bM.lt;have Zi:b7≠b4:=Ne.symm Lg;have c2:=c1.trans s2;have bM:=bM.ext s2;refine jx ?_;refine WC.nD (t:=9) (v:=.bool (!aC k && lq l k)) (bm [] w2) ?_<|?_
 ·
  refine(bA) av oo.range<|(cW) N3 (eA (k:=k)) ?_;rintro _ w3 ⟨rfl,s3⟩;have c3:=c2.trans s3;have bM:=bM.ext s3;have oo:=oo.ext s3;refine(dW) (fun g13=>?_) (fun g13=>?_)
  ·
   refine(bA) av oo.range<|(cW) Qz (BR (k:=k) (hl.ext c3)) ?_;rintro _ w4 ⟨rfl,s4⟩;have c4:=c3.trans s4;have bM:=bM.ext s4;have oo:=oo.ext s4;exact(dq) (by simp only [g13];first | rfl | simp) (s3.trans s4)
  exact(dq) (by simp only [g13];first | rfl | simp) s3
 intro w3 s3;have c3:=c2.trans s3;have bM:=bM.ext s3;have oo:=oo.ext s3;refine(br) (fun g9=>?_) fun g9=>?_
 ·
  skip
  refine(cj) ?_;exact⟨by unfold dG;rw [if_pos g9],c3⟩
 have g9:¬((!aC k && lq l k)=true):=by simp [g9]
 refine(bA) aM bM.range<|(bA) av oo.range<|(cW) ad3 (vX (k:=k) (hi.ext c3) (hr.ext c3) (hl.ext c3)) ?_;rintro _ w4 ⟨rfl,s4⟩;have c4:=c3.trans s4;have bM:=bM.ext s4;have oo:=oo.ext s4;refine(br) (fun g18=>?_) fun g18=>?_
 ·
  skip
  refine(cj) ?_;exact⟨by unfold dG;rw [if_neg g9,if_pos g18],c4⟩
 have g18:¬((!gG x l k)=true):=by simp [g18]
 refine(bA) av oo.range<|(cW) Qz (BR (k:=k) (ho.ext c4)) ?_;rintro _ w5 ⟨rfl,s5⟩;have c5:=c4.trans s5;have bM:=bM.ext s5;have oo:=oo.ext s5;refine(br) (fun g24=>?_) fun g24=>?_
 ·
  skip
  refine(cj) ?_;exact⟨by unfold dG;rw [if_neg g9,if_neg g18,if_pos g24],c5⟩
 have g24:¬((!lq others k)=true):=by simp [g24]
 refine(bA) av oo.range<|(cW) N3 (eA (k:=k)) ?_;rintro _ w6 ⟨rfl,s6⟩;have c6:=c5.trans s6;have bM:=bM.ext s6;have oo:=oo.ext s6;refine(br) (fun n0=>?_) fun n0=>?_
 ·
  skip
  refine(cj) ?_;exact⟨by unfold dG;rw [if_neg g9,if_neg g18,if_neg g24,if_pos n0],c6⟩
 refine(cj) ?_;exact⟨by unfold dG;rw [if_neg g9,if_neg g18,if_neg g24,if_neg (by simp [n0])],c6⟩
theorem zn{l:List aJ}(bF:St w M Z w []) (hl:Rd RR.gx 4 Z w a n c l) (h6:l.length≤1000000) (h4:∀x∈l,x.asks.length≤1000):Calls prog 73 #[.slice a n c] w fun e w'=>∃a' n' c' Z',e=.returned (.slice a' n' c')∧cQ w.heap.size Z Z'∧St w M Z' w' [As.os RR.gx 69 4 a' n' c' l]:=by
 have hlen:=hl.len;have hle:=hl.le;refine enter func73 rfl ntmps73 rfl<|?_;have aW:=bF;have st1:=aW.fr hl;have st2:=st1.fc RR.gx 69 4;refine bC ?_;refine gp ?_;refine WC.jY (σ:=Nat × (Nat→Prop) × (List aJ) × (Option Addr) × Nat × Nat) (eI:=fun(i,Z1,acc,cO,cB,cS)=>[(3,.slice cO cB cS),(6,.slice a n c),(7,.int .i64 (n:Int)),(8,.int .i64 (i:Int))]) (F:=fun(i,Z1,acc,cO,cB,cS)=>[As.os RR.gx 69 4 cO cB cS (acc)]) (I:=fun(i,Z1,acc,cO,cB,cS)=>(i≤n)∧(cQ w.heap.size Z Z1)∧(acc=l.take i)∧True) (μ:=fun(i,Z1,acc,cO,cB,cS)=>n - i) (Zf:=fun(i,Z1,acc,cO,cB,cS)=>Z1) (0,Z,[],none,0,0) (st2) Sub.t (⟨by omega,cQ.refl _ _,by simp,trivial⟩)<|?_;rintro⟨i,Z1,acc,cO,cB,cS⟩ w1 aP ⟨hi,hZ,eJ,_⟩;simp only [CA,NA] at aP hi hZ eJ ⊢;have l8:=((As.gs aP.g0)).len
 have C5:acc.length≤1000000:=by rw [eJ,List.length_take];omega
 refine(br) (fun g9=>?_) fun g9=>?_
 ·
  simp at g9
  have cX:i<l.length:=by omega
  refine ew ?_;obtain⟨gF,js,iU,aT,fl,bz,ck,di⟩:=Rd.at (As.gr aP.g1) cX;obtain⟨q1,q2,q3,rfl,aff⟩:=bz;have aU:=aP.fg di ck;have afg:Rd RR.ask 4 _ _ q1 q2 q3 l[i].asks:=aff;have aY:=aU.fr (afg);have pg:=h4 _ (List.getElem_mem cX);have hqn:=SR.len afg;have bj:=aY.fc RR.ask 129 4;refine nx ?_;refine WP .r (PV.fC lS aT rfl rfl (by omega))<|(bA) yC (As.om bj.g2)<|(fU) bj fun b5 w2 mM gz bP=>?_;refine(dA) KU bP fun w3 jv jC bQ=>?_;refine(bO) nS bQ.b0<|?_;have hsz:=bQ.size;refine WL.ap rfl rfl bQ.p1 ((As.gr bQ.g2)) fun QW Lh w4 Oc afh bV=>?_;refine nx ?_;refine WL.s1 bV.p1 fun w5 _ aL=>?_;refine cV ?_;have aQ:=aL.p1.bX (by simp;omega)
  have rK:∀x∈aO QW,w.heap.size≤x:=fun x hx=>by rcases Oc x hx with h | h;simp [aO] at h;omega
  have kZ:=hZ.trans (cQ.fo (F:=fun x=>x∈aO QW) rK) (Nat.le_refl _);refine(bA) yC aQ.b1<|?_;refine WL.go rfl (OX.bB (us:=l[i].row _ _ _) KP rfl rfl rfl rfl fun Sr w6 Zj Zk=>?_);have aV:=aQ.fb Zj Zk;refine WL.ap rfl rfl aV.p5 (SR.eP (A:=fun _=>True) (x:=l[i]) (As.gb aV.g0) trivial rfl (aJ.one _ _ _ _) ⟨_,_,_,rfl,(As.gr aV.g1)⟩) fun a19 Zl w7 ak0 ak1 bD=>?_;refine kE ?_;refine fx (i+1,_,acc++[l[i]],a19,(cB+1),Zl) ⟨bD.p6.p1.k2,⟨by omega,kZ,by rw [eJ,List.take_succ_eq_append_getElem cX],trivial⟩⟩
 simp at g9
 have cx:acc=l:=by rw [eJ];exact List.take_of_length_le (by omega)
 subst cx;refine(cj) ?_;exact⟨_,_,_,_,rfl,hZ,aP.p1.drop⟩
end Go.Rc

