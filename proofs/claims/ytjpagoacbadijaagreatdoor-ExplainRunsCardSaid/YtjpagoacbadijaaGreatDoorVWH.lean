/- Walks over the program, part WH. Conditions: as each theorem says. -/
import Derived.Test.YtjpagoacbadijaaGreatDoorVFacts
import Derived.Test.YtjpagoacbadijaaGreatDoorVWB
import Derived.Test.YtjpagoacbadijaaGreatDoorVWD
import Derived.Test.YtjpagoacbadijaaGreatDoorVWF
import Derived.Test.YtjpagoacbadijaaGreatDoorVBe
set_option linter.all false
namespace Go.Rc
open Go Go.Proofs Go.Proofs.Tryz
variable {n r c e2 n1 e1 n2 g eg:Nat}{w:World}{k:Key}{ab:List aG}{A B Z M:Nat→Prop}{a a2 a1 ag:Option Addr}{l:List Rec}{x:dP}
set_option maxHeartbeats 400000
theorem BD{n:Int} :CR prog 140 #[.int .i64 n] w (.string (yn n)):=by
 refine enter func140 rfl ntmps140 rfl<|?_;have c0:aV [] w w:=aV.refl _ _;refine(aZ) (fun g4=>?_) fun g4=>?_
 ·
  simp at g4
  refine(cy) ?_;exact⟨by unfold yn;rw [if_pos g4],c0⟩
 simp at g4
 refine(cy) ?_;exact⟨by unfold yn;rw [if_neg g4],c0⟩
theorem uM :CR prog 107 #[k.val] w (.string (sY k)):=by
 refine enter func107 rfl ntmps107 rfl<|?_;have c0:aV [] w w:=aV.refl _ _;refine cS ?_;refine WL.go rfl (OX.box rfl rfl rfl fun b1 w1 oU dK=>?_);have s1:=oU.ext;have tD:=oU.j9 c0;have c1:=c0.trans s1;refine gM ?_;refine WP .r (PV.fa eT rfl)<|(bM) aU dK.range<|(aZ) (fun g3=>?_) fun g3=>?_
 ·
  simp at g3
  refine(cy) ?_;exact⟨by unfold sY;rw [if_pos g3],c1⟩
 simp at g3
 refine(bA) aq dK.range<|(dh) Mz (ee (k:=k)) ?_;rintro _ w2 ⟨rfl,s2⟩;have c2:=c1.trans s2;have dK:=dK.ext s2;refine(aZ) (fun g7=>?_) fun g7=>?_
 ·
  refine cS ?_;refine WP .r (PV.fa eT rfl)<|(bM) aU dK.range<|(dh) ac5 (BD (n:=k.kind)) ?_;rintro _ w3 ⟨rfl,s3⟩;have c3:=c2.trans s3;have dK:=dK.ext s3;refine(cy) ?_;exact⟨by unfold sY;rw [if_neg g3,if_pos g7],c3⟩
 refine(cy) ?_;exact⟨by unfold sY;rw [if_neg g3,if_neg (by simp [g7])],c2⟩
theorem G7(hr:ik A w a r c ab):CR prog 63 #[.slice a r c,k.val] w (.bool (js ab k)):=by
 refine enter func63 rfl ntmps63 rfl<|?_;have c0:aV [] w w:=aV.refl _ _;refine cS ?_;refine WL.go rfl (OX.box rfl rfl rfl fun b3 w1 iO dJ=>?_);have s1:=iO.ext;have qL:=iO.j9 c0;have c1:=c0.trans s1;refine dV ?_;refine WC.ou (t:=4) (v:=.bool (js ab k)) (aV [] w1) ?_<|?_
 ·
  refine WC.drawn (m:=17) (C:=aV [] w1) (T:=fun _=>aV []) (E:=dm [(1,fun v _=>v=.bool (gN k)),(14,fun v _=>v=.int .i64 (number k)),(15,fun v _=>v=(aL ab (number k)).val)]) (bK (⟨fun _ _ _ _ _ _ _ h=>h,⟨fun _ _ _ _ _ _ _ h=>h,⟨fun _ _ _ _ _ _ _ h=>h,trivial⟩⟩⟩)) mixed (by kernel_rfl) (aV.drew _ _)<|?_;refine DP .r (fun _ hC=>PV.Lp aq (dJ.ext hC).range rfl rfl)<|?_;refine DW.e rfl rfl rfl rfl rfl (fun wx hC hF=>OX.call Pg rfl rfl ((ks (k:=k)).mono ?_))<|?_
  ·
   rintro _ wy ⟨rfl,hy⟩;exact⟨_,rfl,hC.trans hy,hy,_,rfl,rfl⟩
  rintro _ wz _ rfl;refine(qe) (fun g7=>?_) (fun g7=>?_)
  ·
   refine DP .r (fun _ hC=>PV.fa eT rfl)<|DP .r (fun _ hC=>PV.ld1 aU (dJ.ext hC).range rfl rfl)<|(qe) (fun g11=>?_) (fun g11=>?_)
   ·
    refine DP .r (fun _ hC=>PV.fa eT rfl)<|DP .r (fun _ hC=>PV.ld1 aU (dJ.ext hC).range rfl rfl)<|(qe) (fun g16=>?_) (fun g16=>?_)
    ·
     refine(eb) ?_;rintro w2 s2 _;have c2:=c1.trans s2;have dJ:=dJ.ext s2;exact(iH) (by unfold js;simp only [g7,g11,g16];first | rfl | simp) s2
    refine nx ?_;refine DP .r (fun _ hC=>PV.Lp aq (dJ.ext hC).range rfl rfl)<|?_;refine DW.e rfl rfl rfl rfl rfl (fun wx hC hF=>OX.call SY rfl rfl ((mq (k:=k)).mono ?_))<|?_
    ·
     rintro _ wy ⟨rfl,hy⟩;exact⟨_,rfl,hC.trans hy,hy,_,rfl,rfl⟩
    rintro _ wz _ rfl;refine DW.e rfl rfl rfl rfl rfl (fun wx hC hF=>OX.call Bz rfl rfl ((gZ (n:=number k) (hr.ext (c1.trans hC))).mono ?_))<|?_
    ·
     rintro _ wy ⟨rfl,hy⟩;exact⟨_,rfl,hC.trans hy,hy,_,rfl,rfl⟩
    rintro _ wz _ rfl;refine DP .r (fun _ hC=>PV.Lp aq (dJ.ext hC).range rfl rfl)<|(eb)<|?_;rintro w2 s2 _;have c2:=c1.trans s2;have dJ:=dJ.ext s2;refine WP .r (PV.Kl gY (p:=aL ab (number k)) (q:=k) rfl rfl)<|?_;exact(iH) (by unfold js;simp only [g7,g11,g16];first | rfl | simp) s2
   refine jo ?_;refine DP .r (fun _ hC=>PV.Lp aq (dJ.ext hC).range rfl rfl)<|?_;refine DW.e rfl rfl rfl rfl rfl (fun wx hC hF=>OX.call SY rfl rfl ((mq (k:=k)).mono ?_))<|?_
   ·
    rintro _ wy ⟨rfl,hy⟩;exact⟨_,rfl,hC.trans hy,hy,_,rfl,rfl⟩
   rintro _ wz _ rfl;refine DW.e rfl rfl rfl rfl rfl (fun wx hC hF=>OX.call Bz rfl rfl ((gZ (n:=number k) (hr.ext (c1.trans hC))).mono ?_))<|?_
   ·
    rintro _ wy ⟨rfl,hy⟩;exact⟨_,rfl,hC.trans hy,hy,_,rfl,rfl⟩
   rintro _ wz _ rfl;refine DP .r (fun _ hC=>PV.Lp aq (dJ.ext hC).range rfl rfl)<|(eb)<|?_;rintro w2 s2 _;have c2:=c1.trans s2;have dJ:=dJ.ext s2;refine WP .r (PV.Kl gY (p:=aL ab (number k)) (q:=k) rfl rfl)<|?_;exact(iH) (by unfold js;simp only [g7,g11];first | rfl | simp) s2
  refine bf ?_;refine(eb) ?_;rintro w2 s2 _;have c2:=c1.trans s2;have dJ:=dJ.ext s2;exact(iH) (by unfold js;simp only [g7];first | rfl | simp) s2
 intro w2 s2;have c2:=c1.trans s2;have dJ:=dJ.ext s2;refine(cy) ?_;exact⟨rfl,c2⟩
theorem gL{ah:List ByteArray}{C:Nat→Prop}{r2:Nat}(ht:nO prog A w) (hr:ik B w a r c ab) (hl:Strs C w a2 r2 e2 ah) (hb:∀x∈ab,0≤x.c∧x.c≤65535∧x.asks.length≤1000) (hk:gT k):CR prog 75 #[.slice a r c,k.val,.slice a2 r2 e2] w ((aN ab k ah).val):=by
 refine enter func75 rfl ntmps75 rfl<|?_;have c0:aV [] w w:=aV.refl _ _;refine cS ?_;refine WL.go rfl (OX.box rfl rfl rfl fun b4 w1 jG bE=>?_);have s1:=jG.ext;have iw:=jG.j9 c0;have c1:=c0.trans s1;refine WL.go rfl (OX.alloc uI rfl fun b6 w2 mC eE=>?_);have s2:=mC.ext;have gz:=mC.j9 c1;have dY:b4≠b6:=mC.ne bE.lt;have pq:b6≠b4:=Ne.symm dY;have c2:=c1.trans s2;have bE:=bE.ext s2;refine eC ?_;refine WC.mI (t:=7) (v:=.bool (decide (k.kind=31) || decide (k.kind=32))) (fun wx=>w2=wx) ?_ ?_
 ·
  refine nx ?_;refine WP .r (PV.fa eT rfl)<|(bM) aU bE.range<|(ed) (fun g11=>?_) (fun g11=>?_)
  ·
   exact(dp) (by simp only [g11];first | rfl | simp) rfl
  refine WP .r (PV.fa eT rfl)<|(bM) aU bE.range<|?_;exact(dp) (by simp only [g11];first | rfl | simp) rfl
 rintro _ rfl;refine(aZ) (fun g7=>?_) fun g7=>?_
 ·
  simp at g7
  have hv:aN ab k ah=dt ab k ah:=by unfold aN;rw [if_pos g7]
  refine(bA) aq bE.range<|(dh) acL (Jy (k:=k) (ht.ext c2) (hr.ext c2) (hl.ext c2) hb) ?_;rintro _ w3 ⟨rfl,s3⟩;have c3:=c2.trans s3;have bE:=bE.ext s3;have eE:=eE.ext s3;refine WL.go rfl (OX.pB iS eE rfl rfl rfl rfl rfl fun w4 s4 _ eE=>?_);have c4:=c3.own s4 gz;have bE:=bE.cW s4 (by simp [dY]);refine(my) ko eE.range<|?_;rw [hv];exact⟨rfl,c4⟩
 simp at g7
 have hv:aN ab k ah=⟨true,⟨#[]⟩,dn⟩:=by unfold aN;rw [if_neg (by omega)]
 refine nx ?_;refine WC.mI (t:=20) (v:=.bool (az k || (decide (k.kind<1) || decide (22<k.kind)))) (aV [] w2) ?_<|?_
 ·
  refine(bA) aq bE.range<|(dh) My (fD (k:=k)) ?_;rintro _ w3 ⟨rfl,s3⟩;have c3:=c2.trans s3;have bE:=bE.ext s3;have eE:=eE.ext s3;refine(ed) (fun g23=>?_) (fun g23=>?_)
  ·
   exact(dp) (by simp only [g23];first | rfl | simp) s3
  refine WP .r (PV.fa eT rfl)<|(bM) aU bE.range<|(ed) (fun iN=>?_) (fun iN=>?_)
  ·
   exact(dp) (by simp only [g23,iN];first | rfl | simp) s3
  refine WP .r (PV.fa eT rfl)<|(bM) aU bE.range<|?_;exact(dp) (by simp only [g23,iN];first | rfl | simp) s3
 intro w3 s3;have c3:=c2.trans s3;have bE:=bE.ext s3;have eE:=eE.ext s3;refine(aZ) (fun g20=>?_) fun g20=>?_
 ·
  skip
  refine cS ?_;refine WP .r (PV.bU (us:=[.bool true,.string ⟨#[]⟩,.int .i64 0,.string ⟨#[]⟩]) pM rfl rfl rfl)<|?_;refine WL.go rfl (OX.pB iS eE rfl rfl rfl rfl rfl fun w4 s4 _ eE=>?_);have c4:=c3.own s4 gz;have bE:=bE.cW s4 (by simp [dY]);refine(my) ko eE.range<|?_;rw [hv];exact⟨rfl,c4⟩
 exfalso;simp at g20;rcases hk with h | h <;> omega
theorem Ai{rev:Int}(hl:Rd RR.fT 8 Z w a n c l):CR prog 36 #[.slice a n c,.int .i64 rev,k.val] w (.bool (cJ l rev k)):=by
 refine enter func36 rfl ntmps36 rfl<|?_;have c0:aV [] w w:=aV.refl _ _;refine cS ?_;refine WL.go rfl (OX.box rfl rfl rfl fun b5 w1 nh gw=>?_);have s1:=nh.ext;have tE:=nh.j9 c0;have c1:=c0.trans s1;refine(bA) aq gw.range<|(dh) tC (fw (k:=k) (hl.ext c1)) ?_;rintro _ w2 ⟨f1,f2,f3,rfl,s2⟩;have c2:=c1.trans s2;have gw:=gw.ext s2;refine dA ?_;refine WL.go rfl (OX.alloc tv rfl fun b7 w3 vZ om=>?_);have s3:=vZ.ext;have Ek:=vZ.j9 c2;have na:b5≠b7:=vZ.ne gw.lt;have JG:b7≠b5:=Ne.symm na;have c3:=c2.trans s3;have gw:=gw.ext s3;refine WL.go rfl (OX.pB iM om rfl rfl rfl rfl rfl fun w4 s4 _ om=>?_);have c4:=c3.own s4 Ek;have gw:=gw.cW s4 (by simp [na]);refine dV ?_;refine WC.ou (t:=6) (v:=.bool (cJ l rev k)) (aV [] w4) ?_<|?_
 ·
  refine(ed) (fun g16=>?_) (fun g16=>?_)
  ·
   refine(bA) aq gw.range<|(dh) Mz (ee (k:=k)) ?_;rintro _ w5 ⟨rfl,s5⟩;have c5:=c4.trans s5;have gw:=gw.ext s5;have om:=om.ext s5;refine(ed) (fun g20=>?_) (fun g20=>?_)
   ·
    refine WP .r (PV.fa tA rfl)<|(bM) aU om.range<|(ed) (fun kq=>?_) (fun kq=>?_)
    ·
     refine WP .r (PV.fa Jt rfl)<|(bM) fq om.range<|?_;exact(iH) (by unfold cJ;simp only [g16,g20,kq];first | rfl | simp) s5
    exact(iH) (by unfold cJ;simp only [g16,g20,kq];first | rfl | simp) s5
   exact(iH) (by unfold cJ;simp only [g16,g20];first | rfl | simp) s5
  refine bf ?_;exact(iH) (by unfold cJ;simp only [g16];first | rfl | simp) (aV.refl _ _)
 intro w5 s5;have c5:=c4.trans s5;have gw:=gw.ext s5;have om:=om.ext s5;refine(cy) ?_;exact⟨rfl,c5⟩
theorem JH(hi:Rd RR.aF 4 Z w a1 n1 e1 x.ad) (hr:Rd RR.fT 8 Z w a2 n2 e2 x.ak) {k:Key}:CR prog 23 #[.agg (x.row a1 n1 e1 a2 n2 e2).toArray,k.val] w (.tuple #[.string (uo x k),.bool (nQ x k)]):=by
 refine enter func23 rfl ntmps23 rfl<|?_;have c0:aV [] w w:=aV.refl _ _;refine cS ?_;refine WL.go rfl (OX.box rfl rfl rfl fun b2 w1 nv fl=>?_);have s1:=nv.ext;have qK:=nv.j9 c0;have c1:=c0.trans s1;refine WL.go rfl (OX.box rfl rfl rfl fun b3 w2 iO dJ=>?_);have s2:=iO.ext;have qL:=iO.j9 c1;have iy:b2≠b3:=iO.ne fl.lt;have po:b3≠b2:=Ne.symm iy;have c2:=c1.trans s2;have fl:=fl.ext s2;refine(bA) aq dJ.range<|(dh) My (fD (k:=k)) ?_;rintro _ w3 ⟨rfl,s3⟩;have c3:=c2.trans s3;have fl:=fl.ext s3;have dJ:=dJ.ext s3;refine(aZ) (fun g9=>?_) fun g9=>?_
 ·
  refine(bA) aP fl.range<|(bA) aq dJ.range<|(dh) acB (we (k:=k) (hi.ext c3) (hr.ext c3)) ?_;rintro _ w4 ⟨rfl,s4⟩;have c4:=c3.trans s4;have fl:=fl.ext s4;have dJ:=dJ.ext s4;refine(Fy) ?_;exact⟨by unfold uo nQ;rw [if_pos g9,g9];rfl,c4⟩
 refine eC ?_;refine WP .r (PV.fa vU rfl)<|(bM) fk fl.range<|(bA) aq dJ.range<|(dh) tC (fw (k:=k) (hr.ext c3)) ?_;rintro _ w4 ⟨f1,f2,f3,rfl,s4⟩;have c4:=c3.trans s4;have fl:=fl.ext s4;have dJ:=dJ.ext s4;refine dA ?_;refine WL.go rfl (OX.alloc tv rfl fun b6 w5 mC eE=>?_);have s5:=mC.ext;have gz:=mC.j9 c4;have Aj:b2≠b6:=mC.ne fl.lt;have XT:b6≠b2:=Ne.symm Aj;have gj:b3≠b6:=mC.ne dJ.lt;have tH:b6≠b3:=Ne.symm gj;have c5:=c4.trans s5;have fl:=fl.ext s5;have dJ:=dJ.ext s5;refine WL.go rfl (OX.pB iM eE rfl rfl rfl rfl rfl fun w6 s6 _ eE=>?_);have c6:=c5.own s6 gz;have fl:=fl.cW s6 (by simp [Aj]);have dJ:=dJ.cW s6 (by simp [gj]);refine dV ?_;refine WC.mI (t:=27) (v:=.bool (nQ x k)) (fun wx=>w6=wx) ?_ ?_
 ·
  refine(ed) (fun g21=>?_) (fun g21=>?_)
  ·
   refine WP .r (PV.fa tA rfl)<|(bM) aU eE.range<|?_;refine WP .r (PV.fa nV rfl)<|(bM) aU fl.range<|?_;exact(dp) (by unfold nQ;simp only [g9,g21];first | rfl | simp) rfl
  exact(dp) (by unfold nQ;simp only [g9,g21];first | rfl | simp) rfl
 rintro _ rfl;refine(aZ) (fun Bl=>?_) fun Bl=>?_
 ·
  refine cS ?_;refine WP .r (PV.fa zS rfl)<|(bM) iF eE.range<|(Fy) ?_;exact⟨by unfold uo;rw [if_neg (by simp [g9]),if_pos Bl,Bl],c6⟩
 refine(Fy) ?_;exact⟨by unfold uo;rw [if_neg (by simp [g9]),if_neg (by simp [Bl]),Bl],c6⟩
theorem Ak(hi:Rd RR.aF 4 Z w a1 n1 e1 x.ad) (hr:Rd RR.fT 8 Z w a2 n2 e2 x.ak) {k:Key}{v:ByteArray}{reads:List Key}{a:Option Addr}{n e:Nat}(hk:Rd RR.key 2 Z w a n e reads):Calls prog 102 #[.agg (x.row a1 n1 e1 a2 n2 e2).toArray,k.val,.string v,.slice a n e] w fun en w'=>en=.returned (.agg ((dI x k v reads).row a n e).toArray)∧aV [] w w':=by
 have hlen:=SR.len hk;have hle:=SR.le hk;refine enter func102 rfl ntmps102 rfl<|?_;have c0:aV [] w w:=aV.refl _ _;refine cS ?_;refine WL.go rfl (OX.box rfl rfl rfl fun b4 w1 jG bE=>?_);have s1:=jG.ext;have iw:=jG.j9 c0;have c1:=c0.trans s1;refine WL.go rfl (OX.box rfl rfl rfl fun b5 w2 nh gw=>?_);have s2:=nh.ext;have tE:=nh.j9 c1;have mV:b4≠b5:=nh.ne bE.lt;have tF:b5≠b4:=Ne.symm mV;have c2:=c1.trans s2;have bE:=bE.ext s2;refine WL.go rfl (OX.alloc tv rfl fun b8 w3 Da iY=>?_);have s3:=Da.ext;have vX:=Da.j9 c2;have lx:b4≠b8:=Da.ne bE.lt;have Jz:b8≠b4:=Ne.symm lx;have tL:b5≠b8:=Da.ne gw.lt;have XU:b8≠b5:=Ne.symm tL;have c3:=c2.trans s3;have bE:=bE.ext s3;have gw:=gw.ext s3;refine(bA) aq gw.range<|cS ?_;refine WP .r (PV.fa nV rfl)<|(bM) aU bE.range<|?_;refine WP .r (PV.fa nV rfl)<|(bM) aU bE.range<|nx ?_;refine WP .r (PV.jH fV rfl)<|nx ?_;refine WP .r (PV.bU (us:=(Rec.mk k v reads x.ae x.ae (1+(n:Int)) false).row a n e) acd rfl rfl rfl)<|?_;refine WL.go rfl (OX.alloc tv rfl fun b9 w4 PI Al=>?_);have s4:=PI.ext;have PJ:=PI.j9 c3;have tM:b4≠b9:=PI.ne bE.lt;have XV:b9≠b4:=Ne.symm tM;have tN:b5≠b9:=PI.ne gw.lt;have XW:b9≠b5:=Ne.symm tN;have tO:b8≠b9:=PI.ne iY.lt;have Am:b9≠b8:=Ne.symm tO;have c4:=c3.trans s4;have bE:=bE.ext s4;have gw:=gw.ext s4;have iY:=iY.ext s4;refine WL.go rfl (OX.pB iM Al rfl rfl rfl rfl rfl fun w5 s5 _ Al=>?_);have c5:=c4.own s5 PJ;have bE:=bE.cW s5 (by simp [tM]);have gw:=gw.cW s5 (by simp [tN]);have iY:=iY.cW s5 (by simp [tO]);refine eC ?_;refine WP .r (PV.fa vU rfl)<|(bM) fk bE.range<|(bA) aq gw.range<|(dh) tC (fw (k:=k) (hr.ext c5)) ?_;rintro _ w6 ⟨f1,f2,f3,rfl,s6⟩;have c6:=c5.trans s6;have bE:=bE.ext s6;have gw:=gw.ext s6;have iY:=iY.ext s6;have Al:=Al.ext s6;refine dA ?_;refine WL.go rfl (OX.alloc tv rfl fun iA w7 kL ft=>?_);have s7:=kL.ext;have Eg:=kL.j9 c6;have lP:b4≠iA:=kL.ne bE.lt;have G1:iA≠b4:=Ne.symm lP;have xo:b5≠iA:=kL.ne gw.lt;have UI:iA≠b5:=Ne.symm xo;have lQ:b8≠iA:=kL.ne iY.lt;have qM:iA≠b8:=Ne.symm lQ;have xp:b9≠iA:=kL.ne Al.lt;have G8:iA≠b9:=Ne.symm xp;have c7:=c6.trans s7;have bE:=bE.ext s7;have gw:=gw.ext s7;have iY:=iY.ext s7;have Al:=Al.ext s7;refine WL.go rfl (OX.pB iM ft rfl rfl rfl rfl rfl fun w8 s8 _ ft=>?_);have c8:=c7.own s8 Eg;have bE:=bE.cW s8 (by simp [lP]);have gw:=gw.cW s8 (by simp [xo]);have iY:=iY.cW s8 (by simp [lQ]);have Al:=Al.cW s8 (by simp [xp]);refine dV ?_;refine WC.mI (t:=36) (v:=.bool ((aB x.ak k).isSome && decide ((aH x.ak k).value=v))) (fun wx=>w8=wx) ?_ ?_
 ·
  refine(ed) (fun rV=>?_) (fun rV=>?_)
  ·
   refine WP .r (PV.fa zS rfl)<|(bM) iF ft.range<|?_;exact(dp) (by simp only [rV];first | rfl | simp) rfl
  exact(dp) (by simp only [rV];first | rfl | simp) rfl
 rintro _ rfl;refine(aZ) (fun gQ=>?_) fun gQ=>?_
 ·
  have hm:dI x k v reads=⟨k,v,reads,(aH x.ak k).changed,x.ae,1+(reads.length:Int),false⟩:=by unfold dI;rw [if_pos gQ]
  refine nx ?_;refine WP .r (PV.fa zT rfl)<|(bM) aU ft.range<|?_;refine WP .r (PV.fa zT rfl)<|?_;refine WL.go rfl (OX.st QT Al rfl rfl (by first | (simp [nth];done) | exact nns rfl) rfl rfl fun w9 s9 _ Al=>?_);have c9:=c8.own s9 PJ;have bE:=bE.cW s9 (by simp [tM]);have gw:=gw.cW s9 (by simp [tN]);have iY:=iY.cW s9 (by simp [tO]);have ft:=ft.cW s9 (by simp [G8]);refine(bA) eB Al.range<|?_;refine WL.go rfl (OX.pB iM iY rfl rfl rfl rfl rfl fun kE nZ _ iY=>?_);have Pv:=c9.own nZ vX;have bE:=bE.cW nZ (by simp [lx]);have gw:=gw.cW nZ (by simp [tL]);have Al:=Al.cW nZ (by simp [Am]);have ft:=ft.cW nZ (by simp [qM]);refine(my) eB iY.range<|?_;exact⟨by rw [hm,← hlen] <;> rfl,Pv⟩
 have hm:dI x k v reads=⟨k,v,reads,x.ae,x.ae,1+(reads.length:Int),false⟩:=by unfold dI;rw [if_neg (by simp [gQ])]
 refine(bA) eB Al.range<|?_;refine WL.go rfl (OX.pB iM iY rfl rfl rfl rfl rfl fun w9 s9 _ iY=>?_);have c9:=c8.own s9 vX;have bE:=bE.cW s9 (by simp [lx]);have gw:=gw.cW s9 (by simp [tL]);have Al:=Al.cW s9 (by simp [Am]);have ft:=ft.cW s9 (by simp [qM]);refine(my) eB iY.range<|?_;exact⟨by rw [hm,← hlen] <;> rfl,c9⟩
theorem ob{goals:List Key}{ar:Option Addr}(hu:ik A w ar r c ab) (hi:Rd RR.aF 4 Z w a1 n1 e1 x.ad) (hr:Rd RR.fT 8 Z w a2 n2 e2 x.ak) (hg:Dq B w ag g eg goals):CR prog 31 #[.slice ar r c,.agg (x.row a1 n1 e1 a2 n2 e2).toArray,.slice ag g eg] w (.int .i64 (gV ab x goals)):=by
 have hlen:=SR.len hg;have hle:=SR.le hg;refine enter func31 rfl ntmps31 rfl<|?_;have c0:aV [] w w:=aV.refl _ _;refine cS ?_;refine WL.go rfl (OX.box rfl rfl rfl fun b4 w1 jG bE=>?_);have s1:=jG.ext;have iw:=jG.j9 c0;have c1:=c0.trans s1;refine(dh) aiL (G2 (hu.ext c1)) ?_;rintro _ w2 ⟨bv,rfl,hbv,s2⟩;have c2:=c1.trans s2;have bE:=bE.ext s2;refine(aZ) (fun g9=>?_) fun g9=>?_
 ·
  simp at g9
  have hE:gV ab x goals=41:=by unfold gV;rw [if_pos (by rw [← hbv];simp [g9])]
  refine(cy) ?_;exact⟨by rw [hE],c2⟩
 simp at g9
 have hR:=hbv.1 g9;refine(bA) aP bE.range<|(dh) Xy (pr (hi.ext c2) (hr.ext c2)) ?_;rintro _ w3 ⟨bv2,rfl,adO,s3⟩;have c3:=c2.trans s3;have bE:=bE.ext s3;refine(aZ) (fun g13=>?_) fun g13=>?_
 ·
  simp at g13
  have hE:gV ab x goals=42:=by unfold gV;rw [if_neg (by simpa using hR),if_pos (by rw [← adO];simp [g13])]
  refine(cy) ?_;exact⟨by rw [hE],c3⟩
 simp at g13
 have hB:=adO.1 g13;refine dA ?_;refine WP .r (PV.jH fV rfl)<|(aZ) (fun g17=>?_) fun g17=>?_
 ·
  simp at g17
  have hE:gV ab x goals=3:=by unfold gV;rw [if_neg (by simpa using hR),if_neg (by simpa using hB),if_pos (by omega)]
  refine(cy) ?_;exact⟨by rw [hE],c3⟩
 simp at g17
 have hE:gV ab x goals=if goals.all (js ab) then 0 else 40:=by unfold gV;rw [if_neg (by simpa using hR),if_neg (by simpa using hB),if_neg (by omega)]
 refine gM ?_;refine WP .r (PV.jH fV rfl)<|dV ?_;refine WC.loop (σ:=Nat) (eP:=fun i=>[(0,.slice ar r c),(21,.slice ag g eg),(22,.int .i64 (g:Int)),(23,.int .i64 (i:Int))]) (I:=fun i w'=>aV [] w w'∧i≤g∧∀j y,j<i→goals[j]?=some y→js ab y=true) (μ:=fun i=>g - i) 0 Sub.t ⟨c3,by omega,fun j y h=>by omega⟩ ?_;rintro i w4 ⟨c4,ij,cY⟩;refine(aZ) (fun g24=>?_) fun g24=>?_
 ·
  simp at g24
  have cT:i<goals.length:=by omega
  obtain⟨S2,S3,S4,nY,_,JC,jr,_⟩:=SR.at hg (ao cT);subst JC;refine eC ?_;have jr:=bH jr c4 (by simp);refine nx ?_;refine WP .r (PV.fO fV nY rfl rfl (by omega))<|(bA) aq jr<|?_;refine WL.go rfl (OX.alloc Jr rfl fun b8 w5 Da iY=>?_);have s5:=Da.ext;have vX:=Da.j9 c4;have c5:=c4.trans s5;refine WL.go rfl (OX.pB jz iY rfl rfl rfl rfl rfl fun w6 s6 _ iY=>?_);have c6:=c5.own s6 vX;refine(bA) aq iY.range<|(dh) acC (G7 (k:=goals[i]) (hu.ext c6)) ?_;rintro _ w7 ⟨rfl,s7⟩;have c7:=c6.trans s7;have iY:=iY.ext s7;refine(aZ) (fun lO=>?_) fun lO=>?_
  ·
   simp at lO
   have hE:gV ab x goals=40:=by rw [hE,if_neg];rw [List.all_eq_true];intro h;have:=h _ (List.getElem_mem cT);rw [lO] at this;cases this
   refine(cy) ?_;exact⟨by rw [hE],c7⟩
  simp at lO
  refine gM ?_;refine EX.again (i+1) (Sub.k2 rfl rfl<|Sub.cons rfl<|Sub.kN rfl (by simp)<|Sub.nil) ⟨c7,by omega,dD (P:=fun _ y=>js ab y=true) cT cY lO⟩ (by omega)
 simp at g24
 have hE:gV ab x goals=0:=by rw [hE,if_pos];rw [List.all_eq_true];intro y hy;obtain⟨j,hj,rfl⟩:=List.mem_iff_getElem.1 hy;exact cY j _ (by omega) (ao hj)
 refine(cy) ?_;exact⟨by rw [hE],c4⟩
theorem uN{group:List Key}(bJ:St w M Z w []) (hl:Rd RR.fT 8 Z w a n c l) (hg:Rd RR.key 2 Z w ag g eg group) (hb:∀i,(((group.take i).flatMap fun m=>dW group m (aH l m).reads)).length≤100000000):Calls prog 97 #[.slice a n c,.slice ag g eg] w fun e w'=>∃a' n' c' Z',e=.returned (.slice a' n' c')∧cI w.heap.size Z Z'∧St w M Z' w' [As.os RR.LM 126 4 a' n' c' (bW l group)]:=by
 have hlen:=hg.len;have hle:=hg.le;refine enter func97 rfl ntmps97 rfl<|?_;have bd:=bJ;have st1:=bd.fr hl;have st2:=st1.fr hg;have aW:=st2.eR RR.LM 126 4;refine bf ?_;refine gM ?_;refine WC.kh (σ:=Nat × (Nat→Prop) × (List sg) × (Option Addr) × Nat × Nat) (eP:=fun(i,Z1,acc,cE,cj,cF)=>[(0,.slice a n c),(1,.slice ag g eg),(5,.slice cE cj cF),(12,.slice ag g eg),(13,.int .i64 (g:Int)),(14,.int .i64 (i:Int))]) (F:=fun(i,Z1,acc,cE,cj,cF)=>[As.os RR.LM 126 4 cE cj cF (acc)]) (I:=fun(i,Z1,acc,cE,cj,cF)=>(i≤g)∧(cI w.heap.size Z Z1)∧(acc=(group.take i).flatMap fun m=>dW group m (aH l m).reads)∧True) (μ:=fun(i,Z1,acc,cE,cj,cF)=>g - i) (Zf:=fun(i,Z1,acc,cE,cj,cF)=>Z1) (0,Z,[],none,0,0) (aW) Sub.t (⟨by omega,cI.refl _ _,by simp,trivial⟩)<|?_;rintro⟨i,Z1,acc,cE,cj,cF⟩ w1 ba ⟨hi,hZ,eu,_⟩;simp only [CA,NA] at ba hi hZ eu ⊢;refine(aZ) (fun g15=>?_) fun g15=>?_
 ·
  simp at g15
  have cT:i<group.length:=by omega
  refine eC ?_;obtain⟨iz,ku,jW,aX,gk,bF,cQ,dO⟩:=Rd.at (As.gr ba.g1) cT;have bF:=RR.cG bF;subst bF;have bs:=ba.fg dO cQ;refine nx ?_;refine WP .r (PV.fO fV aX rfl rfl (by omega))<|(bA) aq (As.oS bs.g0)<|(gy) bs fun b7 w2 vZ om bj=>?_;refine(dB) jz bj fun w3 jV j0 bV=>?_;refine(bA) aq bV.b0<|?_;have bT:=bV;refine(dh) tC (j3 (k:=group[i]) bT.e0 (As.gr bT.g4)) ?_;rintro _ w4 ⟨f1,f2,f3,rfl,hq4,iV⟩;have cm:=St.lr bT iV;have qi:=St.cH iV;have hsz:=bT.size;have aM:=cm.bN (by omega);have ly:=hZ.trans (cI.fc (F:=fun x=>x∈aI f1) qi) hsz;have hqn:=((As.gr aM.g0)).len;refine(gy) aM fun b8 w5 Da iY aO=>?_;refine(dB) iM aO fun w6 sC nj aS=>?_;refine(bM) gJ aS.b0<|eC ?_;refine WC.cq (σ:=Nat × (List sg) × (Option Addr) × Nat × Nat) (eP:=fun(j,jm,cE,cj,cF)=>[(0,.slice a n c),(1,.slice ag g eg),(5,.slice cE cj cF),(7,.pointer (some ⟨b7,0,none⟩)),(12,.slice ag g eg),(13,.int .i64 (g:Int)),(14,.int .i64 (i:Int)),(25,.slice f1 f2 f3),(26,.int .i64 (f2:Int)),(27,.int .i64 (j:Int))]) (F:=fun(j,jm,cE,cj,cF)=>[As.os RR.LM 126 4 cE cj cF (jm)]) (I:=fun(j,jm,cE,cj,cF)=>(j≤f2)∧(jm=acc++dW group group[i] ((aH l group[i]).reads.take j))∧True) (μ:=fun(j,jm,cE,cj,cF)=>f2 - j) (0,acc,cE,cj,cF) (aS.p4) Sub.t (⟨by omega,by simp [dW],trivial⟩)<|?_;rintro⟨j,jm,cE,cj,cF⟩ w7 bC ⟨hj,qN,_⟩;simp only [CA,NA] at bC hj qN ⊢;have l4:=((As.gs bC.g0)).len;have Lh:=hb i;rw [← eu] at Lh;have BA:=mh group group[i] ((aH l group[i]).reads.take j)
  have htl:jm.length≤100100000:=by rw [qN,List.length_append];rw [List.length_take] at BA;omega
  refine(aZ) (fun iN=>?_) fun iN=>?_
  ·
   simp at iN
   have lV:j<(aH l group[i]).reads.length:=by omega
   refine eC ?_;obtain⟨xX,MG,JI,gp,An,im,lS,qO⟩:=Rd.at (As.gr bC.g2) lV;have im:=RR.cG im;subst im;have br:=bC.fg qO lS;refine nx ?_;refine WP .r (PV.fO fV gp rfl rfl (by omega))<|(bA) aq (As.oS br.g0)<|(gy) br fun yf w8 ajr ajs aY=>?_;refine(dB) jz aY fun w9 BC rq aQ=>?_;refine(bA) aq aQ.b0<|(iu) (oJ (k:=(aH l group[i]).reads[j]) (As.gr aQ.g7)) aQ fun kE nZ bB=>?_;refine(aZ) (fun xV=>?_) fun xV=>?_
   ·
    simp at xV
    have Mq:=lA (group:=group) (m:=group[i]) lV;rw [if_neg xV] at Mq;refine(bA) aq bB.b5<|(bA) aq bB.b0<|?_;refine WP .r (PV.bU (us:=(sg.mk group[i] (aH l group[i]).reads[j]).cells) Ug rfl rfl rfl)<|?_;refine WL.go rfl (OX.aR (us:=(sg.mk group[i] (aH l group[i]).reads[j]).cells) K6 rfl rfl rfl rfl fun b39 kF ajt aju=>?_);have bL:=bB.eI ajt aju;refine WL.ap rfl rfl bL.p3 (SR.ek (A:=fun _=>True) (x:=sg.mk group[i] (aH l group[i]).reads[j]) (As.gb bL.g0) trivial rfl (by simp [sg.cells,Value.oneCell']) rfl) fun a40 ajv qf aq5 aq6 bG=>?_;refine kP ?_;refine fJ (j+1,_,a40,(cj+1),ajv) ⟨bG.p1.drop.p1.drop.p1.drop,⟨by omega,by rw [Mq,qN,List.append_assoc],trivial⟩⟩
   simp at xV
   have Mq:=lA (group:=group) (m:=group[i]) lV;rw [if_pos xV] at Mq;refine gM ?_;refine fJ (j+1,_,cE,cj,cF) ⟨bB.drop.drop,⟨by omega,by rw [Mq,qN],trivial⟩⟩
  simp at iN
  have cY:(aH l group[i]).reads.take j=(aH l group[i]).reads:=List.take_of_length_le (by omega);refine oC ?_;refine fJ (i+1,_,jm,cE,cj,cF) ⟨bC.p6.p6.p2.k3,⟨by omega,ly,by rw [qN,cY,eu,List.take_succ_eq_append_getElem cT];simp only [List.flatMap_append,List.flatMap_cons,List.flatMap_nil,List.append_nil],trivial⟩⟩
 simp at g15
 have cY:group.take i=group:=List.take_of_length_le (by omega);rw [cY] at eu;subst eu;refine(cy) ?_;exact⟨_,_,_,_,rfl,hZ,ba.p1.drop.p1.drop⟩
set_option maxHeartbeats 400000
theorem Ao{l:List et}(hl:Rd RR.pT 6 Z w a r c l):CR prog 144 #[.slice a r c,k.val] w (.bool (kC l k)):=by
 have hle:=SR.le hl;have hlen:=SR.len hl;refine enter func144 rfl ntmps144 rfl<|?_;have c0:aV [] w w:=aV.refl _ _;refine cS ?_;refine WL.go rfl (OX.box rfl rfl rfl fun b3 w1 iO dJ=>?_);have s1:=iO.ext;have qL:=iO.j9 c0;have c1:=c0.trans s1;refine gM ?_;refine WP .r (PV.jH xf rfl)<|dV ?_;refine WC.loop (σ:=Nat) (eP:=fun i=>[(3,.pointer (some ⟨b3,0,none⟩)),(7,.slice a r c),(8,.int .i64 (r:Int)),(9,.int .i64 (i:Int))]) (I:=fun i w'=>aV [] w w'∧cV w' b3 39 [.int .i64 k.kind,.string k.text]∧i≤r∧∀j y,j<i→l[j]?=some y→decide (et.key y=k)=false) (μ:=fun i=>r - i) 0 Sub.t ⟨c1,dJ,by omega,fun j y h=>by omega⟩ ?_;rintro i w2 ⟨c2,dJ,hi,gR⟩;refine(aZ) (fun g10=>?_) fun g10=>?_
 ·
  simp at g10
  have cT:i<l.length:=by omega
  refine eC ?_;obtain⟨S2,S3,S4,nY,_,⟨q1,q2,q3,q4,q5,q6,rfl,_⟩,jr,_⟩:=SR.at hl (ao cT);have jr:=bH jr c2 (by simp);refine nx ?_;refine WP .r (PV.fO xf nY rfl rfl (by omega))<|(bA) vS jr<|?_;refine WL.go rfl (OX.alloc Uo rfl fun b6 w3 mC eE=>?_);have s3:=mC.ext;have gz:=mC.j9 c2;have gj:b3≠b6:=mC.ne dJ.lt;have tH:b6≠b3:=Ne.symm gj;have c3:=c2.trans s3;have dJ:=dJ.ext s3;refine WL.go rfl (OX.pB La eE rfl rfl rfl rfl rfl fun w4 s4 _ eE=>?_);have c4:=c3.own s4 gz;have dJ:=dJ.cW s4 (by simp [gj]);refine dV ?_;refine WP .r (PV.fa Le rfl)<|(kB) aq eE.range<|(bA) aq dJ.range<|?_;refine WP .r (PV.Kl gY (p:=l[i].key) (q:=k) rfl rfl)<|(aZ) (fun g16=>?_) fun g16=>?_
  ·
   have hv:kC l k=true:=List.any_eq_true.2 ⟨_,List.getElem_mem cT,g16⟩;refine(cy) ?_;exact⟨by rw [hv],c4⟩
  skip
  refine gM ?_;refine EX.again (i+1) (Sub.k2 rfl rfl<|Sub.cons rfl<|Sub.kN rfl (by simp)<|Sub.nil) ⟨c4,dJ,by omega,dD (P:=fun _ (y:et)=>decide (y.key=k)=false) cT gR g16⟩ (by omega)
 simp at g10
 have hv:kC l k=false:=List.any_eq_false.2 fun y hy=>by obtain⟨j,hj,rfl⟩:=List.mem_iff_getElem.1 hy;simpa using gR j _ (by omega) (ao hj)
 refine(cy) ?_;exact⟨by rw [hv],c2⟩
theorem uO(hi:Rd RR.aF 4 Z w a1 n1 e1 x.ad) (hr:Rd RR.fT 8 Z w a2 n2 e2 x.ak) {l:List et}{k:Key}{a:Option Addr}{n c:Nat}(hl:Rd RR.pT 6 Z w a n c l):CR prog 113 #[.agg (x.row a1 n1 e1 a2 n2 e2).toArray,.slice a n c,k.val] w (.bool (gu x l k)):=by
 refine enter func113 rfl ntmps113 rfl<|?_;have c0:aV [] w w:=aV.refl _ _;refine cS ?_;refine WL.go rfl (OX.box rfl rfl rfl fun b3 w1 iO dJ=>?_);have s1:=iO.ext;have qL:=iO.j9 c0;have c1:=c0.trans s1;refine WL.go rfl (OX.box rfl rfl rfl fun b5 w2 nh gw=>?_);have s2:=nh.ext;have tE:=nh.j9 c1;have JJ:b3≠b5:=nh.ne dJ.lt;have XX:b5≠b3:=Ne.symm JJ;have c2:=c1.trans s2;have dJ:=dJ.ext s2;refine eC ?_;refine WC.mI (t:=15) (v:=.bool (az k || kC l k)) (aV [] w2) ?_<|?_
 ·
  refine(bA) aq gw.range<|(dh) My (fD (k:=k)) ?_;rintro _ w3 ⟨rfl,s3⟩;have c3:=c2.trans s3;have dJ:=dJ.ext s3;have gw:=gw.ext s3;refine(ed) (fun g11=>?_) (fun g11=>?_)
  ·
   exact(dp) (by simp only [g11];first | rfl | simp) s3
  refine(bA) aq gw.range<|(dh) Pk (Ao (k:=k) (hl.ext c3)) ?_;rintro _ w4 ⟨rfl,s4⟩;have c4:=c3.trans s4;have dJ:=dJ.ext s4;have gw:=gw.ext s4;exact(dp) (by simp only [g11];first | rfl | simp) (s3.trans s4)
 intro w3 s3;have c3:=c2.trans s3;have dJ:=dJ.ext s3;have gw:=gw.ext s3;refine(aZ) (fun g15=>?_) fun g15=>?_
 ·
  have hv:gu x l k=false:=by unfold gu;rw [g15];rfl
  refine(cy) ?_;exact⟨by rw [hv],c3⟩
 have hv:gu x l k=(!(aB x.ak k).isSome || decide ((aH x.ak k).ax≠x.ae)):=by unfold gu;rw [g15];rfl
 refine dV ?_;refine WP .r (PV.fa vU rfl)<|(bM) fk dJ.range<|(bA) aq gw.range<|(dh) tC (fw (k:=k) (hr.ext c3)) ?_;rintro _ w4 ⟨f1,f2,f3,rfl,s4⟩;have c4:=c3.trans s4;have dJ:=dJ.ext s4;have gw:=gw.ext s4;refine dA ?_;refine WL.go rfl (OX.alloc tv rfl fun b7 w5 vZ om=>?_);have s5:=vZ.ext;have Ek:=vZ.j9 c4;have Ap:b3≠b7:=vZ.ne dJ.lt;have XY:b7≠b3:=Ne.symm Ap;have na:b5≠b7:=vZ.ne gw.lt;have JG:b7≠b5:=Ne.symm na;have c5:=c4.trans s5;have dJ:=dJ.ext s5;have gw:=gw.ext s5;refine WL.go rfl (OX.pB iM om rfl rfl rfl rfl rfl fun w6 s6 _ om=>?_);have c6:=c5.own s6 Ek;have dJ:=dJ.cW s6 (by simp [Ap]);have gw:=gw.cW s6 (by simp [na]);refine dV ?_;refine WC.ou (t:=6) (v:=.bool (gu x l k)) (fun wx=>w6=wx) ?_ ?_
 ·
  refine(ed) (fun eZ=>?_) (fun eZ=>?_)
  ·
   exact(iH) (by rw [hv];simp only [eZ];first | rfl | simp) rfl
  refine WP .r (PV.fa tA rfl)<|(bM) aU om.range<|?_;refine WP .r (PV.fa nV rfl)<|(bM) aU dJ.range<|?_;exact(iH) (by rw [hv];simp only [eZ];first | rfl | simp) rfl
 rintro _ rfl;refine(cy) ?_;exact⟨rfl,c6⟩
theorem Aq(hi:Rd RR.aF 4 Z w a1 n1 e1 x.ad) (hr:Rd RR.fT 8 Z w a2 n2 e2 x.ak) {l others:List et}{k:Key}{a a3:Option Addr}{n c n3 e3:Nat}(hl:Rd RR.pT 6 Z w a n c l) (ho:Rd RR.pT 6 Z w a3 n3 e3 others):CR prog 145 #[.agg (x.row a1 n1 e1 a2 n2 e2).toArray,.slice a n c,.slice a3 n3 e3,k.val] w (.int .i64 (dH x l others k)):=by
 refine enter func145 rfl ntmps145 rfl<|?_;have c0:aV [] w w:=aV.refl _ _;refine cS ?_;refine WL.go rfl (OX.box rfl rfl rfl fun b4 w1 jG bE=>?_);have s1:=jG.ext;have iw:=jG.j9 c0;have c1:=c0.trans s1;refine WL.go rfl (OX.box rfl rfl rfl fun b7 w2 vZ om=>?_);have s2:=vZ.ext;have Ek:=vZ.j9 c1;have JK:b4≠b7:=vZ.ne bE.lt;have XZ:b7≠b4:=Ne.symm JK;have c2:=c1.trans s2;have bE:=bE.ext s2;refine jo ?_;refine WC.mI (t:=9) (v:=.bool (!aA k && kC l k)) (aV [] w2) ?_<|?_
 ·
  refine(bA) aq om.range<|(dh) Mz (ee (k:=k)) ?_;rintro _ w3 ⟨rfl,s3⟩;have c3:=c2.trans s3;have bE:=bE.ext s3;have om:=om.ext s3;refine(ed) (fun g13=>?_) (fun g13=>?_)
  ·
   refine(bA) aq om.range<|(dh) Pk (Ao (k:=k) (hl.ext c3)) ?_;rintro _ w4 ⟨rfl,s4⟩;have c4:=c3.trans s4;have bE:=bE.ext s4;have om:=om.ext s4;exact(dp) (by simp only [g13];first | rfl | simp) (s3.trans s4)
  exact(dp) (by simp only [g13];first | rfl | simp) s3
 intro w3 s3;have c3:=c2.trans s3;have bE:=bE.ext s3;have om:=om.ext s3;refine(aZ) (fun g9=>?_) fun g9=>?_
 ·
  skip
  refine(cy) ?_;exact⟨by unfold dH;rw [if_pos g9],c3⟩
 have g9:¬((!aA k && kC l k)=true):=by simp [g9]
 refine(bA) aP bE.range<|(bA) aq om.range<|(dh) Uw (uO (k:=k) (hi.ext c3) (hr.ext c3) (hl.ext c3)) ?_;rintro _ w4 ⟨rfl,s4⟩;have c4:=c3.trans s4;have bE:=bE.ext s4;have om:=om.ext s4;refine(aZ) (fun g18=>?_) fun g18=>?_
 ·
  skip
  refine(cy) ?_;exact⟨by unfold dH;rw [if_neg g9,if_pos g18],c4⟩
 have g18:¬((!gu x l k)=true):=by simp [g18]
 refine(bA) aq om.range<|(dh) Pk (Ao (k:=k) (ho.ext c4)) ?_;rintro _ w5 ⟨rfl,s5⟩;have c5:=c4.trans s5;have bE:=bE.ext s5;have om:=om.ext s5;refine(aZ) (fun g24=>?_) fun g24=>?_
 ·
  skip
  refine(cy) ?_;exact⟨by unfold dH;rw [if_neg g9,if_neg g18,if_pos g24],c5⟩
 have g24:¬((!kC others k)=true):=by simp [g24]
 refine(bA) aq om.range<|(dh) Mz (ee (k:=k)) ?_;rintro _ w6 ⟨rfl,s6⟩;have c6:=c5.trans s6;have bE:=bE.ext s6;have om:=om.ext s6;refine(aZ) (fun qg=>?_) fun qg=>?_
 ·
  skip
  refine(cy) ?_;exact⟨by unfold dH;rw [if_neg g9,if_neg g18,if_neg g24,if_pos qg],c6⟩
 refine(cy) ?_;exact⟨by unfold dH;rw [if_neg g9,if_neg g18,if_neg g24,if_neg (by simp [qg])],c6⟩
theorem xY{l:List aG}(bJ:St w M Z w []) (hl:Rd RR.gF 4 Z w a n c l) (h6:l.length≤1000000) (h4:∀x∈l,x.asks.length≤1000):Calls prog 110 #[.slice a n c] w fun e w'=>∃a' n' c' Z',e=.returned (.slice a' n' c')∧cI w.heap.size Z Z'∧St w M Z' w' [As.os RR.gF 59 4 a' n' c' l]:=by
 have hlen:=hl.len;have hle:=hl.le;refine enter func110 rfl ntmps110 rfl<|?_;have bd:=bJ;have st1:=bd.fr hl;have st2:=st1.eR RR.gF 59 4;refine bf ?_;refine gM ?_;refine WC.kh (σ:=Nat × (Nat→Prop) × (List aG) × (Option Addr) × Nat × Nat) (eP:=fun(i,Z1,acc,cE,cj,cF)=>[(3,.slice cE cj cF),(6,.slice a n c),(7,.int .i64 (n:Int)),(8,.int .i64 (i:Int))]) (F:=fun(i,Z1,acc,cE,cj,cF)=>[As.os RR.gF 59 4 cE cj cF (acc)]) (I:=fun(i,Z1,acc,cE,cj,cF)=>(i≤n)∧(cI w.heap.size Z Z1)∧(acc=l.take i)∧True) (μ:=fun(i,Z1,acc,cE,cj,cF)=>n - i) (Zf:=fun(i,Z1,acc,cE,cj,cF)=>Z1) (0,Z,[],none,0,0) (st2) Sub.t (⟨by omega,cI.refl _ _,by simp,trivial⟩)<|?_;rintro⟨i,Z1,acc,cE,cj,cF⟩ w1 aW ⟨hi,hZ,eu,_⟩;simp only [CA,NA] at aW hi hZ eu ⊢;have l4:=((As.gs aW.g0)).len
 have BA:acc.length≤1000000:=by rw [eu,List.length_take];omega
 refine(aZ) (fun g9=>?_) fun g9=>?_
 ·
  simp at g9
  have cT:i<l.length:=by omega
  refine eC ?_;obtain⟨iz,ku,jW,aX,gk,bF,cQ,dO⟩:=Rd.at (As.gr aW.g1) cT;obtain⟨q1,q2,q3,rfl,adR⟩:=bF;have ba:=aW.fg dO cQ;have adS:Rd RR.ask 4 _ _ q1 q2 q3 l[i].asks:=adR;have bs:=ba.fr (adS);have rI:=h4 _ (List.getElem_mem cT);have hqn:=SR.len adS;have bj:=bs.eR RR.ask 61 4;refine nx ?_;refine WP .r (PV.fO ll aX rfl rfl (by omega))<|(bA) xd (As.oS bj.g2)<|(gy) bj fun b5 w2 nh gw bV=>?_;refine(dB) Jp bV fun w3 jV j0 bT=>?_;refine(bM) mT bT.b0<|?_;have hsz:=bT.size;refine WL.ap rfl rfl bT.p1 ((As.gr bT.g2)) fun PK JL w4 MH adT cm=>?_;refine nx ?_;refine WL.s1 cm.p1 fun w5 _ aM=>?_;refine cS ?_;have aO:=aM.p1.bN (by simp;omega)
  have qi:∀x∈aI PK,w.heap.size≤x:=fun x hx=>by rcases MH x hx with h | h;simp [aI] at h;omega
  have ly:=hZ.trans (cI.fc (F:=fun x=>x∈aI PK) qi) (Nat.le_refl _);refine(bA) xd aO.b1<|?_;refine WL.go rfl (OX.aR (us:=l[i].row _ _ _) O6 rfl rfl rfl rfl fun b18 w6 X0 X2=>?_);have aS:=aO.eI X0 X2;refine WL.ap rfl rfl aS.p5 (SR.ek (A:=fun _=>True) (x:=l[i]) (As.gb aS.g0) trivial rfl (aG.one _ _ _ _) ⟨_,_,_,rfl,(As.gr aS.g1)⟩) fun a19 X3 w7 ajx ajy bC=>?_;refine kP ?_;refine fJ (i+1,_,acc++[l[i]],a19,(cj+1),X3) ⟨bC.p6.p1.k2,⟨by omega,ly,by rw [eu,List.take_succ_eq_append_getElem cT],trivial⟩⟩
 simp at g9
 have cY:acc=l:=by rw [eu];exact List.take_of_length_le (by omega)
 subst cY;refine(cy) ?_;exact⟨_,_,_,_,rfl,hZ,aW.p1.drop⟩
end Go.Rc

