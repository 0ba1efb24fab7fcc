/- Walks over the program, part WD. Conditions: as each theorem says. -/
import Derived.Test.YtjpagoacbadijaaGreatDoorNFacts
import Derived.Test.YtjpagoacbadijaaGreatDoorNWB
import Derived.Test.YtjpagoacbadijaaGreatDoorNBb
set_option linter.all false
namespace Go.Rc
open Go Go.Proofs Go.Proofs.Tryz
variable {ab:List aG}{A:Nat→Prop}{a:Option Addr}{r c n:Nat}{w:World}
set_option maxHeartbeats 400000
theorem Di{i:Nat}{x:Ask}{n:Int}(hr:il A w a r c ab) (hi:i<ab.length):CR prog 95 #[.slice a r c,.int .i64 (i:Int),x.val,.int .i64 n] w (.bool (iC ab i x.cell n)):=by
 have hle:=hr.le;have hlen:=hr.len;have lD:=cQ hi;refine enter func95 rfl ntmps95 rfl<|?_;have c0:aV [] w w:=aV.refl _ _;refine cS ?_;refine WL.go rfl (OX.box rfl rfl rfl fun b6 w1 mD eE=>?_);have s1:=mD.ext;have gC:=mD.ki c0;have c1:=c0.trans s1;refine ji ?_;refine WP .r (PV.fa Ei rfl)<|(bL) ft eE.range<|(aZ) (fun g12=>?_) fun g12=>?_
 ·
  refine nx ?_;refine WC.oA (t:=8) (v:=.bool (decide (0≤n) && decide (n≤15))) (fun wx=>w1=wx) ?_ ?_
  ·
   refine(dY) (fun g15=>?_) (fun g15=>?_)
   ·
    exact(iK) (by simp only [g15];first | rfl | simp) rfl
   exact(iK) (by simp only [g15];first | rfl | simp) rfl
  rintro _ rfl;refine(cA) ?_;exact⟨by unfold iC;rw [if_pos g12],c1⟩
 refine(dj) acJ (xw (n:=(i:Int)) (hr.ext c1)) ?_;rintro _ w2 ⟨rfl,s2⟩;have c2:=c1.trans s2;have eE:=eE.ext s2;refine qi ?_;obtain⟨b1,o1,r1,oa,_,⟨q1,q2,q3,rfl,_⟩,js,_⟩:=(hr.ext c2).at (ao hi);refine dE ?_;refine WP .r (PV.fI lq oa rfl rfl (by omega))<|WP .r (PV.fa mX rfl)<|(bL) ft js<|(aZ) (fun lQ=>?_) fun lQ=>?_
 ·
  have ht:gP ab i=(block ab i).1:=by unfold gP;rw [lD];simp at lQ;rw [lQ];rfl
  refine ji ?_;refine WC.oA (t:=8) (v:=.bool (decide (0≤n) && decide (n<gP ab i))) (fun wx=>w2=wx) ?_ ?_
  ·
   refine(dY) (fun yb=>?_) (fun yb=>?_)
   ·
    exact(iK) (by simp only [ht,yb];first | rfl | simp) rfl
   exact(iK) (by simp only [ht,yb];first | rfl | simp) rfl
  rintro _ rfl;refine(cA) ?_;exact⟨by unfold iC;rw [g12];rfl,c2⟩
 have ht:gP ab i=(block ab i).2:=by unfold gP;rw [lD];simp at lQ;rw [lQ];rfl
 refine dE ?_;refine WC.oA (t:=8) (v:=.bool (decide (0≤n) && decide (n<gP ab i))) (fun wx=>w2=wx) ?_ ?_
 ·
  refine(dY) (fun yb=>?_) (fun yb=>?_)
  ·
   exact(iK) (by simp only [ht,yb];first | rfl | simp) rfl
  exact(iK) (by simp only [ht,yb];first | rfl | simp) rfl
 rintro _ rfl;refine(cA) ?_;exact⟨by unfold iC;rw [g12];rfl,c2⟩
theorem Aj{s:ByteArray} :CR prog 142 #[.string s] w (.int .i64 (dH s:Int)):=by
 refine enter func142 rfl ntmps142 rfl<|?_;have c0:aV [] w w:=aV.refl _ _;refine(dj) UL (sB (s:=s)) ?_;rintro _ w1 ⟨rfl,s1⟩;have c1:=c0.trans s1;refine ek ?_;refine WC.mJ (t:=11) (v:=.bool (decide (ff s<0) || decide (65535<ff s))) (fun wx=>w1=wx) ?_ ?_
 ·
  refine(dY) (fun g8=>?_) (fun g8=>?_)
  ·
   exact(dt) (by simp only [g8];first | rfl | simp) rfl
  exact(dt) (by simp only [g8];first | rfl | simp) rfl
 rintro _ rfl;refine(aZ) (fun g11=>?_) fun g11=>?_
 ·
  simp at g11
  have hv:dH s=0:=by unfold dH;rw [if_pos g11]
  refine(cA) ?_;rw [hv];exact⟨rfl,c1⟩
 simp at g11
 have hv:(dH s:Int)=ff s:=by unfold dH;rw [if_neg (by omega)];omega
 refine(cA) ?_;rw [hv];exact⟨rfl,c1⟩
theorem G7{l:List ByteArray}{ring:Bool}{a1:Option Addr}{n1 e1:Nat}{fin:Int}{cc:Nat}(hl:Strs A w a r c l) (hc:cc≤65535) (h6:r≤1000):CR prog 141 #[.agg #[.bool ring,.slice a1 n1 e1,.int .i64 fin,.int .i64 (cc:Int)],.slice a r c] w (.int .i64 (eZ fin cc (l.map dH):Int)):=by
 have hlen:=hl.len
 have En:∀x∈l.map dH,x≤65535:=fun x hx=>by obtain⟨s,_,rfl⟩:=List.mem_map.1 hx;exact nG s
 have BM:∀i,∀x∈(l.map dH).take i,x≤65535:=fun i x hx=>En x (List.mem_of_mem_take hx);refine enter func141 rfl ntmps141 rfl<|?_;have c0:aV [] w w:=aV.refl _ _;refine cS ?_;refine WL.go rfl (OX.box rfl rfl rfl fun b2 w1 nz fm=>?_);have s1:=nz.ext;have qM:=nz.ki c0;have c1:=c0.trans s1;refine dW ?_;refine WC.drawn (m:=8) (C:=aV [] w1) (T:=fun _=>aV []) (E:=dr []) (bM (trivial)) mixed (by kernel_rfl) (aV.drew _ _)<|?_;refine DP .r (fun _ hC=>PV.fa n5 rfl)<|DP .r (fun _ hC=>PV.ld1 aT (fm.ext hC).range rfl rfl)<|DP .r (fun _ hC=>PV.fa n5 rfl)<|DP .r (fun _ hC=>PV.ld1 aT (fm.ext hC).range rfl rfl)<|DP .r (fun _ hC=>PV.fa n5 rfl)<|DP .r (fun _ hC=>PV.ld1 aT (fm.ext hC).range rfl rfl)<|(eh) ?_;rintro w2 s2 _;have c2:=c1.trans s2;have fm:=fm.ext s2;refine gN ?_;refine WP .r (PV.jM sy rfl)<|dW ?_;refine WC.loop (σ:=Nat) (eJ:=fun i=>[(2,.pointer (some ⟨b2,0,none⟩)),(5,.int .i64 (xT cc ((l.map dH).take i):Int)),(6,.int .i64 (wS cc ((l.map dH).take i):Int)),(7,.int .i64 (gz cc ((l.map dH).take i):Int)),(17,.slice a r c),(18,.int .i64 (r:Int)),(19,.int .i64 (i:Int))]) (I:=fun i w'=>aV [] w w'∧cW w' b2 59 [.bool ring,.slice a1 n1 e1,.int .i64 fin,.int .i64 (cc:Int)]∧i≤r) (μ:=fun i=>r - i) 0 Sub.t ⟨c2,fm,by omega⟩ ?_;rintro i w3 ⟨c3,fm,hi⟩;refine(aZ) (fun g20=>?_) fun g20=>?_
 ·
  simp at g20
  have cV:i<l.length:=by omega
  have Ij:i<(l.map dH).length:=by simp;omega
  have nt:=yv (c:=cc) (BM i);have ry:=qq hc (BM i);have vJ:=oD hc (BM i);have hvi:=nG l[i]
  have ee:((l.map dH).take i).length≤1000:=by rw [List.length_take];omega
  refine ek ?_;obtain⟨b1,o1,r1,oa,_,rfl,js,_⟩:=(hl.ext c3).at (ao cV);refine nx ?_;refine WP .r (PV.fI sy oa rfl rfl (by omega))<|WP .r (PV.pF iG js rfl rfl)<|(dj) UQ (Aj (s:=l[i])) ?_;rintro _ w4 ⟨rfl,s4⟩;have c4:=c3.trans s4;have fm:=fm.ext s4;refine qi ?_;refine WP .r (PV.N5 rfl rfl)<|cS ?_;refine WP .r (PV.orN rfl rfl (by omega) (by omega))<|nT ?_;refine EX.again (i+1) (Sub.cons rfl<|Sub.kO rfl (by rw [Cw Ij,List.getElem_map];omega)<|Sub.kO rfl (by rw [yV Ij,List.getElem_map];omega)<|Sub.kO rfl (by rw [yW Ij,List.getElem_map])<|Sub.k2 rfl rfl<|Sub.kO rfl (by simp)<|Sub.nil) ⟨c4,fm,by omega⟩ (by omega)
 simp at g20
 have cZ:(l.map dH).take i=l.map dH:=List.take_of_length_le (by simp;omega);rw [cZ];have nt:=yv (c:=cc) En;have ry:=qq hc En;have vJ:=oD hc En
 have hll:(l.map dH).length≤1000:=by rw [List.length_map];omega
 refine kQ ?_;refine WP .r (PV.fa tF rfl)<|(bL) aT fm.range<|(aZ) (fun uQ=>?_) fun uQ=>?_
 ·
  simp at uQ
  refine dE ?_;refine WP .r (PV.rem rfl rfl (by omega))<|(cA) ?_;exact⟨by unfold eZ;rw [if_pos uQ,Int.tmod_eq_emod_of_nonneg (by omega)];rfl,c3⟩
 simp at uQ
 refine(aZ) (fun Ak=>?_) fun Ak=>?_
 ·
  simp at Ak
  refine dE ?_;refine WP .r (PV.quo rfl rfl (by omega) (by rw [Int.tdiv_eq_ediv_of_nonneg (by omega)];omega) (by rw [Int.tdiv_eq_ediv_of_nonneg (by omega)];omega))<|WP .r (PV.rem rfl rfl (by omega))<|(cA) ?_;exact⟨by unfold eZ;rw [if_neg uQ,if_pos Ak,Int.tdiv_eq_ediv_of_nonneg (by omega),Int.tmod_eq_emod_of_nonneg (by omega)];rfl,c3⟩
 simp at Ak
 refine(aZ) (fun Ik=>?_) fun Ik=>?_
 ·
  simp at Ik
  refine(cA) ?_;exact⟨by unfold eZ;rw [if_neg uQ,if_neg Ak,if_pos Ik],c3⟩
 simp at Ik
 refine(aZ) (fun vp=>?_) fun vp=>?_
 ·
  simp at vp
  refine dE ?_;refine WP .r (PV.rem rfl rfl (by omega))<|(cA) ?_;exact⟨by unfold eZ;rw [if_neg uQ,if_neg Ak,if_neg Ik,if_pos vp,Int.tmod_eq_emod_of_nonneg (by omega)];rfl,c3⟩
 simp at vp
 refine(cA) ?_;exact⟨by unfold eZ;rw [if_neg uQ,if_neg Ak,if_neg Ik,if_neg vp],c3⟩
theorem JD{k:Key}{ah:List ByteArray}{B C:Nat→Prop}{a2:Option Addr}{r2 e2:Nat}(ht:nQ prog A w) (hr:il B w a r c ab) (hl:Strs C w a2 r2 e2 ah) (hb:∀x∈ab,0≤x.c∧x.c≤65535∧x.asks.length≤1000):CR prog 108 #[.slice a r c,k.val,.slice a2 r2 e2] w ((dw ab k ah).val):=by
 have hle:=hr.le;have hlen:=hr.len;have Al:=hl.len;refine enter func108 rfl ntmps108 rfl<|?_;have c0:aV [] w w:=aV.refl _ _;refine cS ?_;refine WL.go rfl (OX.box rfl rfl rfl fun b4 w1 jK bG=>?_);have s1:=jK.ext;have iw:=jK.ki c0;have c1:=c0.trans s1;refine WL.go rfl (OX.alloc uN rfl fun b6 w2 mD eE=>?_);have s2:=mD.ext;have gC:=mD.ki c1;have ed:b4≠b6:=mD.ne bG.lt;have py:b6≠b4:=Ne.symm ed;have c2:=c1.trans s2;have bG:=bG.ext s2;refine(bz) aq bG.range<|(dj) S6 (mq (k:=k)) ?_;rintro _ w3 ⟨rfl,s3⟩;have c3:=c2.trans s3;have bG:=bG.ext s3;have eE:=eE.ext s3;refine ek ?_;refine WC.mJ (t:=28) (v:=.bool (decide (number k<0) || (decide ((r:Int)≤number k) || decide (aN ab (number k)≠k)))) (aV [] w3) ?_<|?_
 ·
  refine WC.drawn (m:=13) (C:=aV [] w3) (T:=fun _=>aV []) (E:=dr [(11,fun v _=>v=(aN ab (number k)).val)]) (bM (⟨fun _ _ _ _ _ _ _ h=>h,trivial⟩)) mixed (by kernel_rfl) (aV.drew _ _)<|(rS) (fun g16=>?_) (fun g16=>?_)
  ·
   refine(eh) ?_;rintro w4 s4 _;have c4:=c3.trans s4;have bG:=bG.ext s4;have eE:=eE.ext s4;exact(dt) (by simp only [g16];first | rfl | simp) s4
  refine cS ?_;refine DP .r (fun _ hC=>PV.jM lq rfl)<|(rS) (fun g22=>?_) (fun g22=>?_)
  ·
   refine(eh) ?_;rintro w4 s4 _;have c4:=c3.trans s4;have bG:=bG.ext s4;have eE:=eE.ext s4;exact(dt) (by simp only [g16,g22];first | rfl | simp) s4
  refine cS ?_;refine DW.e rfl rfl rfl rfl rfl (fun wx hC hF=>OX.call BL rfl rfl ((iI (n:=number k) (hr.ext (c3.trans hC))).mono ?_))<|?_
  ·
   rintro _ wy ⟨rfl,hy⟩;exact⟨_,rfl,hC.trans hy,hy,_,rfl,rfl⟩
  rintro _ wz _ rfl;refine DP .r (fun _ hC=>PV.Lq aq (bG.ext hC).range rfl rfl)<|(eh)<|?_;rintro w4 s4 _;have c4:=c3.trans s4;have bG:=bG.ext s4;have eE:=eE.ext s4;refine WP .r (PV.Nj gS (p:=aN ab (number k)) (q:=k) rfl rfl)<|?_;exact(dt) (by simp only [g16,g22];first | rfl | simp) s4
 intro w4 s4;have c4:=c3.trans s4;have bG:=bG.ext s4;have eE:=eE.ext s4;refine(aZ) (fun iP=>?_) fun iP=>?_
 ·
  simp at iP
  have hv:=N8 (ah:=ah) (show number k<0∨(ab.length:Int)≤number k∨aN ab (number k)≠k by rw [← hlen];exact iP);refine cS ?_;refine WP .r (PV.bW (us:=[.bool true,.string ⟨#[]⟩,.int .i64 0,.string ⟨#[]⟩]) pR rfl rfl rfl)<|?_;refine WL.go rfl (OX.pG iU eE rfl rfl rfl rfl rfl fun w5 s5 _ eE=>?_);have c5:=c4.own s5 gC;have bG:=bG.cT s5 (by simp [ed]);refine(mz) kx eE.range<|?_;rw [hv];exact⟨rfl,c5⟩
 simp at iP
 obtain⟨g1,g2,g3⟩:=iP;obtain⟨i,qv⟩:∃i:Nat,number k=i:=⟨(number k).toNat,by omega⟩
 have hi:i<ab.length:=by omega
 obtain⟨dN,fm,dL⟩:=hb _ (List.getElem_mem hi);obtain⟨cc,hcc⟩:∃cc:Nat,ab[i].c=cc:=⟨ab[i].c.toNat,by omega⟩;refine dE ?_;obtain⟨Ta,Tb,Tc,oa,_,⟨q1,q2,q3,rfl,oN⟩,js,_⟩:=hr.at (ao hi);have js:=bH js c4 (by simp);rw [hcc] at js;have th:=oN.len;refine dE ?_;refine WP .r (PV.Ko lq (i) oa rfl rfl (by omega) (by omega))<|(bz) xo js<|nx ?_;refine WP .r (PV.jM sy rfl)<|?_;refine WL.go rfl (OX.alloc Sx rfl fun b8 w5 BN iX=>?_);have s5:=BN.ext;have wi:=BN.ki c4;have ly:b4≠b8:=BN.ne bG.lt;have JE:b8≠b4:=Ne.symm ly;have Am:b6≠b8:=BN.ne eE.lt;have mZ:b8≠b6:=Ne.symm Am;have c5:=c4.trans s5;have bG:=bG.ext s5;have eE:=eE.ext s5;refine WL.go rfl (OX.pG Jt iX rfl rfl rfl rfl rfl fun w6 s6 _ iX=>?_);have c6:=c5.own s6 wi;have bG:=bG.cT s6 (by simp [ly]);have eE:=eE.cT s6 (by simp [Am]);refine gN ?_;refine WP .r (PV.fa wa rfl)<|(bL) mW iX.range<|?_;refine WP .r (PV.jM BI rfl)<|(aZ) (fun xx=>?_) fun xx=>?_
 ·
  simp at xx
  have hv:=oE (ah:=ah) qv hi g3 (by omega);rw [← th,hcc,Int.toNat_natCast] at hv;have hfl:=rz (kind:=ab[i].final) (c:=cc) (l:=(ah.take q2).map dH) (by omega) (fun x hx=>by obtain⟨s,_,rfl⟩:=List.mem_map.1 hx;exact nG s);refine nx ?_;refine WC.drawn (m:=6) (C:=aV [] w6) (T:=fun _=>aV []) (E:=dr []) (bM (trivial)) mixed (by kernel_rfl) (aV.drew _ _)<|?_;refine DP .r (fun _ hC=>PV.Lq xo (iX.ext hC).range rfl rfl)<|nx ?_;refine DP .r (fun _ hC=>PV.fa wa rfl)<|DP .r (fun _ hC=>PV.ld1 mW (iX.ext hC).range rfl rfl)<|DP .r (fun _ hC=>PV.jM BI rfl)<|DP .r (fun _ hC=>PV.yS sy (hl.ext (c6.trans hC)) rfl rfl (by omega))<|(eh)<|?_;rintro w7 s7 _;have c7:=c6.trans s7;have bG:=bG.ext s7;have eE:=eE.ext s7;have iX:=iX.ext s7;refine(dj) adh (G7 (SR.take (hl.ext c7) (by omega)) (show cc≤65535 by omega) (by omega)) ?_;rintro _ w8 ⟨rfl,s8⟩;have c8:=c7.trans s8;have bG:=bG.ext s8;have eE:=eE.ext s8;have iX:=iX.ext s8;refine(dj) S3 (pw (ht.ext c8) (by omega) (by omega)) ?_;rintro _ w9 ⟨rfl,s9⟩;have c9:=c8.trans s9;have bG:=bG.ext s9;have eE:=eE.ext s9;have iX:=iX.ext s9;refine WP .r (PV.bW (us:=[.bool true,.string (itoa ((eZ ab[i].final cc ((ah.take q2).map dH)):Int)),.int .i64 0,.string ⟨#[]⟩]) pR rfl rfl rfl)<|?_;refine WL.go rfl (OX.pG iU eE rfl rfl rfl rfl rfl fun kB ob _ eE=>?_);have Pz:=c9.own ob gC;have bG:=bG.cT ob (by simp [ed]);have iX:=iX.cT ob (by simp [mZ]);refine(mz) kx eE.range<|?_;rw [hv];exact⟨rfl,Pz⟩
 simp at xx
 have hn:r2<ab[i].asks.length:=by omega
 have hv:=oF (ah:=ah) qv hi g3 (by omega);simp only [← Al] at hv;refine dE ?_;obtain⟨bx2,ox2,rx2,Bt,_,rfl,yt,_⟩:=(oN.ext c6).at (ao hn);refine nx ?_;refine WP .r (PV.fa wa rfl)<|(bL) mW iX.range<|nx ?_;refine WP .r (PV.fI BI Bt rfl rfl (by omega))<|(bz) sw yt<|?_;refine WL.go rfl (OX.alloc Xu rfl fun iJ w7 lz fE=>?_);have s7:=lz.ext;have Eo:=lz.ki c6;have lR:b4≠iJ:=lz.ne bG.lt;have G8:iJ≠b4:=Ne.symm lR;have xy:b6≠iJ:=lz.ne eE.lt;have nL:iJ≠b6:=Ne.symm xy;have lS:b8≠iJ:=lz.ne iX.lt;have qO:iJ≠b8:=Ne.symm lS;have c7:=c6.trans s7;have bG:=bG.ext s7;have eE:=eE.ext s7;have iX:=iX.ext s7;refine WL.go rfl (OX.pG Ju fE rfl rfl rfl rfl rfl fun w8 s8 _ fE=>?_);have c8:=c7.own s8 Eo;have bG:=bG.cT s8 (by simp [lR]);have eE:=eE.cT s8 (by simp [xy]);have iX:=iX.cT s8 (by simp [lS]);refine dW ?_;refine WP .r (PV.fa Jy rfl)<|(bL) aT fE.range<|ek ?_;refine WC.mJ (t:=72) (v:=.bool (gF ab[i].asks[r2] ah)) (aV [] w8) ?_<|?_
 ·
  refine nx ?_;refine WP .r (PV.fa Ad rfl)<|(bL) ft fE.range<|(dY) (fun Lh=>?_) (fun Lh=>?_)
  ·
   refine(dY) (fun XX=>?_) (fun XX=>?_)
   ·
    have kM:gF ab[i].asks[r2] ah=true:=by unfold gF;rw [Lh,← Al];simp at XX;simp [XX]
    exact(dt) (by rw [kM]) (aV.refl _ _)
   simp at XX
   obtain⟨bx3,ox3,rx3,ha3,_,rfl,hr3,_⟩:=(hl.ext c8).at (ao (show r2 - 1<ah.length by omega))
   have kM:gF ab[i].asks[r2] ah=decide ((dH ah[r2 - 1]:Int).tmod 2=0):=by
    unfold gF
    simp only [Lh,← Al,Bool.true_and];rw [decide_eq_false (by omega),Bool.false_or,getElem!_pos ah (r2 - 1) (by omega),Int.tmod_eq_emod_of_nonneg (by omega)]
    congr 1
    exact propext ⟨fun h=>by omega,fun h=>by omega⟩
   refine dE ?_;refine WP .r (PV.Ko sy (r2 - 1) ha3 rfl rfl (by omega) (by omega))<|WP .r (PV.pF iG hr3 rfl rfl)<|(dj) UQ (Aj (s:=ah[r2 - 1])) ?_;rintro _ w9 ⟨rfl,s9⟩;have c9:=c8.trans s9;have bG:=bG.ext s9;have eE:=eE.ext s9;have iX:=iX.ext s9;have fE:=fE.ext s9;refine WP .r (PV.rem rfl rfl (by omega))<|?_;exact(dt) (by rw [kM]) s9
  have kM:gF ab[i].asks[r2] ah=false:=by unfold gF;rw [Lh];rfl
  refine bf ?_;exact(dt) (by rw [kM]) (aV.refl _ _)
 intro w9 s9;have c9:=c8.trans s9;have bG:=bG.ext s9;have eE:=eE.ext s9;have iX:=iX.ext s9;have fE:=fE.ext s9;refine(aZ) (fun UY=>?_) fun UY=>?_
 ·
  have Dj:sZ ab[i].asks[r2] ah=ab[i].asks[r2].Ix:=by unfold sZ;rw [if_pos UY]
  refine nx ?_;refine WP .r (PV.fa Ae rfl)<|(bL) aT fE.range<|ji ?_;refine WP .r (PV.fa Ei rfl)<|(bL) ft fE.range<|(aZ) (fun nM=>?_) fun nM=>?_
  ·
   rw [Dj,if_pos nM] at hv;refine(dj) Jz (je) ?_;rintro _ kB ⟨rfl,ob⟩;have Pz:=c9.trans ob;have bG:=bG.ext ob;have eE:=eE.ext ob;have iX:=iX.ext ob;have fE:=fE.ext ob;refine WP .r (PV.bW (us:=[.bool false,.string ⟨#[]⟩,.int .i64 (du _).kind,.string (du _).text]) pR rfl rfl rfl)<|?_;refine WL.go rfl (OX.pG iU eE rfl rfl rfl rfl rfl fun kC wm _ eE=>?_);have XY:=Pz.own wm gC;have bG:=bG.cT wm (by simp [ed]);have iX:=iX.cT wm (by simp [mZ]);have fE:=fE.cT wm (by simp [nL]);refine(mz) kx eE.range<|?_;rw [hv];exact⟨rfl,XY⟩
  rw [Dj,if_neg (by simp [nM])] at hv;refine(dj) BL (iI (hr.ext c9)) ?_;rintro _ kB ⟨rfl,ob⟩;have Pz:=c9.trans ob;have bG:=bG.ext ob;have eE:=eE.ext ob;have iX:=iX.ext ob;have fE:=fE.ext ob;refine WP .r (PV.bW (us:=[.bool false,.string ⟨#[]⟩,.int .i64 (aN ab _).kind,.string (aN ab _).text]) pR rfl rfl rfl)<|?_;refine WL.go rfl (OX.pG iU eE rfl rfl rfl rfl rfl fun kC wm _ eE=>?_);have XY:=Pz.own wm gC;have bG:=bG.cT wm (by simp [ed]);have iX:=iX.cT wm (by simp [mZ]);have fE:=fE.cT wm (by simp [nL]);refine(mz) kx eE.range<|?_;rw [hv];exact⟨rfl,XY⟩
 have Dj:sZ ab[i].asks[r2] ah=ab[i].asks[r2].n:=by unfold sZ;rw [if_neg (by simp [UY])]
 refine ek ?_;refine WP .r (PV.fa Ei rfl)<|(bL) ft fE.range<|(aZ) (fun nM=>?_) fun nM=>?_
 ·
  rw [Dj,if_pos nM] at hv;refine(dj) Jz (je) ?_;rintro _ kB ⟨rfl,ob⟩;have Pz:=c9.trans ob;have bG:=bG.ext ob;have eE:=eE.ext ob;have iX:=iX.ext ob;have fE:=fE.ext ob;refine WP .r (PV.bW (us:=[.bool false,.string ⟨#[]⟩,.int .i64 (du _).kind,.string (du _).text]) pR rfl rfl rfl)<|?_;refine WL.go rfl (OX.pG iU eE rfl rfl rfl rfl rfl fun kC wm _ eE=>?_);have XY:=Pz.own wm gC;have bG:=bG.cT wm (by simp [ed]);have iX:=iX.cT wm (by simp [mZ]);have fE:=fE.cT wm (by simp [nL]);refine(mz) kx eE.range<|?_;rw [hv];exact⟨rfl,XY⟩
 rw [Dj,if_neg (by simp [nM])] at hv;refine(dj) BL (iI (hr.ext c9)) ?_;rintro _ kB ⟨rfl,ob⟩;have Pz:=c9.trans ob;have bG:=bG.ext ob;have eE:=eE.ext ob;have iX:=iX.ext ob;have fE:=fE.ext ob;refine WP .r (PV.bW (us:=[.bool false,.string ⟨#[]⟩,.int .i64 (aN ab _).kind,.string (aN ab _).text]) pR rfl rfl rfl)<|?_;refine WL.go rfl (OX.pG iU eE rfl rfl rfl rfl rfl fun kC wm _ eE=>?_);have XY:=Pz.own wm gC;have bG:=bG.cT wm (by simp [ed]);have iX:=iX.cT wm (by simp [mZ]);have fE:=fE.cT wm (by simp [nL]);refine(mz) kx eE.range<|?_;rw [hv];exact⟨rfl,XY⟩
theorem G9(hr:il A w a r c ab):Calls prog 62 #[.slice a r c] w fun e w'=>∃b:Bool,e=.returned (.bool b)∧(b=true↔aw ab)∧aV [] w w':=by
 have hle:=hr.le;have hlen:=hr.len;refine enter func62 rfl ntmps62 rfl<|?_;have c0:aV [] w w:=aV.refl _ _;refine qi ?_;refine WP .r (PV.jM lq rfl)<|dW ?_;refine WC.loop (σ:=Nat) (eJ:=fun i=>[(0,.slice a r c),(7,.slice a r c),(8,.int .i64 (r:Int)),(9,.int .i64 (i:Int))]) (I:=fun i w'=>aV [] w w'∧i≤r∧∀j x,j<i→ab[j]?=some x→o7 ab j x) (μ:=fun i=>r - i) 0 Sub.t ⟨c0,by omega,fun j x h=>by omega⟩ ?_;rintro i w1 ⟨c1,hi,eX⟩;refine(aZ) (fun g10=>?_) fun g10=>?_
 ·
  simp at g10
  have cV:i<ab.length:=by omega
  obtain⟨Ta,Tb,Tc,oa,_,⟨q1,q2,q3,rfl,oN⟩,js,_⟩:=hr.at (ao cV);have th:=oN.len;have hq:=oN.le;refine ek ?_;have js:=bH js c1 (by simp);refine cS ?_;refine WP .r (PV.fI lq oa rfl rfl (by omega))<|(bz) xo js<|?_;refine WL.go rfl (OX.alloc Sx rfl fun b4 w2 jK bG=>?_);have s2:=jK.ext;have iw:=jK.ki c1;have c2:=c1.trans s2;refine nx ?_;refine WL.go rfl (OX.pG Jt bG rfl rfl rfl rfl rfl fun w3 s3 _ bG=>?_);have c3:=c2.own s3 iw;refine ek ?_;refine WP .r (PV.fa wa rfl)<|(bL) mW bG.range<|?_;refine WP .r (PV.jM BI rfl)<|(aZ) (fun g17=>?_) fun g17=>?_
  ·
   simp at g17
   refine(cA) ?_;exact⟨false,rfl,⟨fun h=>(by cases h),fun h=>absurd (h.2 i _ (ao cV)).1 (by omega)⟩,c3⟩
  simp at g17
  refine ek ?_;refine WP .r (PV.fa wa rfl)<|(bL) mW bG.range<|?_;refine WP .r (PV.jM BI rfl)<|dW ?_;refine WC.loop (σ:=Nat) (eJ:=fun k=>[(0,.slice a r c),(7,.slice a r c),(8,.int .i64 (r:Int)),(9,.int .i64 (i:Int)),(3,.int .i64 (i:Int)),(4,.pointer (some ⟨b4,0,none⟩)),(19,.slice q1 q2 q3),(20,.int .i64 (q2:Int)),(21,.int .i64 (k:Int))]) (I:=fun k w'=>aV [] w w'∧cW w' b4 59 [.bool ab[i].ring,.slice q1 q2 q3,.int .i64 ab[i].final,.int .i64 ab[i].c]∧k≤q2∧∀j x,j<k→ab[i].asks[j]?=some x→gG ab i ab[i].ring j x=true) (μ:=fun k=>q2 - k) 0 Sub.t ⟨c3,bG,by omega,fun j x h=>by omega⟩ ?_;rintro k w4 ⟨c4,bG,hk,Td⟩;refine(aZ) (fun g22=>?_) fun g22=>?_
  ·
   simp at g22
   have nj:k<ab[i].asks.length:=by omega
   obtain⟨bx2,ox2,rx2,Bt,_,rfl,yt,_⟩:=(oN.ext c4).at (ao nj);refine gN ?_;refine WP .r (PV.fI BI Bt rfl rfl (by omega))<|(bz) sw yt<|?_;refine WL.go rfl (OX.alloc Xu rfl fun b6 w5 mD eE=>?_);have s5:=mD.ext;have gC:=mD.ki c4;have ed:b4≠b6:=mD.ne bG.lt;have py:b6≠b4:=Ne.symm ed;have c5:=c4.trans s5;have bG:=bG.ext s5;refine nx ?_;refine WL.go rfl (OX.pG Ju eE rfl rfl rfl rfl rfl fun w6 s6 _ eE=>?_);have c6:=c5.own s6 gC;have bG:=bG.cT s6 (by simp [ed]);refine dE ?_;refine WC.mJ (t:=63) (v:=.bool (!gG ab i ab[i].ring k ab[i].asks[k])) (aV [] w6) ?_<|?_
   ·
    refine(bz) sw eE.range<|?_;refine WP .r (PV.fa Jy rfl)<|(bL) aT eE.range<|(dj) acQ (Di (x:=ab[i].asks[k]) (n:=ab[i].asks[k].n) (hr.ext c6) cV) ?_;rintro _ w7 ⟨rfl,s7⟩;have c7:=c6.trans s7;have bG:=bG.ext s7;have eE:=eE.ext s7;refine(dY) (fun jD=>?_) (fun jD=>?_)
    ·
     refine bf ?_;refine bf ?_;exact(dt) (by unfold gG;simp at jD;first | (simp [jD];done) | (exfalso;simp_all;done) | (simp_all;done) | (simp [jD];rw [Bool.eq_iff_iff];simp;done) | (simp [jD];rw [Bool.eq_iff_iff];simp;omega) | (simp [jD];omega) | (simp_all;omega)) s7
    refine WP .r (PV.fa Ad rfl)<|(bL) ft eE.range<|(dY) (fun gT=>?_) (fun gT=>?_)
    ·
     refine WP .r (PV.fa mX rfl)<|(bL) ft bG.range<|(dY) (fun oZ=>?_) (fun oZ=>?_)
     ·
      refine bf ?_;refine bf ?_;exact(dt) (by unfold gG;simp at jD gT oZ;first | (simp [jD,gT,oZ];done) | (exfalso;simp_all;done) | (simp_all;done) | (simp [jD,gT,oZ];rw [Bool.eq_iff_iff];simp;done) | (simp [jD,gT,oZ];rw [Bool.eq_iff_iff];simp;omega) | (simp [jD,gT,oZ];omega) | (simp_all;omega)) s7
     refine(dY) (fun nK=>?_) (fun nK=>?_)
     ·
      refine bf ?_;exact(dt) (by unfold gG;simp at jD gT oZ nK;first | (simp [jD,gT,oZ,nK];done) | (exfalso;simp_all;done) | (simp_all;done) | (simp [jD,gT,oZ,nK];rw [Bool.eq_iff_iff];simp;done) | (simp [jD,gT,oZ,nK];rw [Bool.eq_iff_iff];simp;omega) | (simp [jD,gT,oZ,nK];omega) | (simp_all;omega)) s7
     refine(bz) sw eE.range<|?_;refine WP .r (PV.fa Ae rfl)<|(bL) aT eE.range<|(dj) acQ (Di (x:=ab[i].asks[k]) (n:=ab[i].asks[k].Ix) (hr.ext c7) cV) ?_;rintro _ w8 ⟨rfl,s8⟩;have c8:=c7.trans s8;have bG:=bG.ext s8;have eE:=eE.ext s8;refine(dY) (fun tM=>?_) (fun tM=>?_)
     ·
      exact(dt) (by unfold gG;simp at jD gT oZ nK tM;first | (simp [jD,gT,oZ,nK,tM];done) | (exfalso;simp_all;done) | (simp_all;done) | (simp [jD,gT,oZ,nK,tM];rw [Bool.eq_iff_iff];simp;done) | (simp [jD,gT,oZ,nK,tM];rw [Bool.eq_iff_iff];simp;omega) | (simp [jD,gT,oZ,nK,tM];omega) | (simp_all;omega)) (s7.trans s8)
     refine WP .r (PV.fa Ad rfl)<|(bL) ft eE.range<|(dY) (fun An=>?_) (fun An=>?_)
     ·
      refine WP .r (PV.fa Ae rfl)<|(bL) aT eE.range<|?_;exact(dt) (by unfold gG;simp at jD gT oZ nK tM An;first | (simp [jD,gT,oZ,nK,tM,An];done) | (exfalso;simp_all;done) | (simp_all;done) | (simp [jD,gT,oZ,nK,tM,An];rw [Bool.eq_iff_iff];simp;done) | (simp [jD,gT,oZ,nK,tM,An];rw [Bool.eq_iff_iff];simp;omega) | (simp [jD,gT,oZ,nK,tM,An];omega) | (simp_all;omega)) (s7.trans s8)
     exact(dt) (by unfold gG;simp at jD gT oZ nK tM An;first | (simp [jD,gT,oZ,nK,tM,An];done) | (exfalso;simp_all;done) | (simp_all;done) | (simp [jD,gT,oZ,nK,tM,An];rw [Bool.eq_iff_iff];simp;done) | (simp [jD,gT,oZ,nK,tM,An];rw [Bool.eq_iff_iff];simp;omega) | (simp [jD,gT,oZ,nK,tM,An];omega) | (simp_all;omega)) (s7.trans s8)
    refine bf ?_;refine ji ?_;refine WP .r (PV.fa Ad rfl)<|(bL) ft eE.range<|(dY) (fun An=>?_) (fun An=>?_)
    ·
     refine WP .r (PV.fa Ae rfl)<|(bL) aT eE.range<|?_;exact(dt) (by unfold gG;simp at jD gT An;first | (simp [jD,gT,An];done) | (exfalso;simp_all;done) | (simp_all;done) | (simp [jD,gT,An];rw [Bool.eq_iff_iff];simp;done) | (simp [jD,gT,An];rw [Bool.eq_iff_iff];simp;omega) | (simp [jD,gT,An];omega) | (simp_all;omega)) s7
    exact(dt) (by unfold gG;simp at jD gT An;first | (simp [jD,gT,An];done) | (exfalso;simp_all;done) | (simp_all;done) | (simp [jD,gT,An];rw [Bool.eq_iff_iff];simp;done) | (simp [jD,gT,An];rw [Bool.eq_iff_iff];simp;omega) | (simp [jD,gT,An];omega) | (simp_all;omega)) s7
   intro w7 s7;have c7:=c6.trans s7;have bG:=bG.ext s7;have eE:=eE.ext s7;refine(aZ) (fun g63=>?_) fun g63=>?_
   ·
    simp at g63
    refine bf ?_;refine(cA) ?_;exact⟨false,rfl,⟨fun h=>(by cases h),fun h=>absurd ((h.2 i _ (ao cV)).2.1 k _ (ao nj)) (by simp [g63])⟩,c7⟩
   simp at g63
   refine gN ?_;refine EX.again (k+1) (Sub.k4 rfl rfl rfl rfl<|Sub.k4 rfl rfl rfl rfl<|Sub.kO rfl (by simp)<|Sub.nil) ⟨c7,bG,by omega,dG nj Td g63⟩ (by omega)
  simp at g22
  have Td:∀j x,ab[i].asks[j]?=some x→gG ab i ab[i].ring j x=true:=fun j x hx=>Td j x (by have:=(List.getElem?_eq_some_iff.1 hx).1;omega) hx;refine ji ?_;refine WC.mJ (t:=106) (v:=.bool (!jB ab[i])) (fun wx=>w4=wx) ?_ ?_
  ·
   refine nx ?_;refine WP .r (PV.fa mX rfl)<|(bL) ft bG.range<|(dY) (fun jl=>?_) (fun jl=>?_)
   ·
    refine WP .r (PV.fa tF rfl)<|(bL) aT bG.range<|(dY) (fun nN=>?_) (fun nN=>?_)
    ·
     refine bf ?_;refine bf ?_;exact(dt) (by unfold jB;simp at jl nN;first | (simp [jl,nN];done) | (exfalso;simp_all;done) | (simp_all;done) | (simp [jl,nN];rw [Bool.eq_iff_iff];simp;done) | (simp [jl,nN];rw [Bool.eq_iff_iff];simp;omega) | (simp [jl,nN];omega) | (simp_all;omega)) rfl
    refine WP .r (PV.fa n5 rfl)<|(bL) aT bG.range<|(dY) (fun nM=>?_) (fun nM=>?_)
    ·
     refine bf ?_;refine bf ?_;exact(dt) (by unfold jB;simp at jl nN nM;first | (simp [jl,nN,nM];done) | (exfalso;simp_all;done) | (simp_all;done) | (simp [jl,nN,nM];rw [Bool.eq_iff_iff];simp;done) | (simp [jl,nN,nM];rw [Bool.eq_iff_iff];simp;omega) | (simp [jl,nN,nM];omega) | (simp_all;omega)) rfl
    refine WP .r (PV.fa n5 rfl)<|(bL) aT bG.range<|(dY) (fun ov=>?_) (fun ov=>?_)
    ·
     refine bf ?_;refine bf ?_;exact(dt) (by unfold jB;simp at jl nN nM ov;first | (simp [jl,nN,nM,ov];done) | (exfalso;simp_all;done) | (simp_all;done) | (simp [jl,nN,nM,ov];rw [Bool.eq_iff_iff];simp;done) | (simp [jl,nN,nM,ov];rw [Bool.eq_iff_iff];simp;omega) | (simp [jl,nN,nM,ov];omega) | (simp_all;omega)) rfl
    refine WP .r (PV.fa mX rfl)<|(bL) ft bG.range<|(dY) (fun lT=>?_) (fun lT=>?_)
    ·
     refine WP .r (PV.fa tF rfl)<|(bL) aT bG.range<|(dY) (fun oc=>?_) (fun oc=>?_)
     ·
      refine bf ?_;exact(dt) (by unfold jB;simp at jl nN nM ov lT oc;first | (simp [jl,nN,nM,ov,lT,oc];done) | (exfalso;simp_all;done) | (simp_all;done) | (simp [jl,nN,nM,ov,lT,oc];rw [Bool.eq_iff_iff];simp;done) | (simp [jl,nN,nM,ov,lT,oc];rw [Bool.eq_iff_iff];simp;omega) | (simp [jl,nN,nM,ov,lT,oc];omega) | (simp_all;omega)) rfl
     refine WP .r (PV.fa tF rfl)<|(bL) aT bG.range<|(dY) (fun rX=>?_) (fun rX=>?_)
     ·
      exact(dt) (by unfold jB;simp at jl nN nM ov lT oc rX;first | (simp [jl,nN,nM,ov,lT,oc,rX];done) | (exfalso;simp_all;done) | (simp_all;done) | (simp [jl,nN,nM,ov,lT,oc,rX];rw [Bool.eq_iff_iff];simp;done) | (simp [jl,nN,nM,ov,lT,oc,rX];rw [Bool.eq_iff_iff];simp;omega) | (simp [jl,nN,nM,ov,lT,oc,rX];omega) | (simp_all;omega)) rfl
     refine WP .r (PV.fa n5 rfl)<|(bL) aT bG.range<|(dY) (fun na=>?_) (fun na=>?_)
     ·
      exact(dt) (by unfold jB;simp at jl nN nM ov lT oc rX na;first | (simp [jl,nN,nM,ov,lT,oc,rX,na];done) | (exfalso;simp_all;done) | (simp_all;done) | (simp [jl,nN,nM,ov,lT,oc,rX,na];rw [Bool.eq_iff_iff];simp;done) | (simp [jl,nN,nM,ov,lT,oc,rX,na];rw [Bool.eq_iff_iff];simp;omega) | (simp [jl,nN,nM,ov,lT,oc,rX,na];omega) | (simp_all;omega)) rfl
     refine WP .r (PV.fa n5 rfl)<|(bL) aT bG.range<|?_;exact(dt) (by unfold jB;simp at jl nN nM ov lT oc rX na;first | (simp [jl,nN,nM,ov,lT,oc,rX,na];done) | (exfalso;simp_all;done) | (simp_all;done) | (simp [jl,nN,nM,ov,lT,oc,rX,na];rw [Bool.eq_iff_iff];simp;done) | (simp [jl,nN,nM,ov,lT,oc,rX,na];rw [Bool.eq_iff_iff];simp;omega) | (simp [jl,nN,nM,ov,lT,oc,rX,na];omega) | (simp_all;omega)) rfl
    refine bf ?_;exact(dt) (by unfold jB;simp at jl nN nM ov lT;first | (simp [jl,nN,nM,ov,lT];done) | (exfalso;simp_all;done) | (simp_all;done) | (simp [jl,nN,nM,ov,lT];rw [Bool.eq_iff_iff];simp;done) | (simp [jl,nN,nM,ov,lT];rw [Bool.eq_iff_iff];simp;omega) | (simp [jl,nN,nM,ov,lT];omega) | (simp_all;omega)) rfl
   refine bf ?_;refine dE ?_;refine WP .r (PV.fa mX rfl)<|(bL) ft bG.range<|(dY) (fun lT=>?_) (fun lT=>?_)
   ·
    refine WP .r (PV.fa tF rfl)<|(bL) aT bG.range<|(dY) (fun oc=>?_) (fun oc=>?_)
    ·
     refine bf ?_;exact(dt) (by unfold jB;simp at jl lT oc;first | (simp [jl,lT,oc];done) | (exfalso;simp_all;done) | (simp_all;done) | (simp [jl,lT,oc];rw [Bool.eq_iff_iff];simp;done) | (simp [jl,lT,oc];rw [Bool.eq_iff_iff];simp;omega) | (simp [jl,lT,oc];omega) | (simp_all;omega)) rfl
    refine WP .r (PV.fa tF rfl)<|(bL) aT bG.range<|(dY) (fun rX=>?_) (fun rX=>?_)
    ·
     exact(dt) (by unfold jB;simp at jl lT oc rX;first | (simp [jl,lT,oc,rX];done) | (exfalso;simp_all;done) | (simp_all;done) | (simp [jl,lT,oc,rX];rw [Bool.eq_iff_iff];simp;done) | (simp [jl,lT,oc,rX];rw [Bool.eq_iff_iff];simp;omega) | (simp [jl,lT,oc,rX];omega) | (simp_all;omega)) rfl
    refine WP .r (PV.fa n5 rfl)<|(bL) aT bG.range<|(dY) (fun na=>?_) (fun na=>?_)
    ·
     exact(dt) (by unfold jB;simp at jl lT oc rX na;first | (simp [jl,lT,oc,rX,na];done) | (exfalso;simp_all;done) | (simp_all;done) | (simp [jl,lT,oc,rX,na];rw [Bool.eq_iff_iff];simp;done) | (simp [jl,lT,oc,rX,na];rw [Bool.eq_iff_iff];simp;omega) | (simp [jl,lT,oc,rX,na];omega) | (simp_all;omega)) rfl
    refine WP .r (PV.fa n5 rfl)<|(bL) aT bG.range<|?_;exact(dt) (by unfold jB;simp at jl lT oc rX na;first | (simp [jl,lT,oc,rX,na];done) | (exfalso;simp_all;done) | (simp_all;done) | (simp [jl,lT,oc,rX,na];rw [Bool.eq_iff_iff];simp;done) | (simp [jl,lT,oc,rX,na];rw [Bool.eq_iff_iff];simp;omega) | (simp [jl,lT,oc,rX,na];omega) | (simp_all;omega)) rfl
   refine bf ?_;exact(dt) (by unfold jB;simp at jl lT;first | (simp [jl,lT];done) | (exfalso;simp_all;done) | (simp_all;done) | (simp [jl,lT];rw [Bool.eq_iff_iff];simp;done) | (simp [jl,lT];rw [Bool.eq_iff_iff];simp;omega) | (simp [jl,lT];omega) | (simp_all;omega)) rfl
  rintro _ rfl;refine(aZ) (fun PA=>?_) fun PA=>?_
  ·
   simp at PA
   refine(cA) ?_;exact⟨false,rfl,⟨fun h=>(by cases h),fun h=>absurd (h.2 i _ (ao cV)).2.2 (by simp [PA])⟩,c4⟩
  simp at PA
  refine gN ?_;refine EX.again (i+1) (Sub.k2 rfl rfl<|Sub.cons rfl<|Sub.kO rfl (by simp)<|Sub.nil) ⟨c4,by omega,dG cV eX ⟨by omega,Td,PA⟩⟩ (by omega)
 simp at g10
 have cZ:∀j x,ab[j]?=some x→o7 ab j x:=fun j x hx=>eX j x (by have:=(List.getElem?_eq_some_iff.1 hx).1;omega) hx;refine kQ ?_;refine WP .r (PV.jM lq rfl)<|(cA) ?_;exact⟨_,rfl,⟨fun h=>⟨by simp at h;omega,cZ⟩,fun h=>by have:=h.1;simp;omega⟩,c1⟩
set_option maxHeartbeats 400000
theorem Ha :CR prog 6 #[.slice a n c] w (.bool (decide (n≤400))):=by
 refine enter func6 rfl ntmps6 rfl<|?_;have c0:aV [] w w:=aV.refl _ _;refine kQ ?_;refine WP .r (PV.jM Js rfl)<|(cA) ?_;exact⟨by congr 2;exact decide_eq_decide.2 (by omega),c0⟩
theorem JF{l:List Int}(hl:Ints A w a n c l) (h4:n≤400):Calls prog 8 #[.slice a n c] w fun e w'=>∃d,e=.returned (.pointer (some ⟨d,0,none⟩))∧w.heap.size≤d∧ID A w' 74 d∧aV [] w w':=by
 refine enter func8 rfl ntmps8 rfl<|?_;have c0:aV [] w w:=aV.refl _ _;refine kQ ?_;refine WP .r (PV.bW (us:=[.slice a n c,.int .i64 0]) aio rfl rfl rfl)<|?_;refine WL.go rfl (OX.box rfl rfl rfl fun b5 w1 nq gy=>?_);have s1:=nq.ext;have tJ:=nq.ki c0;have c1:=c0.trans s1;refine(cA) ?_;exact⟨_,rfl,tJ,⟨l,a,n,c,0,gy,SR.ext hl c1,h4,by omega⟩,c1⟩
theorem JG{m:Int}{d:Nat}(hd:ID A w 74 d) (hA:¬A d) (hm:m≤4611686018427387904):Calls prog 38 #[.pointer (some ⟨d,0,none⟩),.int .i64 m] w fun e w'=>∃z:Int,e=.returned (.int .i64 z)∧0≤z∧(1≤m→z<m)∧aV [d] w w'∧ID A w' 74 d:=by
 obtain⟨l,a,n,c,t,hb,hl,h4,ht4⟩:=hd;have hlen:=SR.len hl;refine enter func38 rfl ntmps38 rfl<|?_;have c0:aV [d] w w:=aV.refl _ _;refine gN ?_;refine WC.drawn (m:=9) (C:=aV [] w) (T:=fun _=>aV []) (E:=dr []) (bM (trivial)) mixed (by kernel_rfl) (aV.drew _ _)<|cS ?_;refine DP .r (fun _ hC=>PV.fa Ej rfl)<|DP .r (fun _ hC=>PV.ld1 aT (hb.ext hC).range rfl rfl)<|cS ?_;refine DP .r (fun _ hC=>PV.fa Pk rfl)<|DP .r (fun _ hC=>PV.ld1 Uy (hb.ext hC).range rfl rfl)<|DP .r (fun _ hC=>PV.jM Js rfl)<|(eh)<|?_;rintro w1 s1 _;have c1:=c0.trans s1.nil;have hb:=hb.ext s1;refine(aZ) (fun g14=>?_) fun g14=>?_
 ·
  skip
  refine(cA) ?_;exact⟨0,rfl,by omega,fun h=>by omega,c1,l,a,n,c,t,hb,SR.cT hl c1 (by simpa using hA) (fun _ _ h=>h),h4,ht4⟩
 simp at g14
 obtain⟨Ta,Tb,Tc,oa,_,JH,js,hAb⟩:=SR.at hl (ao (show t<l.length by omega));subst JH;refine ji ?_;refine WP .r (PV.fa Ej rfl)<|(bL) aT hb.range<|cS ?_;refine WP .r (PV.fa Ej rfl)<|?_;refine WL.go rfl (OX.st Q0 hb rfl rfl (by first | (simp [nth];done) | exact nns rfl) rfl rfl fun w2 s2 _ hb=>?_);have c2:=c1.trans s2;refine dE ?_;have js:=bH js c2 (by simp;rintro rfl;exact hA hAb);refine WC.drawn (m:=12) (C:=aV [] w2) (T:=fun _=>aV []) (E:=dr []) (bM (trivial)) mixed (by kernel_rfl) (aV.drew _ _)<|cS ?_;refine DP .r (fun _ hC=>PV.fa Pk rfl)<|DP .r (fun _ hC=>PV.ld1 Uy (hb.ext hC).range rfl rfl)<|cS ?_;refine DP .r (fun _ hC=>PV.fa Ej rfl)<|DP .r (fun _ hC=>PV.ld1 aT (hb.ext hC).range rfl rfl)<|nx ?_;refine DP .r (fun _ hC=>PV.Ko Js (t) oa rfl rfl (by omega) (by omega))<|DP .r (fun _ hC=>PV.pF aT (bH js hC (by simp)) rfl rfl)<|(eh) ?_;rintro w3 s3 _;have c3:=c2.trans s3.nil;have hb:=hb.ext s3;refine(dj) aiZ (MI (n:=l[t]) (m:=m) (by omega)) ?_;rintro _ w4 ⟨rfl,s4⟩;have c4:=c3.trans s4.nil;have hb:=hb.ext s4;refine(cA) ?_;refine⟨_,rfl,?_,?_,c4,l,a,n,c,t+1,?_,SR.cT hl c4 (by simpa using hA) (fun _ _ h=>h),h4,by omega⟩
 ·
  split
  ·
   omega
  exact Int.emod_nonneg _ (by omega)
 ·
  intro h;rw [if_neg (by omega)];exact Int.emod_lt_of_pos _ (by omega)
 exact hb
def words:List ByteArray:=[⟨#[48]⟩,⟨#[49]⟩,⟨#[50]⟩,⟨#[51]⟩,⟨#[55]⟩,⟨#[49,48,48]⟩,⟨#[]⟩,⟨#[120]⟩,⟨#[49,54]⟩,⟨#[49]⟩]
theorem PC:∀s∈words,s.size≤100:=by decide
end Go.Rc

