/- Walks over the program, part WD. Conditions: as each theorem says. -/
import Derived.Test.YtjpagoacbadijaaGreatDoorVFacts
import Derived.Test.YtjpagoacbadijaaGreatDoorVWB
import Derived.Test.YtjpagoacbadijaaGreatDoorVBb
set_option linter.all false
namespace Go.Rc
open Go Go.Proofs Go.Proofs.Tryz
variable {ab:List aG}{A:Nat→Prop}{a:Option Addr}{r c n:Nat}{w:World}
set_option maxHeartbeats 400000
theorem C9{i:Nat}{x:Ask}{n:Int}(hr:ik A w a r c ab) (hi:i<ab.length):CR prog 95 #[.slice a r c,.int .i64 (i:Int),x.val,.int .i64 n] w (.bool (iC ab i x.cell n)):=by
 have hle:=hr.le;have hlen:=hr.len;have lC:=cM hi;refine enter func95 rfl ntmps95 rfl<|?_;have c0:aV [] w w:=aV.refl _ _;refine cS ?_;refine WL.go rfl (OX.box rfl rfl rfl fun b6 w1 mC eE=>?_);have s1:=mC.ext;have gz:=mC.j9 c0;have c1:=c0.trans s1;refine jo ?_;refine WP .r (PV.fa Ea rfl)<|(bM) fq eE.range<|(aZ) (fun g12=>?_) fun g12=>?_
 ·
  refine nx ?_;refine WC.ou (t:=8) (v:=.bool (decide (0≤n) && decide (n≤15))) (fun wx=>w1=wx) ?_ ?_
  ·
   refine(ed) (fun g15=>?_) (fun g15=>?_)
   ·
    exact(iH) (by simp only [g15];first | rfl | simp) rfl
   exact(iH) (by simp only [g15];first | rfl | simp) rfl
  rintro _ rfl;refine(cy) ?_;exact⟨by unfold iC;rw [if_pos g12],c1⟩
 refine(dh) acA (xj (n:=(i:Int)) (hr.ext c1)) ?_;rintro _ w2 ⟨rfl,s2⟩;have c2:=c1.trans s2;have eE:=eE.ext s2;refine qd ?_;obtain⟨b1,o1,r1,nY,_,⟨q1,q2,q3,rfl,_⟩,jr,_⟩:=(hr.ext c2).at (ao hi);refine dA ?_;refine WP .r (PV.fO ll nY rfl rfl (by omega))<|WP .r (PV.fa mU rfl)<|(bM) fq jr<|(aZ) (fun lO=>?_) fun lO=>?_
 ·
  have ht:gO ab i=(block ab i).1:=by unfold gO;rw [lC];simp at lO;rw [lO];rfl
  refine jo ?_;refine WC.ou (t:=8) (v:=.bool (decide (0≤n) && decide (n<gO ab i))) (fun wx=>w2=wx) ?_ ?_
  ·
   refine(ed) (fun xV=>?_) (fun xV=>?_)
   ·
    exact(iH) (by simp only [ht,xV];first | rfl | simp) rfl
   exact(iH) (by simp only [ht,xV];first | rfl | simp) rfl
  rintro _ rfl;refine(cy) ?_;exact⟨by unfold iC;rw [g12];rfl,c2⟩
 have ht:gO ab i=(block ab i).2:=by unfold gO;rw [lC];simp at lO;rw [lO];rfl
 refine dA ?_;refine WC.ou (t:=8) (v:=.bool (decide (0≤n) && decide (n<gO ab i))) (fun wx=>w2=wx) ?_ ?_
 ·
  refine(ed) (fun xV=>?_) (fun xV=>?_)
  ·
   exact(iH) (by simp only [ht,xV];first | rfl | simp) rfl
  exact(iH) (by simp only [ht,xV];first | rfl | simp) rfl
 rintro _ rfl;refine(cy) ?_;exact⟨by unfold iC;rw [g12];rfl,c2⟩
theorem Aa{s:ByteArray} :CR prog 142 #[.string s] w (.int .i64 (dE s:Int)):=by
 refine enter func142 rfl ntmps142 rfl<|?_;have c0:aV [] w w:=aV.refl _ _;refine(dh) Uu (sA (s:=s)) ?_;rintro _ w1 ⟨rfl,s1⟩;have c1:=c0.trans s1;refine eC ?_;refine WC.mI (t:=11) (v:=.bool (decide (fb s<0) || decide (65535<fb s))) (fun wx=>w1=wx) ?_ ?_
 ·
  refine(ed) (fun g8=>?_) (fun g8=>?_)
  ·
   exact(dp) (by simp only [g8];first | rfl | simp) rfl
  exact(dp) (by simp only [g8];first | rfl | simp) rfl
 rintro _ rfl;refine(aZ) (fun g11=>?_) fun g11=>?_
 ·
  simp at g11
  have hv:dE s=0:=by unfold dE;rw [if_pos g11]
  refine(cy) ?_;rw [hv];exact⟨rfl,c1⟩
 simp at g11
 have hv:(dE s:Int)=fb s:=by unfold dE;rw [if_neg (by omega)];omega
 refine(cy) ?_;rw [hv];exact⟨rfl,c1⟩
theorem G0{l:List ByteArray}{ring:Bool}{a1:Option Addr}{n1 e1:Nat}{fin:Int}{cc:Nat}(hl:Strs A w a r c l) (hc:cc≤65535) (h6:r≤1000):CR prog 141 #[.agg #[.bool ring,.slice a1 n1 e1,.int .i64 fin,.int .i64 (cc:Int)],.slice a r c] w (.int .i64 (eX fin cc (l.map dE):Int)):=by
 have hlen:=hl.len
 have Ef:∀x∈l.map dE,x≤65535:=fun x hx=>by obtain⟨s,_,rfl⟩:=List.mem_map.1 hx;exact nE s
 have BA:∀i,∀x∈(l.map dE).take i,x≤65535:=fun i x hx=>Ef x (List.mem_of_mem_take hx);refine enter func141 rfl ntmps141 rfl<|?_;have c0:aV [] w w:=aV.refl _ _;refine cS ?_;refine WL.go rfl (OX.box rfl rfl rfl fun b2 w1 nv fl=>?_);have s1:=nv.ext;have qK:=nv.j9 c0;have c1:=c0.trans s1;refine dV ?_;refine WC.drawn (m:=8) (C:=aV [] w1) (T:=fun _=>aV []) (E:=dm []) (bK (trivial)) mixed (by kernel_rfl) (aV.drew _ _)<|?_;refine DP .r (fun _ hC=>PV.fa nW rfl)<|DP .r (fun _ hC=>PV.ld1 aU (fl.ext hC).range rfl rfl)<|DP .r (fun _ hC=>PV.fa nW rfl)<|DP .r (fun _ hC=>PV.ld1 aU (fl.ext hC).range rfl rfl)<|DP .r (fun _ hC=>PV.fa nW rfl)<|DP .r (fun _ hC=>PV.ld1 aU (fl.ext hC).range rfl rfl)<|(eb) ?_;rintro w2 s2 _;have c2:=c1.trans s2;have fl:=fl.ext s2;refine gM ?_;refine WP .r (PV.jH sw rfl)<|dV ?_;refine WC.loop (σ:=Nat) (eP:=fun i=>[(2,.pointer (some ⟨b2,0,none⟩)),(5,.int .i64 (xK cc ((l.map dE).take i):Int)),(6,.int .i64 (wM cc ((l.map dE).take i):Int)),(7,.int .i64 (gx cc ((l.map dE).take i):Int)),(17,.slice a r c),(18,.int .i64 (r:Int)),(19,.int .i64 (i:Int))]) (I:=fun i w'=>aV [] w w'∧cV w' b2 59 [.bool ring,.slice a1 n1 e1,.int .i64 fin,.int .i64 (cc:Int)]∧i≤r) (μ:=fun i=>r - i) 0 Sub.t ⟨c2,fl,by omega⟩ ?_;rintro i w3 ⟨c3,fl,hi⟩;refine(aZ) (fun g20=>?_) fun g20=>?_
 ·
  simp at g20
  have cT:i<l.length:=by omega
  have Ia:i<(l.map dE).length:=by simp;omega
  have nj:=yk (c:=cc) (BA i);have rq:=qo hc (BA i);have vE:=oy hc (BA i);have hvi:=nE l[i]
  have dZ:((l.map dE).take i).length≤1000:=by rw [List.length_take];omega
  refine eC ?_;obtain⟨b1,o1,r1,nY,_,rfl,jr,_⟩:=(hl.ext c3).at (ao cT);refine nx ?_;refine WP .r (PV.fO sw nY rfl rfl (by omega))<|WP .r (PV.pA iF jr rfl rfl)<|(dh) Uz (Aa (s:=l[i])) ?_;rintro _ w4 ⟨rfl,s4⟩;have c4:=c3.trans s4;have fl:=fl.ext s4;refine qd ?_;refine WP .r (PV.N1 rfl rfl)<|cS ?_;refine WP .r (PV.orN rfl rfl (by omega) (by omega))<|oC ?_;refine EX.again (i+1) (Sub.cons rfl<|Sub.kN rfl (by rw [Cn Ia,List.getElem_map];omega)<|Sub.kN rfl (by rw [yM Ia,List.getElem_map];omega)<|Sub.kN rfl (by rw [yN Ia,List.getElem_map])<|Sub.k2 rfl rfl<|Sub.kN rfl (by simp)<|Sub.nil) ⟨c4,fl,by omega⟩ (by omega)
 simp at g20
 have cY:(l.map dE).take i=l.map dE:=List.take_of_length_le (by simp;omega);rw [cY];have nj:=yk (c:=cc) Ef;have rq:=qo hc Ef;have vE:=oy hc Ef
 have hll:(l.map dE).length≤1000:=by rw [List.length_map];omega
 refine kP ?_;refine WP .r (PV.fa tB rfl)<|(bM) aU fl.range<|(aZ) (fun uL=>?_) fun uL=>?_
 ·
  simp at uL
  refine dA ?_;refine WP .r (PV.rem rfl rfl (by omega))<|(cy) ?_;exact⟨by unfold eX;rw [if_pos uL,Int.tmod_eq_emod_of_nonneg (by omega)];rfl,c3⟩
 simp at uL
 refine(aZ) (fun Ab=>?_) fun Ab=>?_
 ·
  simp at Ab
  refine dA ?_;refine WP .r (PV.quo rfl rfl (by omega) (by rw [Int.tdiv_eq_ediv_of_nonneg (by omega)];omega) (by rw [Int.tdiv_eq_ediv_of_nonneg (by omega)];omega))<|WP .r (PV.rem rfl rfl (by omega))<|(cy) ?_;exact⟨by unfold eX;rw [if_neg uL,if_pos Ab,Int.tdiv_eq_ediv_of_nonneg (by omega),Int.tmod_eq_emod_of_nonneg (by omega)];rfl,c3⟩
 simp at Ab
 refine(aZ) (fun Ib=>?_) fun Ib=>?_
 ·
  simp at Ib
  refine(cy) ?_;exact⟨by unfold eX;rw [if_neg uL,if_neg Ab,if_pos Ib],c3⟩
 simp at Ib
 refine(aZ) (fun vm=>?_) fun vm=>?_
 ·
  simp at vm
  refine dA ?_;refine WP .r (PV.rem rfl rfl (by omega))<|(cy) ?_;exact⟨by unfold eX;rw [if_neg uL,if_neg Ab,if_neg Ib,if_pos vm,Int.tmod_eq_emod_of_nonneg (by omega)];rfl,c3⟩
 simp at vm
 refine(cy) ?_;exact⟨by unfold eX;rw [if_neg uL,if_neg Ab,if_neg Ib,if_neg vm],c3⟩
theorem Jy{k:Key}{ah:List ByteArray}{B C:Nat→Prop}{a2:Option Addr}{r2 e2:Nat}(ht:nO prog A w) (hr:ik B w a r c ab) (hl:Strs C w a2 r2 e2 ah) (hb:∀x∈ab,0≤x.c∧x.c≤65535∧x.asks.length≤1000):CR prog 108 #[.slice a r c,k.val,.slice a2 r2 e2] w ((dt ab k ah).val):=by
 have hle:=hr.le;have hlen:=hr.len;have Ac:=hl.len;refine enter func108 rfl ntmps108 rfl<|?_;have c0:aV [] w w:=aV.refl _ _;refine cS ?_;refine WL.go rfl (OX.box rfl rfl rfl fun b4 w1 jG bE=>?_);have s1:=jG.ext;have iw:=jG.j9 c0;have c1:=c0.trans s1;refine WL.go rfl (OX.alloc uI rfl fun b6 w2 mC eE=>?_);have s2:=mC.ext;have gz:=mC.j9 c1;have dY:b4≠b6:=mC.ne bE.lt;have pq:b6≠b4:=Ne.symm dY;have c2:=c1.trans s2;have bE:=bE.ext s2;refine(bA) aq bE.range<|(dh) SY (mq (k:=k)) ?_;rintro _ w3 ⟨rfl,s3⟩;have c3:=c2.trans s3;have bE:=bE.ext s3;have eE:=eE.ext s3;refine eC ?_;refine WC.mI (t:=28) (v:=.bool (decide (number k<0) || (decide ((r:Int)≤number k) || decide (aL ab (number k)≠k)))) (aV [] w3) ?_<|?_
 ·
  refine WC.drawn (m:=13) (C:=aV [] w3) (T:=fun _=>aV []) (E:=dm [(11,fun v _=>v=(aL ab (number k)).val)]) (bK (⟨fun _ _ _ _ _ _ _ h=>h,trivial⟩)) mixed (by kernel_rfl) (aV.drew _ _)<|(qe) (fun g16=>?_) (fun g16=>?_)
  ·
   refine(eb) ?_;rintro w4 s4 _;have c4:=c3.trans s4;have bE:=bE.ext s4;have eE:=eE.ext s4;exact(dp) (by simp only [g16];first | rfl | simp) s4
  refine cS ?_;refine DP .r (fun _ hC=>PV.jH ll rfl)<|(qe) (fun g22=>?_) (fun g22=>?_)
  ·
   refine(eb) ?_;rintro w4 s4 _;have c4:=c3.trans s4;have bE:=bE.ext s4;have eE:=eE.ext s4;exact(dp) (by simp only [g16,g22];first | rfl | simp) s4
  refine cS ?_;refine DW.e rfl rfl rfl rfl rfl (fun wx hC hF=>OX.call Bz rfl rfl ((gZ (n:=number k) (hr.ext (c3.trans hC))).mono ?_))<|?_
  ·
   rintro _ wy ⟨rfl,hy⟩;exact⟨_,rfl,hC.trans hy,hy,_,rfl,rfl⟩
  rintro _ wz _ rfl;refine DP .r (fun _ hC=>PV.Lp aq (bE.ext hC).range rfl rfl)<|(eb)<|?_;rintro w4 s4 _;have c4:=c3.trans s4;have bE:=bE.ext s4;have eE:=eE.ext s4;refine WP .r (PV.NY gY (p:=aL ab (number k)) (q:=k) rfl rfl)<|?_;exact(dp) (by simp only [g16,g22];first | rfl | simp) s4
 intro w4 s4;have c4:=c3.trans s4;have bE:=bE.ext s4;have eE:=eE.ext s4;refine(aZ) (fun iN=>?_) fun iN=>?_
 ·
  simp at iN
  have hv:=N4 (ah:=ah) (show number k<0∨(ab.length:Int)≤number k∨aL ab (number k)≠k by rw [← hlen];exact iN);refine cS ?_;refine WP .r (PV.bU (us:=[.bool true,.string ⟨#[]⟩,.int .i64 0,.string ⟨#[]⟩]) pM rfl rfl rfl)<|?_;refine WL.go rfl (OX.pB iS eE rfl rfl rfl rfl rfl fun w5 s5 _ eE=>?_);have c5:=c4.own s5 gz;have bE:=bE.cW s5 (by simp [dY]);refine(my) ko eE.range<|?_;rw [hv];exact⟨rfl,c5⟩
 simp at iN
 obtain⟨g1,g2,g3⟩:=iN;obtain⟨i,qt⟩:∃i:Nat,number k=i:=⟨(number k).toNat,by omega⟩
 have hi:i<ab.length:=by omega
 obtain⟨dK,fl,dJ⟩:=hb _ (List.getElem_mem hi);obtain⟨cc,hcc⟩:∃cc:Nat,ab[i].c=cc:=⟨ab[i].c.toNat,by omega⟩;refine dA ?_;obtain⟨S2,S3,S4,nY,_,⟨q1,q2,q3,rfl,oK⟩,jr,_⟩:=hr.at (ao hi);have jr:=bH jr c4 (by simp);rw [hcc] at jr;have td:=oK.len;refine dA ?_;refine WP .r (PV.Kk ll (i) nY rfl rfl (by omega) (by omega))<|(bA) xd jr<|nx ?_;refine WP .r (PV.jH sw rfl)<|?_;refine WL.go rfl (OX.alloc Sn rfl fun b8 w5 Da iY=>?_);have s5:=Da.ext;have vX:=Da.j9 c4;have lx:b4≠b8:=Da.ne bE.lt;have Jz:b8≠b4:=Ne.symm lx;have Ad:b6≠b8:=Da.ne eE.lt;have mW:b8≠b6:=Ne.symm Ad;have c5:=c4.trans s5;have bE:=bE.ext s5;have eE:=eE.ext s5;refine WL.go rfl (OX.pB Jp iY rfl rfl rfl rfl rfl fun w6 s6 _ iY=>?_);have c6:=c5.own s6 vX;have bE:=bE.cW s6 (by simp [lx]);have eE:=eE.cW s6 (by simp [Ad]);refine gM ?_;refine WP .r (PV.fa vV rfl)<|(bM) mT iY.range<|?_;refine WP .r (PV.jH Bx rfl)<|(aZ) (fun Ae=>?_) fun Ae=>?_
 ·
  simp at Ae
  have hv:=oz (ah:=ah) qt hi g3 (by omega);rw [← td,hcc,Int.toNat_natCast] at hv;have hfl:=ru (kind:=ab[i].final) (c:=cc) (l:=(ah.take q2).map dE) (by omega) (fun x hx=>by obtain⟨s,_,rfl⟩:=List.mem_map.1 hx;exact nE s);refine nx ?_;refine WC.drawn (m:=6) (C:=aV [] w6) (T:=fun _=>aV []) (E:=dm []) (bK (trivial)) mixed (by kernel_rfl) (aV.drew _ _)<|?_;refine DP .r (fun _ hC=>PV.Lp xd (iY.ext hC).range rfl rfl)<|nx ?_;refine DP .r (fun _ hC=>PV.fa vV rfl)<|DP .r (fun _ hC=>PV.ld1 mT (iY.ext hC).range rfl rfl)<|DP .r (fun _ hC=>PV.jH Bx rfl)<|DP .r (fun _ hC=>PV.yJ sw (hl.ext (c6.trans hC)) rfl rfl (by omega))<|(eb)<|?_;rintro w7 s7 _;have c7:=c6.trans s7;have bE:=bE.ext s7;have eE:=eE.ext s7;have iY:=iY.ext s7;refine(dh) ac6 (G0 (SR.take (hl.ext c7) (by omega)) (show cc≤65535 by omega) (by omega)) ?_;rintro _ w8 ⟨rfl,s8⟩;have c8:=c7.trans s8;have bE:=bE.ext s8;have eE:=eE.ext s8;have iY:=iY.ext s8;refine(dh) SS (pn (ht.ext c8) (by omega) (by omega)) ?_;rintro _ w9 ⟨rfl,s9⟩;have c9:=c8.trans s9;have bE:=bE.ext s9;have eE:=eE.ext s9;have iY:=iY.ext s9;refine WP .r (PV.bU (us:=[.bool true,.string (itoa ((eX ab[i].final cc ((ah.take q2).map dE)):Int)),.int .i64 0,.string ⟨#[]⟩]) pM rfl rfl rfl)<|?_;refine WL.go rfl (OX.pB iS eE rfl rfl rfl rfl rfl fun kE nZ _ eE=>?_);have Pv:=c9.own nZ gz;have bE:=bE.cW nZ (by simp [dY]);have iY:=iY.cW nZ (by simp [mW]);refine(my) ko eE.range<|?_;rw [hv];exact⟨rfl,Pv⟩
 simp at Ae
 have hn:r2<ab[i].asks.length:=by omega
 have hv:=oA (ah:=ah) qt hi g3 (by omega);simp only [← Ac] at hv;refine dA ?_;obtain⟨bx2,ox2,rx2,Bj,_,rfl,yj,_⟩:=(oK.ext c6).at (ao hn);refine nx ?_;refine WP .r (PV.fa vV rfl)<|(bM) mT iY.range<|nx ?_;refine WP .r (PV.fO Bx Bj rfl rfl (by omega))<|(bA) su yj<|?_;refine WL.go rfl (OX.alloc Xi rfl fun iA w7 kL ft=>?_);have s7:=kL.ext;have Eg:=kL.j9 c6;have lP:b4≠iA:=kL.ne bE.lt;have G1:iA≠b4:=Ne.symm lP;have xl:b6≠iA:=kL.ne eE.lt;have nJ:iA≠b6:=Ne.symm xl;have lQ:b8≠iA:=kL.ne iY.lt;have qM:iA≠b8:=Ne.symm lQ;have c7:=c6.trans s7;have bE:=bE.ext s7;have eE:=eE.ext s7;have iY:=iY.ext s7;refine WL.go rfl (OX.pB Jq ft rfl rfl rfl rfl rfl fun w8 s8 _ ft=>?_);have c8:=c7.own s8 Eg;have bE:=bE.cW s8 (by simp [lP]);have eE:=eE.cW s8 (by simp [xl]);have iY:=iY.cW s8 (by simp [lQ]);refine dV ?_;refine WP .r (PV.fa Ju rfl)<|(bM) aU ft.range<|eC ?_;refine WC.mI (t:=72) (v:=.bool (gC ab[i].asks[r2] ah)) (aV [] w8) ?_<|?_
 ·
  refine nx ?_;refine WP .r (PV.fa zU rfl)<|(bM) fq ft.range<|(ed) (fun Lg=>?_) (fun Lg=>?_)
  ·
   refine(ed) (fun g62=>?_) (fun g62=>?_)
   ·
    have kI:gC ab[i].asks[r2] ah=true:=by unfold gC;rw [Lg,← Ac];simp at g62;simp [g62]
    exact(dp) (by rw [kI]) (aV.refl _ _)
   simp at g62
   obtain⟨bx3,ox3,rx3,ha3,_,rfl,hr3,_⟩:=(hl.ext c8).at (ao (show r2 - 1<ah.length by omega))
   have kI:gC ab[i].asks[r2] ah=decide ((dE ah[r2 - 1]:Int).tmod 2=0):=by
    unfold gC
    simp only [Lg,← Ac,Bool.true_and];rw [decide_eq_false (by omega),Bool.false_or,getElem!_pos ah (r2 - 1) (by omega),Int.tmod_eq_emod_of_nonneg (by omega)]
    congr 1
    exact propext ⟨fun h=>by omega,fun h=>by omega⟩
   refine dA ?_;refine WP .r (PV.Kk sw (r2 - 1) ha3 rfl rfl (by omega) (by omega))<|WP .r (PV.pA iF hr3 rfl rfl)<|(dh) Uz (Aa (s:=ah[r2 - 1])) ?_;rintro _ w9 ⟨rfl,s9⟩;have c9:=c8.trans s9;have bE:=bE.ext s9;have eE:=eE.ext s9;have iY:=iY.ext s9;have ft:=ft.ext s9;refine WP .r (PV.rem rfl rfl (by omega))<|?_;exact(dp) (by rw [kI]) s9
  have kI:gC ab[i].asks[r2] ah=false:=by unfold gC;rw [Lg];rfl
  refine bf ?_;exact(dp) (by rw [kI]) (aV.refl _ _)
 intro w9 s9;have c9:=c8.trans s9;have bE:=bE.ext s9;have eE:=eE.ext s9;have iY:=iY.ext s9;have ft:=ft.ext s9;refine(aZ) (fun UG=>?_) fun UG=>?_
 ·
  have Db:sV ab[i].asks[r2] ah=ab[i].asks[r2].Ip:=by unfold sV;rw [if_pos UG]
  refine nx ?_;refine WP .r (PV.fa zV rfl)<|(bM) aU ft.range<|jo ?_;refine WP .r (PV.fa Ea rfl)<|(bM) fq ft.range<|(aZ) (fun nK=>?_) fun nK=>?_
  ·
   rw [Db,if_pos nK] at hv;refine(dh) Mx (jU) ?_;rintro _ kE ⟨rfl,nZ⟩;have Pv:=c9.trans nZ;have bE:=bE.ext nZ;have eE:=eE.ext nZ;have iY:=iY.ext nZ;have ft:=ft.ext nZ;refine WP .r (PV.bU (us:=[.bool false,.string ⟨#[]⟩,.int .i64 (dx _).kind,.string (dx _).text]) pM rfl rfl rfl)<|?_;refine WL.go rfl (OX.pB iS eE rfl rfl rfl rfl rfl fun kF vY _ eE=>?_);have XI:=Pv.own vY gz;have bE:=bE.cW vY (by simp [dY]);have iY:=iY.cW vY (by simp [mW]);have ft:=ft.cW vY (by simp [nJ]);refine(my) ko eE.range<|?_;rw [hv];exact⟨rfl,XI⟩
  rw [Db,if_neg (by simp [nK])] at hv;refine(dh) Bz (gZ (hr.ext c9)) ?_;rintro _ kE ⟨rfl,nZ⟩;have Pv:=c9.trans nZ;have bE:=bE.ext nZ;have eE:=eE.ext nZ;have iY:=iY.ext nZ;have ft:=ft.ext nZ;refine WP .r (PV.bU (us:=[.bool false,.string ⟨#[]⟩,.int .i64 (aL ab _).kind,.string (aL ab _).text]) pM rfl rfl rfl)<|?_;refine WL.go rfl (OX.pB iS eE rfl rfl rfl rfl rfl fun kF vY _ eE=>?_);have XI:=Pv.own vY gz;have bE:=bE.cW vY (by simp [dY]);have iY:=iY.cW vY (by simp [mW]);have ft:=ft.cW vY (by simp [nJ]);refine(my) ko eE.range<|?_;rw [hv];exact⟨rfl,XI⟩
 have Db:sV ab[i].asks[r2] ah=ab[i].asks[r2].n:=by unfold sV;rw [if_neg (by simp [UG])]
 refine eC ?_;refine WP .r (PV.fa Ea rfl)<|(bM) fq ft.range<|(aZ) (fun nK=>?_) fun nK=>?_
 ·
  rw [Db,if_pos nK] at hv;refine(dh) Mx (jU) ?_;rintro _ kE ⟨rfl,nZ⟩;have Pv:=c9.trans nZ;have bE:=bE.ext nZ;have eE:=eE.ext nZ;have iY:=iY.ext nZ;have ft:=ft.ext nZ;refine WP .r (PV.bU (us:=[.bool false,.string ⟨#[]⟩,.int .i64 (dx _).kind,.string (dx _).text]) pM rfl rfl rfl)<|?_;refine WL.go rfl (OX.pB iS eE rfl rfl rfl rfl rfl fun kF vY _ eE=>?_);have XI:=Pv.own vY gz;have bE:=bE.cW vY (by simp [dY]);have iY:=iY.cW vY (by simp [mW]);have ft:=ft.cW vY (by simp [nJ]);refine(my) ko eE.range<|?_;rw [hv];exact⟨rfl,XI⟩
 rw [Db,if_neg (by simp [nK])] at hv;refine(dh) Bz (gZ (hr.ext c9)) ?_;rintro _ kE ⟨rfl,nZ⟩;have Pv:=c9.trans nZ;have bE:=bE.ext nZ;have eE:=eE.ext nZ;have iY:=iY.ext nZ;have ft:=ft.ext nZ;refine WP .r (PV.bU (us:=[.bool false,.string ⟨#[]⟩,.int .i64 (aL ab _).kind,.string (aL ab _).text]) pM rfl rfl rfl)<|?_;refine WL.go rfl (OX.pB iS eE rfl rfl rfl rfl rfl fun kF vY _ eE=>?_);have XI:=Pv.own vY gz;have bE:=bE.cW vY (by simp [dY]);have iY:=iY.cW vY (by simp [mW]);have ft:=ft.cW vY (by simp [nJ]);refine(my) ko eE.range<|?_;rw [hv];exact⟨rfl,XI⟩
theorem G2(hr:ik A w a r c ab):Calls prog 62 #[.slice a r c] w fun e w'=>∃b:Bool,e=.returned (.bool b)∧(b=true↔aw ab)∧aV [] w w':=by
 have hle:=hr.le;have hlen:=hr.len;refine enter func62 rfl ntmps62 rfl<|?_;have c0:aV [] w w:=aV.refl _ _;refine qd ?_;refine WP .r (PV.jH ll rfl)<|dV ?_;refine WC.loop (σ:=Nat) (eP:=fun i=>[(0,.slice a r c),(7,.slice a r c),(8,.int .i64 (r:Int)),(9,.int .i64 (i:Int))]) (I:=fun i w'=>aV [] w w'∧i≤r∧∀j x,j<i→ab[j]?=some x→o0 ab j x) (μ:=fun i=>r - i) 0 Sub.t ⟨c0,by omega,fun j x h=>by omega⟩ ?_;rintro i w1 ⟨c1,hi,eV⟩;refine(aZ) (fun g10=>?_) fun g10=>?_
 ·
  simp at g10
  have cT:i<ab.length:=by omega
  obtain⟨S2,S3,S4,nY,_,⟨q1,q2,q3,rfl,oK⟩,jr,_⟩:=hr.at (ao cT);have td:=oK.len;have hq:=oK.le;refine eC ?_;have jr:=bH jr c1 (by simp);refine cS ?_;refine WP .r (PV.fO ll nY rfl rfl (by omega))<|(bA) xd jr<|?_;refine WL.go rfl (OX.alloc Sn rfl fun b4 w2 jG bE=>?_);have s2:=jG.ext;have iw:=jG.j9 c1;have c2:=c1.trans s2;refine nx ?_;refine WL.go rfl (OX.pB Jp bE rfl rfl rfl rfl rfl fun w3 s3 _ bE=>?_);have c3:=c2.own s3 iw;refine eC ?_;refine WP .r (PV.fa vV rfl)<|(bM) mT bE.range<|?_;refine WP .r (PV.jH Bx rfl)<|(aZ) (fun g17=>?_) fun g17=>?_
  ·
   simp at g17
   refine(cy) ?_;exact⟨false,rfl,⟨fun h=>(by cases h),fun h=>absurd (h.2 i _ (ao cT)).1 (by omega)⟩,c3⟩
  simp at g17
  refine eC ?_;refine WP .r (PV.fa vV rfl)<|(bM) mT bE.range<|?_;refine WP .r (PV.jH Bx rfl)<|dV ?_;refine WC.loop (σ:=Nat) (eP:=fun k=>[(0,.slice a r c),(7,.slice a r c),(8,.int .i64 (r:Int)),(9,.int .i64 (i:Int)),(3,.int .i64 (i:Int)),(4,.pointer (some ⟨b4,0,none⟩)),(19,.slice q1 q2 q3),(20,.int .i64 (q2:Int)),(21,.int .i64 (k:Int))]) (I:=fun k w'=>aV [] w w'∧cV w' b4 59 [.bool ab[i].ring,.slice q1 q2 q3,.int .i64 ab[i].final,.int .i64 ab[i].c]∧k≤q2∧∀j x,j<k→ab[i].asks[j]?=some x→gD ab i ab[i].ring j x=true) (μ:=fun k=>q2 - k) 0 Sub.t ⟨c3,bE,by omega,fun j x h=>by omega⟩ ?_;rintro k w4 ⟨c4,bE,hk,S5⟩;refine(aZ) (fun g22=>?_) fun g22=>?_
  ·
   simp at g22
   have nc:k<ab[i].asks.length:=by omega
   obtain⟨bx2,ox2,rx2,Bj,_,rfl,yj,_⟩:=(oK.ext c4).at (ao nc);refine gM ?_;refine WP .r (PV.fO Bx Bj rfl rfl (by omega))<|(bA) su yj<|?_;refine WL.go rfl (OX.alloc Xi rfl fun b6 w5 mC eE=>?_);have s5:=mC.ext;have gz:=mC.j9 c4;have dY:b4≠b6:=mC.ne bE.lt;have pq:b6≠b4:=Ne.symm dY;have c5:=c4.trans s5;have bE:=bE.ext s5;refine nx ?_;refine WL.go rfl (OX.pB Jq eE rfl rfl rfl rfl rfl fun w6 s6 _ eE=>?_);have c6:=c5.own s6 gz;have bE:=bE.cW s6 (by simp [dY]);refine dA ?_;refine WC.mI (t:=63) (v:=.bool (!gD ab i ab[i].ring k ab[i].asks[k])) (aV [] w6) ?_<|?_
   ·
    refine(bA) su eE.range<|?_;refine WP .r (PV.fa Ju rfl)<|(bM) aU eE.range<|(dh) acH (C9 (x:=ab[i].asks[k]) (n:=ab[i].asks[k].n) (hr.ext c6) cT) ?_;rintro _ w7 ⟨rfl,s7⟩;have c7:=c6.trans s7;have bE:=bE.ext s7;have eE:=eE.ext s7;refine(ed) (fun jA=>?_) (fun jA=>?_)
    ·
     refine bf ?_;refine bf ?_;exact(dp) (by unfold gD;simp at jA;first | (simp [jA];done) | (exfalso;simp_all;done) | (simp_all;done) | (simp [jA];rw [Bool.eq_iff_iff];simp;done) | (simp [jA];rw [Bool.eq_iff_iff];simp;omega) | (simp [jA];omega) | (simp_all;omega)) s7
    refine WP .r (PV.fa zU rfl)<|(bM) fq eE.range<|(ed) (fun gQ=>?_) (fun gQ=>?_)
    ·
     refine WP .r (PV.fa mU rfl)<|(bM) fq bE.range<|(ed) (fun n0=>?_) (fun n0=>?_)
     ·
      refine bf ?_;refine bf ?_;exact(dp) (by unfold gD;simp at jA gQ n0;first | (simp [jA,gQ,n0];done) | (exfalso;simp_all;done) | (simp_all;done) | (simp [jA,gQ,n0];rw [Bool.eq_iff_iff];simp;done) | (simp [jA,gQ,n0];rw [Bool.eq_iff_iff];simp;omega) | (simp [jA,gQ,n0];omega) | (simp_all;omega)) s7
     refine(ed) (fun nI=>?_) (fun nI=>?_)
     ·
      refine bf ?_;exact(dp) (by unfold gD;simp at jA gQ n0 nI;first | (simp [jA,gQ,n0,nI];done) | (exfalso;simp_all;done) | (simp_all;done) | (simp [jA,gQ,n0,nI];rw [Bool.eq_iff_iff];simp;done) | (simp [jA,gQ,n0,nI];rw [Bool.eq_iff_iff];simp;omega) | (simp [jA,gQ,n0,nI];omega) | (simp_all;omega)) s7
     refine(bA) su eE.range<|?_;refine WP .r (PV.fa zV rfl)<|(bM) aU eE.range<|(dh) acH (C9 (x:=ab[i].asks[k]) (n:=ab[i].asks[k].Ip) (hr.ext c7) cT) ?_;rintro _ w8 ⟨rfl,s8⟩;have c8:=c7.trans s8;have bE:=bE.ext s8;have eE:=eE.ext s8;refine(ed) (fun tI=>?_) (fun tI=>?_)
     ·
      exact(dp) (by unfold gD;simp at jA gQ n0 nI tI;first | (simp [jA,gQ,n0,nI,tI];done) | (exfalso;simp_all;done) | (simp_all;done) | (simp [jA,gQ,n0,nI,tI];rw [Bool.eq_iff_iff];simp;done) | (simp [jA,gQ,n0,nI,tI];rw [Bool.eq_iff_iff];simp;omega) | (simp [jA,gQ,n0,nI,tI];omega) | (simp_all;omega)) (s7.trans s8)
     refine WP .r (PV.fa zU rfl)<|(bM) fq eE.range<|(ed) (fun Af=>?_) (fun Af=>?_)
     ·
      refine WP .r (PV.fa zV rfl)<|(bM) aU eE.range<|?_;exact(dp) (by unfold gD;simp at jA gQ n0 nI tI Af;first | (simp [jA,gQ,n0,nI,tI,Af];done) | (exfalso;simp_all;done) | (simp_all;done) | (simp [jA,gQ,n0,nI,tI,Af];rw [Bool.eq_iff_iff];simp;done) | (simp [jA,gQ,n0,nI,tI,Af];rw [Bool.eq_iff_iff];simp;omega) | (simp [jA,gQ,n0,nI,tI,Af];omega) | (simp_all;omega)) (s7.trans s8)
     exact(dp) (by unfold gD;simp at jA gQ n0 nI tI Af;first | (simp [jA,gQ,n0,nI,tI,Af];done) | (exfalso;simp_all;done) | (simp_all;done) | (simp [jA,gQ,n0,nI,tI,Af];rw [Bool.eq_iff_iff];simp;done) | (simp [jA,gQ,n0,nI,tI,Af];rw [Bool.eq_iff_iff];simp;omega) | (simp [jA,gQ,n0,nI,tI,Af];omega) | (simp_all;omega)) (s7.trans s8)
    refine bf ?_;refine jo ?_;refine WP .r (PV.fa zU rfl)<|(bM) fq eE.range<|(ed) (fun Af=>?_) (fun Af=>?_)
    ·
     refine WP .r (PV.fa zV rfl)<|(bM) aU eE.range<|?_;exact(dp) (by unfold gD;simp at jA gQ Af;first | (simp [jA,gQ,Af];done) | (exfalso;simp_all;done) | (simp_all;done) | (simp [jA,gQ,Af];rw [Bool.eq_iff_iff];simp;done) | (simp [jA,gQ,Af];rw [Bool.eq_iff_iff];simp;omega) | (simp [jA,gQ,Af];omega) | (simp_all;omega)) s7
    exact(dp) (by unfold gD;simp at jA gQ Af;first | (simp [jA,gQ,Af];done) | (exfalso;simp_all;done) | (simp_all;done) | (simp [jA,gQ,Af];rw [Bool.eq_iff_iff];simp;done) | (simp [jA,gQ,Af];rw [Bool.eq_iff_iff];simp;omega) | (simp [jA,gQ,Af];omega) | (simp_all;omega)) s7
   intro w7 s7;have c7:=c6.trans s7;have bE:=bE.ext s7;have eE:=eE.ext s7;refine(aZ) (fun g63=>?_) fun g63=>?_
   ·
    simp at g63
    refine bf ?_;refine(cy) ?_;exact⟨false,rfl,⟨fun h=>(by cases h),fun h=>absurd ((h.2 i _ (ao cT)).2.1 k _ (ao nc)) (by simp [g63])⟩,c7⟩
   simp at g63
   refine gM ?_;refine EX.again (k+1) (Sub.k4 rfl rfl rfl rfl<|Sub.k4 rfl rfl rfl rfl<|Sub.kN rfl (by simp)<|Sub.nil) ⟨c7,bE,by omega,dD nc S5 g63⟩ (by omega)
  simp at g22
  have S5:∀j x,ab[i].asks[j]?=some x→gD ab i ab[i].ring j x=true:=fun j x hx=>S5 j x (by have:=(List.getElem?_eq_some_iff.1 hx).1;omega) hx;refine jo ?_;refine WC.mI (t:=106) (v:=.bool (!jy ab[i])) (fun wx=>w4=wx) ?_ ?_
  ·
   refine nx ?_;refine WP .r (PV.fa mU rfl)<|(bM) fq bE.range<|(ed) (fun jj=>?_) (fun jj=>?_)
   ·
    refine WP .r (PV.fa tB rfl)<|(bM) aU bE.range<|(ed) (fun nL=>?_) (fun nL=>?_)
    ·
     refine bf ?_;refine bf ?_;exact(dp) (by unfold jy;simp at jj nL;first | (simp [jj,nL];done) | (exfalso;simp_all;done) | (simp_all;done) | (simp [jj,nL];rw [Bool.eq_iff_iff];simp;done) | (simp [jj,nL];rw [Bool.eq_iff_iff];simp;omega) | (simp [jj,nL];omega) | (simp_all;omega)) rfl
    refine WP .r (PV.fa nW rfl)<|(bM) aU bE.range<|(ed) (fun nK=>?_) (fun nK=>?_)
    ·
     refine bf ?_;refine bf ?_;exact(dp) (by unfold jy;simp at jj nL nK;first | (simp [jj,nL,nK];done) | (exfalso;simp_all;done) | (simp_all;done) | (simp [jj,nL,nK];rw [Bool.eq_iff_iff];simp;done) | (simp [jj,nL,nK];rw [Bool.eq_iff_iff];simp;omega) | (simp [jj,nL,nK];omega) | (simp_all;omega)) rfl
    refine WP .r (PV.fa nW rfl)<|(bM) aU bE.range<|(ed) (fun oj=>?_) (fun oj=>?_)
    ·
     refine bf ?_;refine bf ?_;exact(dp) (by unfold jy;simp at jj nL nK oj;first | (simp [jj,nL,nK,oj];done) | (exfalso;simp_all;done) | (simp_all;done) | (simp [jj,nL,nK,oj];rw [Bool.eq_iff_iff];simp;done) | (simp [jj,nL,nK,oj];rw [Bool.eq_iff_iff];simp;omega) | (simp [jj,nL,nK,oj];omega) | (simp_all;omega)) rfl
    refine WP .r (PV.fa mU rfl)<|(bM) fq bE.range<|(ed) (fun lR=>?_) (fun lR=>?_)
    ·
     refine WP .r (PV.fa tB rfl)<|(bM) aU bE.range<|(ed) (fun n5=>?_) (fun n5=>?_)
     ·
      refine bf ?_;exact(dp) (by unfold jy;simp at jj nL nK oj lR n5;first | (simp [jj,nL,nK,oj,lR,n5];done) | (exfalso;simp_all;done) | (simp_all;done) | (simp [jj,nL,nK,oj,lR,n5];rw [Bool.eq_iff_iff];simp;done) | (simp [jj,nL,nK,oj,lR,n5];rw [Bool.eq_iff_iff];simp;omega) | (simp [jj,nL,nK,oj,lR,n5];omega) | (simp_all;omega)) rfl
     refine WP .r (PV.fa tB rfl)<|(bM) aU bE.range<|(ed) (fun rW=>?_) (fun rW=>?_)
     ·
      exact(dp) (by unfold jy;simp at jj nL nK oj lR n5 rW;first | (simp [jj,nL,nK,oj,lR,n5,rW];done) | (exfalso;simp_all;done) | (simp_all;done) | (simp [jj,nL,nK,oj,lR,n5,rW];rw [Bool.eq_iff_iff];simp;done) | (simp [jj,nL,nK,oj,lR,n5,rW];rw [Bool.eq_iff_iff];simp;omega) | (simp [jj,nL,nK,oj,lR,n5,rW];omega) | (simp_all;omega)) rfl
     refine WP .r (PV.fa nW rfl)<|(bM) aU bE.range<|(ed) (fun mX=>?_) (fun mX=>?_)
     ·
      exact(dp) (by unfold jy;simp at jj nL nK oj lR n5 rW mX;first | (simp [jj,nL,nK,oj,lR,n5,rW,mX];done) | (exfalso;simp_all;done) | (simp_all;done) | (simp [jj,nL,nK,oj,lR,n5,rW,mX];rw [Bool.eq_iff_iff];simp;done) | (simp [jj,nL,nK,oj,lR,n5,rW,mX];rw [Bool.eq_iff_iff];simp;omega) | (simp [jj,nL,nK,oj,lR,n5,rW,mX];omega) | (simp_all;omega)) rfl
     refine WP .r (PV.fa nW rfl)<|(bM) aU bE.range<|?_;exact(dp) (by unfold jy;simp at jj nL nK oj lR n5 rW mX;first | (simp [jj,nL,nK,oj,lR,n5,rW,mX];done) | (exfalso;simp_all;done) | (simp_all;done) | (simp [jj,nL,nK,oj,lR,n5,rW,mX];rw [Bool.eq_iff_iff];simp;done) | (simp [jj,nL,nK,oj,lR,n5,rW,mX];rw [Bool.eq_iff_iff];simp;omega) | (simp [jj,nL,nK,oj,lR,n5,rW,mX];omega) | (simp_all;omega)) rfl
    refine bf ?_;exact(dp) (by unfold jy;simp at jj nL nK oj lR;first | (simp [jj,nL,nK,oj,lR];done) | (exfalso;simp_all;done) | (simp_all;done) | (simp [jj,nL,nK,oj,lR];rw [Bool.eq_iff_iff];simp;done) | (simp [jj,nL,nK,oj,lR];rw [Bool.eq_iff_iff];simp;omega) | (simp [jj,nL,nK,oj,lR];omega) | (simp_all;omega)) rfl
   refine bf ?_;refine dA ?_;refine WP .r (PV.fa mU rfl)<|(bM) fq bE.range<|(ed) (fun lR=>?_) (fun lR=>?_)
   ·
    refine WP .r (PV.fa tB rfl)<|(bM) aU bE.range<|(ed) (fun n5=>?_) (fun n5=>?_)
    ·
     refine bf ?_;exact(dp) (by unfold jy;simp at jj lR n5;first | (simp [jj,lR,n5];done) | (exfalso;simp_all;done) | (simp_all;done) | (simp [jj,lR,n5];rw [Bool.eq_iff_iff];simp;done) | (simp [jj,lR,n5];rw [Bool.eq_iff_iff];simp;omega) | (simp [jj,lR,n5];omega) | (simp_all;omega)) rfl
    refine WP .r (PV.fa tB rfl)<|(bM) aU bE.range<|(ed) (fun rW=>?_) (fun rW=>?_)
    ·
     exact(dp) (by unfold jy;simp at jj lR n5 rW;first | (simp [jj,lR,n5,rW];done) | (exfalso;simp_all;done) | (simp_all;done) | (simp [jj,lR,n5,rW];rw [Bool.eq_iff_iff];simp;done) | (simp [jj,lR,n5,rW];rw [Bool.eq_iff_iff];simp;omega) | (simp [jj,lR,n5,rW];omega) | (simp_all;omega)) rfl
    refine WP .r (PV.fa nW rfl)<|(bM) aU bE.range<|(ed) (fun mX=>?_) (fun mX=>?_)
    ·
     exact(dp) (by unfold jy;simp at jj lR n5 rW mX;first | (simp [jj,lR,n5,rW,mX];done) | (exfalso;simp_all;done) | (simp_all;done) | (simp [jj,lR,n5,rW,mX];rw [Bool.eq_iff_iff];simp;done) | (simp [jj,lR,n5,rW,mX];rw [Bool.eq_iff_iff];simp;omega) | (simp [jj,lR,n5,rW,mX];omega) | (simp_all;omega)) rfl
    refine WP .r (PV.fa nW rfl)<|(bM) aU bE.range<|?_;exact(dp) (by unfold jy;simp at jj lR n5 rW mX;first | (simp [jj,lR,n5,rW,mX];done) | (exfalso;simp_all;done) | (simp_all;done) | (simp [jj,lR,n5,rW,mX];rw [Bool.eq_iff_iff];simp;done) | (simp [jj,lR,n5,rW,mX];rw [Bool.eq_iff_iff];simp;omega) | (simp [jj,lR,n5,rW,mX];omega) | (simp_all;omega)) rfl
   refine bf ?_;exact(dp) (by unfold jy;simp at jj lR;first | (simp [jj,lR];done) | (exfalso;simp_all;done) | (simp_all;done) | (simp [jj,lR];rw [Bool.eq_iff_iff];simp;done) | (simp [jj,lR];rw [Bool.eq_iff_iff];simp;omega) | (simp [jj,lR];omega) | (simp_all;omega)) rfl
  rintro _ rfl;refine(aZ) (fun Pw=>?_) fun Pw=>?_
  ·
   simp at Pw
   refine(cy) ?_;exact⟨false,rfl,⟨fun h=>(by cases h),fun h=>absurd (h.2 i _ (ao cT)).2.2 (by simp [Pw])⟩,c4⟩
  simp at Pw
  refine gM ?_;refine EX.again (i+1) (Sub.k2 rfl rfl<|Sub.cons rfl<|Sub.kN rfl (by simp)<|Sub.nil) ⟨c4,by omega,dD cT eV ⟨by omega,S5,Pw⟩⟩ (by omega)
 simp at g10
 have cY:∀j x,ab[j]?=some x→o0 ab j x:=fun j x hx=>eV j x (by have:=(List.getElem?_eq_some_iff.1 hx).1;omega) hx;refine kP ?_;refine WP .r (PV.jH ll rfl)<|(cy) ?_;exact⟨_,rfl,⟨fun h=>⟨by simp at h;omega,cY⟩,fun h=>by have:=h.1;simp;omega⟩,c1⟩
set_option maxHeartbeats 400000
theorem G3 :CR prog 6 #[.slice a n c] w (.bool (decide (n≤400))):=by
 refine enter func6 rfl ntmps6 rfl<|?_;have c0:aV [] w w:=aV.refl _ _;refine kP ?_;refine WP .r (PV.jH Jo rfl)<|(cy) ?_;exact⟨by congr 2;exact decide_eq_decide.2 (by omega),c0⟩
theorem JA{l:List Int}(hl:Ints A w a n c l) (h4:n≤400):Calls prog 8 #[.slice a n c] w fun e w'=>∃d,e=.returned (.pointer (some ⟨d,0,none⟩))∧w.heap.size≤d∧Iv A w' 74 d∧aV [] w w':=by
 refine enter func8 rfl ntmps8 rfl<|?_;have c0:aV [] w w:=aV.refl _ _;refine kP ?_;refine WP .r (PV.bU (us:=[.slice a n c,.int .i64 0]) aib rfl rfl rfl)<|?_;refine WL.go rfl (OX.box rfl rfl rfl fun b5 w1 nh gw=>?_);have s1:=nh.ext;have tE:=nh.j9 c0;have c1:=c0.trans s1;refine(cy) ?_;exact⟨_,rfl,tE,⟨l,a,n,c,0,gw,SR.ext hl c1,h4,by omega⟩,c1⟩
theorem JB{m:Int}{d:Nat}(hd:Iv A w 74 d) (hA:¬A d) (hm:m≤4611686018427387904):Calls prog 38 #[.pointer (some ⟨d,0,none⟩),.int .i64 m] w fun e w'=>∃z:Int,e=.returned (.int .i64 z)∧0≤z∧(1≤m→z<m)∧aV [d] w w'∧Iv A w' 74 d:=by
 obtain⟨l,a,n,c,t,hb,hl,h4,ht4⟩:=hd;have hlen:=SR.len hl;refine enter func38 rfl ntmps38 rfl<|?_;have c0:aV [d] w w:=aV.refl _ _;refine gM ?_;refine WC.drawn (m:=9) (C:=aV [] w) (T:=fun _=>aV []) (E:=dm []) (bK (trivial)) mixed (by kernel_rfl) (aV.drew _ _)<|cS ?_;refine DP .r (fun _ hC=>PV.fa Eb rfl)<|DP .r (fun _ hC=>PV.ld1 aU (hb.ext hC).range rfl rfl)<|cS ?_;refine DP .r (fun _ hC=>PV.fa Pf rfl)<|DP .r (fun _ hC=>PV.ld1 Uh (hb.ext hC).range rfl rfl)<|DP .r (fun _ hC=>PV.jH Jo rfl)<|(eb)<|?_;rintro w1 s1 _;have c1:=c0.trans s1.nil;have hb:=hb.ext s1;refine(aZ) (fun g14=>?_) fun g14=>?_
 ·
  skip
  refine(cy) ?_;exact⟨0,rfl,by omega,fun h=>by omega,c1,l,a,n,c,t,hb,SR.cW hl c1 (by simpa using hA) (fun _ _ h=>h),h4,ht4⟩
 simp at g14
 obtain⟨S2,S3,S4,nY,_,JC,jr,hAb⟩:=SR.at hl (ao (show t<l.length by omega));subst JC;refine jo ?_;refine WP .r (PV.fa Eb rfl)<|(bM) aU hb.range<|cS ?_;refine WP .r (PV.fa Eb rfl)<|?_;refine WL.go rfl (OX.st QT hb rfl rfl (by first | (simp [nth];done) | exact nns rfl) rfl rfl fun w2 s2 _ hb=>?_);have c2:=c1.trans s2;refine dA ?_;have jr:=bH jr c2 (by simp;rintro rfl;exact hA hAb);refine WC.drawn (m:=12) (C:=aV [] w2) (T:=fun _=>aV []) (E:=dm []) (bK (trivial)) mixed (by kernel_rfl) (aV.drew _ _)<|cS ?_;refine DP .r (fun _ hC=>PV.fa Pf rfl)<|DP .r (fun _ hC=>PV.ld1 Uh (hb.ext hC).range rfl rfl)<|cS ?_;refine DP .r (fun _ hC=>PV.fa Eb rfl)<|DP .r (fun _ hC=>PV.ld1 aU (hb.ext hC).range rfl rfl)<|nx ?_;refine DP .r (fun _ hC=>PV.Kk Jo (t) nY rfl rfl (by omega) (by omega))<|DP .r (fun _ hC=>PV.pA aU (bH jr hC (by simp)) rfl rfl)<|(eb) ?_;rintro w3 s3 _;have c3:=c2.trans s3.nil;have hb:=hb.ext s3;refine(dh) aiO (ME (n:=l[t]) (m:=m) (by omega)) ?_;rintro _ w4 ⟨rfl,s4⟩;have c4:=c3.trans s4.nil;have hb:=hb.ext s4;refine(cy) ?_;refine⟨_,rfl,?_,?_,c4,l,a,n,c,t+1,?_,SR.cW hl c4 (by simpa using hA) (fun _ _ h=>h),h4,by omega⟩
 ·
  split
  ·
   omega
  exact Int.emod_nonneg _ (by omega)
 ·
  intro h;rw [if_neg (by omega)];exact Int.emod_lt_of_pos _ (by omega)
 exact hb
def words:List ByteArray:=[⟨#[48]⟩,⟨#[49]⟩,⟨#[50]⟩,⟨#[51]⟩,⟨#[55]⟩,⟨#[49,48,48]⟩,⟨#[]⟩,⟨#[120]⟩,⟨#[49,54]⟩,⟨#[49]⟩]
theorem Px:∀s∈words,s.size≤100:=by decide
end Go.Rc

