/- Walks over the program, part WD. Conditions: as each theorem says. -/
import Derived.Test.YtpoiojafnnaccaaGreatDoorUFacts
import Derived.Test.YtpoiojafnnaccaaGreatDoorUWB
import Derived.Test.YtpoiojafnnaccaaGreatDoorUBb
set_option linter.all false
namespace Go.Rc
open Go Go.Proofs Go.Proofs.Tryz
variable {ab:List aJ}{A:Nat→Prop}{a:Option Addr}{r c n:Nat}{w:World}
set_option maxHeartbeats 400000
theorem Eg{i:Nat}{x:Ask}{n:Int}(hr:iW A w a r c ab) (hi:i<ab.length):CR prog 112 #[.slice a r c,.int .i64 (i:Int),x.val,.int .i64 n] w (.bool (iX ab i x.cell n)):=by
 have hle:=hr.le;have hlen:=hr.len;have lL:=da hi;refine enter func112 rfl ntmps112 rfl<|?_;have c0:bj [] w w:=bj.refl _ _;refine db ?_;refine WL.go rfl (OX.box rfl rfl rfl fun b6 w1 mV eM=>?_);have s1:=mV.ext;have gO:=mV.kI c0;have c1:=c0.trans s1;refine jo ?_;refine WP .r (PV.fa zo rfl)<|(bN) fG eM.range<|(bp) (fun g12=>?_) fun g12=>?_
 ·
  refine nx ?_;refine WC.o8 (t:=8) (v:=.bool (decide (0≤n) && decide (n≤15))) (fun wx=>w1=wx) ?_ ?_
  ·
   refine(dT) (fun g15=>?_) (fun g15=>?_)
   ·
    exact(iw) (by simp only [g15];first | rfl | simp) rfl
   exact(iw) (by simp only [g15];first | rfl | simp) rfl
  rintro _ rfl;refine(cm) ?_;exact⟨by unfold iX;rw [if_pos g12],c1⟩
 refine(df) adI (yn (n:=(i:Int)) (hr.ext c1)) ?_;rintro _ w2 ⟨rfl,s2⟩;have c2:=c1.trans s2;have eM:=eM.ext s2;refine qC ?_;obtain⟨b1,o1,r1,oK,_,⟨q1,q2,q3,rfl,_⟩,jG,_⟩:=(hr.ext c2).at (aq hi);refine dw ?_;refine WP .r (PV.fm lO oK rfl rfl (by omega))<|WP .r (PV.fa nG rfl)<|(bN) fG jG<|(bp) (fun l9=>?_) fun l9=>?_
 ·
  have ht:il ab i=(block ab i).1:=by unfold il;rw [lL];simp at l9;rw [l9];rfl
  refine jo ?_;refine WC.o8 (t:=8) (v:=.bool (decide (0≤n) && decide (n<il ab i))) (fun wx=>w2=wx) ?_ ?_
  ·
   refine(dT) (fun uW=>?_) (fun uW=>?_)
   ·
    exact(iw) (by simp only [ht,uW];first | rfl | simp) rfl
   exact(iw) (by simp only [ht,uW];first | rfl | simp) rfl
  rintro _ rfl;refine(cm) ?_;exact⟨by unfold iX;rw [g12];rfl,c2⟩
 have ht:il ab i=(block ab i).2:=by unfold il;rw [lL];simp at l9;rw [l9];rfl
 refine dw ?_;refine WC.o8 (t:=8) (v:=.bool (decide (0≤n) && decide (n<il ab i))) (fun wx=>w2=wx) ?_ ?_
 ·
  refine(dT) (fun uW=>?_) (fun uW=>?_)
  ·
   exact(iw) (by simp only [ht,uW];first | rfl | simp) rfl
  exact(iw) (by simp only [ht,uW];first | rfl | simp) rfl
 rintro _ rfl;refine(cm) ?_;exact⟨by unfold iX;rw [g12];rfl,c2⟩
theorem Bj{s:ByteArray} :CR prog 179 #[.string s] w (.int .i64 (eh s:Int)):=by
 refine enter func179 rfl ntmps179 rfl<|?_;have c0:bj [] w w:=bj.refl _ _;refine(df) Vw (tI (s:=s)) ?_;rintro _ w1 ⟨rfl,s1⟩;have c1:=c0.trans s1;refine eA ?_;refine WC.nb (t:=11) (v:=.bool (decide (fA s<0) || decide (65535<fA s))) (fun wx=>w1=wx) ?_ ?_
 ·
  refine(dT) (fun g8=>?_) (fun g8=>?_)
  ·
   exact(dx) (by simp only [g8];first | rfl | simp) rfl
  exact(dx) (by simp only [g8];first | rfl | simp) rfl
 rintro _ rfl;refine(bp) (fun g11=>?_) fun g11=>?_
 ·
  simp at g11
  have hv:eh s=0:=by unfold eh;rw [if_pos g11]
  refine(cm) ?_;rw [hv];exact⟨rfl,c1⟩
 simp at g11
 have hv:(eh s:Int)=fA s:=by unfold eh;rw [if_neg (by omega)];omega
 refine(cm) ?_;rw [hv];exact⟨rfl,c1⟩
theorem H6{l:List ByteArray}{ring:Bool}{a1:Option Addr}{n1 e1:Nat}{fin:Int}{cc:Nat}(hl:Strs A w a r c l) (hc:cc≤65535) (h6:r≤1000):CR prog 178 #[.agg #[.bool ring,.slice a1 n1 e1,.int .i64 fin,.int .i64 (cc:Int)],.slice a r c] w (.int .i64 (gi fin cc (l.map eh):Int)):=by
 have hlen:=hl.len
 have Fw:∀x∈l.map eh,x≤65535:=fun x hx=>by obtain⟨s,_,rfl⟩:=List.mem_map.1 hx;exact n9 s
 have CK:∀i,∀x∈(l.map eh).take i,x≤65535:=fun i x hx=>Fw x (List.mem_of_mem_take hx);refine enter func178 rfl ntmps178 rfl<|?_;have c0:bj [] w w:=bj.refl _ _;refine db ?_;refine WL.go rfl (OX.box rfl rfl rfl fun b2 w1 lB eZ=>?_);have s1:=lB.ext;have rZ:=lB.kI c0;have c1:=c0.trans s1;refine dF ?_;refine WC.drawn (m:=8) (C:=bj [] w1) (T:=fun _=>bj []) (E:=dy []) (bT (trivial)) mixed (by kernel_rfl) (bj.drew _ _)<|?_;refine DP .r (fun _ hC=>PV.fa oI rfl)<|DP .r (fun _ hC=>PV.ld1 aX (eZ.ext hC).range rfl rfl)<|DP .r (fun _ hC=>PV.fa oI rfl)<|DP .r (fun _ hC=>PV.ld1 aX (eZ.ext hC).range rfl rfl)<|DP .r (fun _ hC=>PV.fa oI rfl)<|DP .r (fun _ hC=>PV.ld1 aX (eZ.ext hC).range rfl rfl)<|(ey) ?_;rintro w2 s2 _;have c2:=c1.trans s2;have eZ:=eZ.ext s2;refine gp ?_;refine WP .r (PV.j0 CJ rfl)<|dF ?_;refine WC.loop (σ:=Nat) (eI:=fun i=>[(2,.pointer (some ⟨b2,0,none⟩)),(5,.int .i64 (zQ cc ((l.map eh).take i):Int)),(6,.int .i64 (xQ cc ((l.map eh).take i):Int)),(7,.int .i64 (gK cc ((l.map eh).take i):Int)),(17,.slice a r c),(18,.int .i64 (r:Int)),(19,.int .i64 (i:Int))]) (I:=fun i w'=>bj [] w w'∧cJ w' b2 69 [.bool ring,.slice a1 n1 e1,.int .i64 fin,.int .i64 (cc:Int)]∧i≤r) (μ:=fun i=>r - i) 0 Sub.t ⟨c2,eZ,by omega⟩ ?_;rintro i w3 ⟨c3,eZ,hi⟩;refine(bp) (fun g20=>?_) fun g20=>?_
 ·
  simp at g20
  have cV:i<l.length:=by omega
  have yo:i<(l.map eh).length:=by simp;omega
  have mR:=zh (c:=cc) (CK i);have td:=rA hc (CK i);have wX:=pc hc (CK i);have hvi:=n9 l[i]
  have ed:((l.map eh).take i).length≤1000:=by rw [List.length_take];omega
  refine eA ?_;obtain⟨b1,o1,r1,oK,_,rfl,jG,_⟩:=(hl.ext c3).at (aq cV);refine nx ?_;refine WP .r (PV.fm CJ oK rfl rfl (by omega))<|WP .r (PV.pM iq jG rfl rfl)<|(df) VO (Bj (s:=l[i])) ?_;rintro _ w4 ⟨rfl,s4⟩;have c4:=c3.trans s4;have eZ:=eZ.ext s4;refine qC ?_;refine WP .r (PV.OW rfl rfl)<|db ?_;refine WP .r (PV.orN rfl rfl (by omega) (by omega))<|nj ?_;refine EX.again (i+1) (Sub.cons rfl<|Sub.lz rfl (by rw [Dv yo,List.getElem_map];omega)<|Sub.lz rfl (by rw [zR yo,List.getElem_map];omega)<|Sub.lz rfl (by rw [zS yo,List.getElem_map])<|Sub.k2 rfl rfl<|Sub.lz rfl (by simp)<|Sub.nil) ⟨c4,eZ,by omega⟩ (by omega)
 simp at g20
 have cy:(l.map eh).take i=l.map eh:=List.take_of_length_le (by simp;omega);rw [cy];have mR:=zh (c:=cc) Fw;have td:=rA hc Fw;have wX:=pc hc Fw
 have hll:(l.map eh).length≤1000:=by rw [List.length_map];omega
 refine kJ ?_;refine WP .r (PV.fa uz rfl)<|(bN) aX eZ.range<|(bp) (fun vL=>?_) fun vL=>?_
 ·
  simp at vL
  refine dw ?_;refine WP .r (PV.rem rfl rfl (by omega))<|(cm) ?_;exact⟨by unfold gi;rw [if_pos vL,Int.tmod_eq_emod_of_nonneg (by omega)];rfl,c3⟩
 simp at vL
 refine(bp) (fun Bk=>?_) fun Bk=>?_
 ·
  simp at Bk
  refine dw ?_;refine WP .r (PV.quo rfl rfl (by omega) (by rw [Int.tdiv_eq_ediv_of_nonneg (by omega)];omega) (by rw [Int.tdiv_eq_ediv_of_nonneg (by omega)];omega))<|WP .r (PV.rem rfl rfl (by omega))<|(cm) ?_;exact⟨by unfold gi;rw [if_neg vL,if_pos Bk,Int.tdiv_eq_ediv_of_nonneg (by omega),Int.tmod_eq_emod_of_nonneg (by omega)];rfl,c3⟩
 simp at Bk
 refine(bp) (fun Bl=>?_) fun Bl=>?_
 ·
  simp at Bl
  refine(cm) ?_;exact⟨by unfold gi;rw [if_neg vL,if_neg Bk,if_pos Bl],c3⟩
 simp at Bl
 refine(bp) (fun wC=>?_) fun wC=>?_
 ·
  simp at wC
  refine dw ?_;refine WP .r (PV.rem rfl rfl (by omega))<|(cm) ?_;exact⟨by unfold gi;rw [if_neg vL,if_neg Bk,if_neg Bl,if_pos wC,Int.tmod_eq_emod_of_nonneg (by omega)];rfl,c3⟩
 simp at wC
 refine(cm) ?_;exact⟨by unfold gi;rw [if_neg vL,if_neg Bk,if_neg Bl,if_neg wC],c3⟩
theorem KF{k:Key}{ao:List ByteArray}{B C:Nat→Prop}{a2:Option Addr}{r2 e2:Nat}(ht:oy prog A w) (hr:iW B w a r c ab) (hl:Strs C w a2 r2 e2 ao) (hb:∀x∈ab,0≤x.c∧x.c≤65535∧x.asks.length≤1000):CR prog 155 #[.slice a r c,k.val,.slice a2 r2 e2] w ((dP ab k ao).val):=by
 have hle:=hr.le;have hlen:=hr.len;have Bm:=hl.len;refine enter func155 rfl ntmps155 rfl<|?_;have c0:bj [] w w:=bj.refl _ _;refine db ?_;refine WL.go rfl (OX.box rfl rfl rfl fun b4 w1 jS bL=>?_);have s1:=jS.ext;have iR:=jS.kI c0;have c1:=c0.trans s1;refine WL.go rfl (OX.alloc vI rfl fun b6 w2 mV eM=>?_);have s2:=mV.ext;have gO:=mV.kI c1;have eu:b4≠b6:=mV.ne bL.lt;have qp:b6≠b4:=Ne.symm eu;have c2:=c1.trans s2;have bL:=bL.ext s2;refine(bz) av bL.range<|(df) TT (mN (k:=k)) ?_;rintro _ w3 ⟨rfl,s3⟩;have c3:=c2.trans s3;have bL:=bL.ext s3;have eM:=eM.ext s3;refine eA ?_;refine WC.nb (t:=28) (v:=.bool (decide (number k<0) || (decide ((r:Int)≤number k) || decide (aQ ab (number k)≠k)))) (bj [] w3) ?_<|?_
 ·
  refine WC.drawn (m:=13) (C:=bj [] w3) (T:=fun _=>bj []) (E:=dy [(11,fun v _=>v=(aQ ab (number k)).val)]) (bT (⟨fun _ _ _ _ _ _ _ h=>h,trivial⟩)) mixed (by kernel_rfl) (bj.drew _ _)<|(tf) (fun g16=>?_) (fun g16=>?_)
  ·
   refine(ey) ?_;rintro w4 s4 _;have c4:=c3.trans s4;have bL:=bL.ext s4;have eM:=eM.ext s4;exact(dx) (by simp only [g16];first | rfl | simp) s4
  refine db ?_;refine DP .r (fun _ hC=>PV.j0 lO rfl)<|(tf) (fun g22=>?_) (fun g22=>?_)
  ·
   refine(ey) ?_;rintro w4 s4 _;have c4:=c3.trans s4;have bL:=bL.ext s4;have eM:=eM.ext s4;exact(dx) (by simp only [g16,g22];first | rfl | simp) s4
  refine db ?_;refine DW.e rfl rfl rfl rfl rfl (fun wx hC hF=>OX.call NF rfl rfl ((l8 (n:=number k) (hr.ext (c3.trans hC))).mono ?_))<|?_
  ·
   rintro _ wy ⟨rfl,hy⟩;exact⟨_,rfl,hC.trans hy,hy,_,rfl,rfl⟩
  rintro _ wz _ rfl;refine DP .r (fun _ hC=>PV.MC av (bL.ext hC).range rfl rfl)<|(ey)<|?_;rintro w4 s4 _;have c4:=c3.trans s4;have bL:=bL.ext s4;have eM:=eM.ext s4;refine WP .r (PV.OT gB (p:=aQ ab (number k)) (q:=k) rfl rfl)<|?_;exact(dx) (by simp only [g16,g22];first | rfl | simp) s4
 intro w4 s4;have c4:=c3.trans s4;have bL:=bL.ext s4;have eM:=eM.ext s4;refine(bp) (fun iU=>?_) fun iU=>?_
 ·
  simp at iU
  have hv:=OZ (ao:=ao) (show number k<0∨(ab.length:Int)≤number k∨aQ ab (number k)≠k by rw [← hlen];exact iU);refine db ?_;refine WP .r (PV.cD (us:=[.bool true,.string ⟨#[]⟩,.int .i64 0,.string ⟨#[]⟩]) qK rfl rfl rfl)<|?_;refine WL.go rfl (OX.qx jk eM rfl rfl rfl rfl rfl fun w5 s5 _ eM=>?_);have c5:=c4.own s5 gO;have bL:=bL.cX s5 (by simp [eu]);refine(mI) kW eM.range<|?_;rw [hv];exact⟨rfl,c5⟩
 simp at iU
 obtain⟨g1,g2,g3⟩:=iU;obtain⟨i,rj⟩:∃i:Nat,number k=i:=⟨(number k).toNat,by omega⟩
 have hi:i<ab.length:=by omega
 obtain⟨dQ,eZ,dA⟩:=hb _ (List.getElem_mem hi);obtain⟨cc,hcc⟩:∃cc:Nat,ab[i].c=cc:=⟨ab[i].c.toNat,by omega⟩;refine dw ?_;obtain⟨TW,TX,TY,oK,_,⟨q1,q2,q3,rfl,py⟩,jG,_⟩:=hr.at (aq hi);have jG:=bE jG c4 (by simp);rw [hcc] at jG;have tC:=py.len;refine dw ?_;refine WP .r (PV.Ls lO (i) oK rfl rfl (by omega) (by omega))<|(bz) yl jG<|nx ?_;refine WP .r (PV.j0 CJ rfl)<|?_;refine WL.go rfl (OX.alloc Tm rfl fun b8 w5 Bn jm=>?_);have s5:=Bn.ext;have xx:=Bn.kI c4;have lQ:b4≠b8:=Bn.ne bL.lt;have KG:b8≠b4:=Ne.symm lQ;have Bo:b6≠b8:=Bn.ne eM.lt;have nJ:b8≠b6:=Ne.symm Bo;have c5:=c4.trans s5;have bL:=bL.ext s5;have eM:=eM.ext s5;refine WL.go rfl (OX.qx Kw jm rfl rfl rfl rfl rfl fun w6 s6 _ jm=>?_);have c6:=c5.own s6 xx;have bL:=bL.cX s6 (by simp [lQ]);have eM:=eM.cX s6 (by simp [Bo]);refine gp ?_;refine WP .r (PV.fa xt rfl)<|(bN) nF jm.range<|?_;refine WP .r (PV.j0 CI rfl)<|(bp) (fun Bp=>?_) fun Bp=>?_
 ·
  simp at Bp
  have hv:=sK (ao:=ao) rj hi g3 (by omega);rw [← tC,hcc,Int.toNat_natCast] at hv;have hfl:=sJ (kind:=ab[i].final) (c:=cc) (l:=(ao.take q2).map eh) (by omega) (fun x hx=>by obtain⟨s,_,rfl⟩:=List.mem_map.1 hx;exact n9 s);refine nx ?_;refine WC.drawn (m:=6) (C:=bj [] w6) (T:=fun _=>bj []) (E:=dy []) (bT (trivial)) mixed (by kernel_rfl) (bj.drew _ _)<|?_;refine DP .r (fun _ hC=>PV.MC yl (jm.ext hC).range rfl rfl)<|nx ?_;refine DP .r (fun _ hC=>PV.fa xt rfl)<|DP .r (fun _ hC=>PV.ld1 nF (jm.ext hC).range rfl rfl)<|DP .r (fun _ hC=>PV.j0 CI rfl)<|DP .r (fun _ hC=>PV.zM CJ (hl.ext (c6.trans hC)) rfl rfl (by omega))<|(ey)<|?_;rintro w7 s7 _;have c7:=c6.trans s7;have bL:=bL.ext s7;have eM:=eM.ext s7;have jm:=jm.ext s7;refine(df) aew (H6 (SR.take (hl.ext c7) (by omega)) (show cc≤65535 by omega) (by omega)) ?_;rintro _ w8 ⟨rfl,s8⟩;have c8:=c7.trans s8;have bL:=bL.ext s8;have eM:=eM.ext s8;have jm:=jm.ext s8;refine(df) TQ (qm (ht.ext c8) (by omega) (by omega)) ?_;rintro _ w9 ⟨rfl,s9⟩;have c9:=c8.trans s9;have bL:=bL.ext s9;have eM:=eM.ext s9;have jm:=jm.ext s9;refine WP .r (PV.cD (us:=[.bool true,.string (itoa ((gi ab[i].final cc ((ao.take q2).map eh)):Int)),.int .i64 0,.string ⟨#[]⟩]) qK rfl rfl rfl)<|?_;refine WL.go rfl (OX.qx jk eM rfl rfl rfl rfl rfl fun kM pz _ eM=>?_);have Qr:=c9.own pz gO;have bL:=bL.cX pz (by simp [eu]);have jm:=jm.cX pz (by simp [nJ]);refine(mI) kW eM.range<|?_;rw [hv];exact⟨rfl,Qr⟩
 simp at Bp
 have hn:r2<ab[i].asks.length:=by omega
 have hv:=wM (ao:=ao) rj hi g3 (by omega);simp only [← Bm] at hv;refine dw ?_;obtain⟨bx2,ox2,rx2,Co,_,rfl,zd,_⟩:=(py.ext c6).at (aq hn);refine nx ?_;refine WP .r (PV.fa xt rfl)<|(bN) nF jm.range<|nx ?_;refine WP .r (PV.fm CI Co rfl rfl (by omega))<|(bz) oG zd<|?_;refine WL.go rfl (OX.alloc Qd rfl fun jd w7 ma fP=>?_);have s7:=ma.ext;have Fx:=ma.kI c6;have mb:b4≠jd:=ma.ne bL.lt;have H7:jd≠b4:=Ne.symm mb;have yp:b6≠jd:=ma.ne eM.lt;have oi:jd≠b6:=Ne.symm yp;have mc:b8≠jd:=ma.ne jm.lt;have r6:jd≠b8:=Ne.symm mc;have c7:=c6.trans s7;have bL:=bL.ext s7;have eM:=eM.ext s7;have jm:=jm.ext s7;refine WL.go rfl (OX.qx AX fP rfl rfl rfl rfl rfl fun w8 s8 _ fP=>?_);have c8:=c7.own s8 Fx;have bL:=bL.cX s8 (by simp [mb]);have eM:=eM.cX s8 (by simp [yp]);have jm:=jm.cX s8 (by simp [mc]);refine dF ?_;refine WP .r (PV.fa Fu rfl)<|(bN) aX fP.range<|eA ?_;refine WC.nb (t:=72) (v:=.bool (gU ab[i].asks[r2] ao)) (bj [] w8) ?_<|?_
 ·
  refine nx ?_;refine WP .r (PV.fa vJ rfl)<|(bN) fG fP.range<|(dT) (fun Mp=>?_) (fun Mp=>?_)
  ·
   refine(dT) (fun g62=>?_) (fun g62=>?_)
   ·
    have jg:gU ab[i].asks[r2] ao=true:=by unfold gU;rw [Mp,← Bm];simp at g62;simp [g62]
    exact(dx) (by rw [jg]) (bj.refl _ _)
   simp at g62
   obtain⟨bx3,ox3,rx3,ha3,_,rfl,hr3,_⟩:=(hl.ext c8).at (aq (show r2 - 1<ao.length by omega))
   have jg:gU ab[i].asks[r2] ao=decide ((eh ao[r2 - 1]:Int).tmod 2=0):=by
    unfold gU
    simp only [Mp,← Bm,Bool.true_and];rw [decide_eq_false (by omega),Bool.false_or,getElem!_pos ao (r2 - 1) (by omega),Int.tmod_eq_emod_of_nonneg (by omega)]
    congr 1
    exact propext ⟨fun h=>by omega,fun h=>by omega⟩
   refine dw ?_;refine WP .r (PV.Ls CJ (r2 - 1) ha3 rfl rfl (by omega) (by omega))<|WP .r (PV.pM iq hr3 rfl rfl)<|(df) VO (Bj (s:=ao[r2 - 1])) ?_;rintro _ w9 ⟨rfl,s9⟩;have c9:=c8.trans s9;have bL:=bL.ext s9;have eM:=eM.ext s9;have jm:=jm.ext s9;have fP:=fP.ext s9;refine WP .r (PV.rem rfl rfl (by omega))<|?_;exact(dx) (by rw [jg]) s9
  have jg:gU ab[i].asks[r2] ao=false:=by unfold gU;rw [Mp];rfl
  refine bC ?_;exact(dx) (by rw [jg]) (bj.refl _ _)
 intro w9 s9;have c9:=c8.trans s9;have bL:=bL.ext s9;have eM:=eM.ext s9;have jm:=jm.ext s9;have fP:=fP.ext s9;refine(bp) (fun VQ=>?_) fun VQ=>?_
 ·
  have Eh:tZ ab[i].asks[r2] ao=ab[i].asks[r2].JF:=by unfold tZ;rw [if_pos VQ]
  refine nx ?_;refine WP .r (PV.fa vK rfl)<|(bN) aX fP.range<|jo ?_;refine WP .r (PV.fa zo rfl)<|(bN) fG fP.range<|(bp) (fun oj=>?_) fun oj=>?_
  ·
   rw [Eh,if_pos oj] at hv;refine(df) YG (qn) ?_;rintro _ kM ⟨rfl,pz⟩;have Qr:=c9.trans pz;have bL:=bL.ext pz;have eM:=eM.ext pz;have jm:=jm.ext pz;have fP:=fP.ext pz;refine WP .r (PV.cD (us:=[.bool false,.string ⟨#[]⟩,.int .i64 (eL _).kind,.string (eL _).text]) qK rfl rfl rfl)<|?_;refine WL.go rfl (OX.qx jk eM rfl rfl rfl rfl rfl fun kN xy _ eM=>?_);have YO:=Qr.own xy gO;have bL:=bL.cX xy (by simp [eu]);have jm:=jm.cX xy (by simp [nJ]);have fP:=fP.cX xy (by simp [oi]);refine(mI) kW eM.range<|?_;rw [hv];exact⟨rfl,YO⟩
  rw [Eh,if_neg (by simp [oj])] at hv;refine(df) NF (l8 (hr.ext c9)) ?_;rintro _ kM ⟨rfl,pz⟩;have Qr:=c9.trans pz;have bL:=bL.ext pz;have eM:=eM.ext pz;have jm:=jm.ext pz;have fP:=fP.ext pz;refine WP .r (PV.cD (us:=[.bool false,.string ⟨#[]⟩,.int .i64 (aQ ab _).kind,.string (aQ ab _).text]) qK rfl rfl rfl)<|?_;refine WL.go rfl (OX.qx jk eM rfl rfl rfl rfl rfl fun kN xy _ eM=>?_);have YO:=Qr.own xy gO;have bL:=bL.cX xy (by simp [eu]);have jm:=jm.cX xy (by simp [nJ]);have fP:=fP.cX xy (by simp [oi]);refine(mI) kW eM.range<|?_;rw [hv];exact⟨rfl,YO⟩
 have Eh:tZ ab[i].asks[r2] ao=ab[i].asks[r2].n:=by unfold tZ;rw [if_neg (by simp [VQ])]
 refine eA ?_;refine WP .r (PV.fa zo rfl)<|(bN) fG fP.range<|(bp) (fun oj=>?_) fun oj=>?_
 ·
  rw [Eh,if_pos oj] at hv;refine(df) YG (qn) ?_;rintro _ kM ⟨rfl,pz⟩;have Qr:=c9.trans pz;have bL:=bL.ext pz;have eM:=eM.ext pz;have jm:=jm.ext pz;have fP:=fP.ext pz;refine WP .r (PV.cD (us:=[.bool false,.string ⟨#[]⟩,.int .i64 (eL _).kind,.string (eL _).text]) qK rfl rfl rfl)<|?_;refine WL.go rfl (OX.qx jk eM rfl rfl rfl rfl rfl fun kN xy _ eM=>?_);have YO:=Qr.own xy gO;have bL:=bL.cX xy (by simp [eu]);have jm:=jm.cX xy (by simp [nJ]);have fP:=fP.cX xy (by simp [oi]);refine(mI) kW eM.range<|?_;rw [hv];exact⟨rfl,YO⟩
 rw [Eh,if_neg (by simp [oj])] at hv;refine(df) NF (l8 (hr.ext c9)) ?_;rintro _ kM ⟨rfl,pz⟩;have Qr:=c9.trans pz;have bL:=bL.ext pz;have eM:=eM.ext pz;have jm:=jm.ext pz;have fP:=fP.ext pz;refine WP .r (PV.cD (us:=[.bool false,.string ⟨#[]⟩,.int .i64 (aQ ab _).kind,.string (aQ ab _).text]) qK rfl rfl rfl)<|?_;refine WL.go rfl (OX.qx jk eM rfl rfl rfl rfl rfl fun kN xy _ eM=>?_);have YO:=Qr.own xy gO;have bL:=bL.cX xy (by simp [eu]);have jm:=jm.cX xy (by simp [nJ]);have fP:=fP.cX xy (by simp [oi]);refine(mI) kW eM.range<|?_;rw [hv];exact⟨rfl,YO⟩
theorem H8(hr:iW A w a r c ab):Calls prog 71 #[.slice a r c] w fun e w'=>∃b:Bool,e=.returned (.bool b)∧(b=true↔ay ab)∧bj [] w w':=by
 have hle:=hr.le;have hlen:=hr.len;refine enter func71 rfl ntmps71 rfl<|?_;have c0:bj [] w w:=bj.refl _ _;refine qC ?_;refine WP .r (PV.j0 lO rfl)<|dF ?_;refine WC.loop (σ:=Nat) (eI:=fun i=>[(0,.slice a r c),(7,.slice a r c),(8,.int .i64 (r:Int)),(9,.int .i64 (i:Int))]) (I:=fun i w'=>bj [] w w'∧i≤r∧∀j x,j<i→ab[j]?=some x→pT ab j x) (μ:=fun i=>r - i) 0 Sub.t ⟨c0,by omega,fun j x h=>by omega⟩ ?_;rintro i w1 ⟨c1,hi,eO⟩;refine(bp) (fun g10=>?_) fun g10=>?_
 ·
  simp at g10
  have cV:i<ab.length:=by omega
  obtain⟨TW,TX,TY,oK,_,⟨q1,q2,q3,rfl,py⟩,jG,_⟩:=hr.at (aq cV);have tC:=py.len;have hq:=py.le;refine eA ?_;have jG:=bE jG c1 (by simp);refine db ?_;refine WP .r (PV.fm lO oK rfl rfl (by omega))<|(bz) yl jG<|?_;refine WL.go rfl (OX.alloc Tm rfl fun b4 w2 jS bL=>?_);have s2:=jS.ext;have iR:=jS.kI c1;have c2:=c1.trans s2;refine nx ?_;refine WL.go rfl (OX.qx Kw bL rfl rfl rfl rfl rfl fun w3 s3 _ bL=>?_);have c3:=c2.own s3 iR;refine eA ?_;refine WP .r (PV.fa xt rfl)<|(bN) nF bL.range<|?_;refine WP .r (PV.j0 CI rfl)<|(bp) (fun g17=>?_) fun g17=>?_
  ·
   simp at g17
   refine(cm) ?_;exact⟨false,rfl,⟨fun h=>(by cases h),fun h=>absurd (h.2 i _ (aq cV)).1 (by omega)⟩,c3⟩
  simp at g17
  refine eA ?_;refine WP .r (PV.fa xt rfl)<|(bN) nF bL.range<|?_;refine WP .r (PV.j0 CI rfl)<|dF ?_;refine WC.loop (σ:=Nat) (eI:=fun k=>[(0,.slice a r c),(7,.slice a r c),(8,.int .i64 (r:Int)),(9,.int .i64 (i:Int)),(3,.int .i64 (i:Int)),(4,.pointer (some ⟨b4,0,none⟩)),(19,.slice q1 q2 q3),(20,.int .i64 (q2:Int)),(21,.int .i64 (k:Int))]) (I:=fun k w'=>bj [] w w'∧cJ w' b4 69 [.bool ab[i].ring,.slice q1 q2 q3,.int .i64 ab[i].final,.int .i64 ab[i].c]∧k≤q2∧∀j x,j<k→ab[i].asks[j]?=some x→gV ab i ab[i].ring j x=true) (μ:=fun k=>q2 - k) 0 Sub.t ⟨c3,bL,by omega,fun j x h=>by omega⟩ ?_;rintro k w4 ⟨c4,bL,hk,TZ⟩;refine(bp) (fun g22=>?_) fun g22=>?_
  ·
   simp at g22
   have nQ:k<ab[i].asks.length:=by omega
   obtain⟨bx2,ox2,rx2,Co,_,rfl,zd,_⟩:=(py.ext c4).at (aq nQ);refine gp ?_;refine WP .r (PV.fm CI Co rfl rfl (by omega))<|(bz) oG zd<|?_;refine WL.go rfl (OX.alloc Qd rfl fun b6 w5 mV eM=>?_);have s5:=mV.ext;have gO:=mV.kI c4;have eu:b4≠b6:=mV.ne bL.lt;have qp:b6≠b4:=Ne.symm eu;have c5:=c4.trans s5;have bL:=bL.ext s5;refine nx ?_;refine WL.go rfl (OX.qx AX eM rfl rfl rfl rfl rfl fun w6 s6 _ eM=>?_);have c6:=c5.own s6 gO;have bL:=bL.cX s6 (by simp [eu]);refine dw ?_;refine WC.nb (t:=63) (v:=.bool (!gV ab i ab[i].ring k ab[i].asks[k])) (bj [] w6) ?_<|?_
   ·
    refine(bz) oG eM.range<|?_;refine WP .r (PV.fa Fu rfl)<|(bN) aX eM.range<|(df) Vx (Eg (x:=ab[i].asks[k]) (n:=ab[i].asks[k].n) (hr.ext c6) cV) ?_;rintro _ w7 ⟨rfl,s7⟩;have c7:=c6.trans s7;have bL:=bL.ext s7;have eM:=eM.ext s7;refine(dT) (fun jX=>?_) (fun jX=>?_)
    ·
     refine bC ?_;refine bC ?_;exact(dx) (by unfold gV;simp at jX;first | (simp [jX];done) | (exfalso;simp_all;done) | (simp_all;done) | (simp [jX];rw [Bool.eq_iff_iff];simp;done) | (simp [jX];rw [Bool.eq_iff_iff];simp;omega) | (simp [jX];omega) | (simp_all;omega)) s7
    refine WP .r (PV.fa vJ rfl)<|(bN) fG eM.range<|(dT) (fun ir=>?_) (fun ir=>?_)
    ·
     refine WP .r (PV.fa nG rfl)<|(bN) fG bL.range<|(dT) (fun om=>?_) (fun om=>?_)
     ·
      refine bC ?_;refine bC ?_;exact(dx) (by unfold gV;simp at jX ir om;first | (simp [jX,ir,om];done) | (exfalso;simp_all;done) | (simp_all;done) | (simp [jX,ir,om];rw [Bool.eq_iff_iff];simp;done) | (simp [jX,ir,om];rw [Bool.eq_iff_iff];simp;omega) | (simp [jX,ir,om];omega) | (simp_all;omega)) s7
     refine(dT) (fun oh=>?_) (fun oh=>?_)
     ·
      refine bC ?_;exact(dx) (by unfold gV;simp at jX ir om oh;first | (simp [jX,ir,om,oh];done) | (exfalso;simp_all;done) | (simp_all;done) | (simp [jX,ir,om,oh];rw [Bool.eq_iff_iff];simp;done) | (simp [jX,ir,om,oh];rw [Bool.eq_iff_iff];simp;omega) | (simp [jX,ir,om,oh];omega) | (simp_all;omega)) s7
     refine(bz) oG eM.range<|?_;refine WP .r (PV.fa vK rfl)<|(bN) aX eM.range<|(df) Vx (Eg (x:=ab[i].asks[k]) (n:=ab[i].asks[k].JF) (hr.ext c7) cV) ?_;rintro _ w8 ⟨rfl,s8⟩;have c8:=c7.trans s8;have bL:=bL.ext s8;have eM:=eM.ext s8;refine(dT) (fun uG=>?_) (fun uG=>?_)
     ·
      exact(dx) (by unfold gV;simp at jX ir om oh uG;first | (simp [jX,ir,om,oh,uG];done) | (exfalso;simp_all;done) | (simp_all;done) | (simp [jX,ir,om,oh,uG];rw [Bool.eq_iff_iff];simp;done) | (simp [jX,ir,om,oh,uG];rw [Bool.eq_iff_iff];simp;omega) | (simp [jX,ir,om,oh,uG];omega) | (simp_all;omega)) (s7.trans s8)
     refine WP .r (PV.fa vJ rfl)<|(bN) fG eM.range<|(dT) (fun Bq=>?_) (fun Bq=>?_)
     ·
      refine WP .r (PV.fa vK rfl)<|(bN) aX eM.range<|?_;exact(dx) (by unfold gV;simp at jX ir om oh uG Bq;first | (simp [jX,ir,om,oh,uG,Bq];done) | (exfalso;simp_all;done) | (simp_all;done) | (simp [jX,ir,om,oh,uG,Bq];rw [Bool.eq_iff_iff];simp;done) | (simp [jX,ir,om,oh,uG,Bq];rw [Bool.eq_iff_iff];simp;omega) | (simp [jX,ir,om,oh,uG,Bq];omega) | (simp_all;omega)) (s7.trans s8)
     exact(dx) (by unfold gV;simp at jX ir om oh uG Bq;first | (simp [jX,ir,om,oh,uG,Bq];done) | (exfalso;simp_all;done) | (simp_all;done) | (simp [jX,ir,om,oh,uG,Bq];rw [Bool.eq_iff_iff];simp;done) | (simp [jX,ir,om,oh,uG,Bq];rw [Bool.eq_iff_iff];simp;omega) | (simp [jX,ir,om,oh,uG,Bq];omega) | (simp_all;omega)) (s7.trans s8)
    refine bC ?_;refine jo ?_;refine WP .r (PV.fa vJ rfl)<|(bN) fG eM.range<|(dT) (fun Bq=>?_) (fun Bq=>?_)
    ·
     refine WP .r (PV.fa vK rfl)<|(bN) aX eM.range<|?_;exact(dx) (by unfold gV;simp at jX ir Bq;first | (simp [jX,ir,Bq];done) | (exfalso;simp_all;done) | (simp_all;done) | (simp [jX,ir,Bq];rw [Bool.eq_iff_iff];simp;done) | (simp [jX,ir,Bq];rw [Bool.eq_iff_iff];simp;omega) | (simp [jX,ir,Bq];omega) | (simp_all;omega)) s7
    exact(dx) (by unfold gV;simp at jX ir Bq;first | (simp [jX,ir,Bq];done) | (exfalso;simp_all;done) | (simp_all;done) | (simp [jX,ir,Bq];rw [Bool.eq_iff_iff];simp;done) | (simp [jX,ir,Bq];rw [Bool.eq_iff_iff];simp;omega) | (simp [jX,ir,Bq];omega) | (simp_all;omega)) s7
   intro w7 s7;have c7:=c6.trans s7;have bL:=bL.ext s7;have eM:=eM.ext s7;refine(bp) (fun VR=>?_) fun VR=>?_
   ·
    simp at VR
    refine bC ?_;refine(cm) ?_;exact⟨false,rfl,⟨fun h=>(by cases h),fun h=>absurd ((h.2 i _ (aq cV)).2.1 k _ (aq nQ)) (by simp [VR])⟩,c7⟩
   simp at VR
   refine gp ?_;refine EX.again (k+1) (Sub.k4 rfl rfl rfl rfl<|Sub.k4 rfl rfl rfl rfl<|Sub.lz rfl (by simp)<|Sub.nil) ⟨c7,bL,by omega,dJ nQ TZ VR⟩ (by omega)
  simp at g22
  have TZ:∀j x,ab[i].asks[j]?=some x→gV ab i ab[i].ring j x=true:=fun j x hx=>TZ j x (by have:=(List.getElem?_eq_some_iff.1 hx).1;omega) hx;refine jo ?_;refine WC.nb (t:=106) (v:=.bool (!jV ab[i])) (fun wx=>w4=wx) ?_ ?_
  ·
   refine nx ?_;refine WP .r (PV.fa nG rfl)<|(bN) fG bL.range<|(dT) (fun jB=>?_) (fun jB=>?_)
   ·
    refine WP .r (PV.fa uz rfl)<|(bN) aX bL.range<|(dT) (fun oo=>?_) (fun oo=>?_)
    ·
     refine bC ?_;refine bC ?_;exact(dx) (by unfold jV;simp at jB oo;first | (simp [jB,oo];done) | (exfalso;simp_all;done) | (simp_all;done) | (simp [jB,oo];rw [Bool.eq_iff_iff];simp;done) | (simp [jB,oo];rw [Bool.eq_iff_iff];simp;omega) | (simp [jB,oo];omega) | (simp_all;omega)) rfl
    refine WP .r (PV.fa oI rfl)<|(bN) aX bL.range<|(dT) (fun oj=>?_) (fun oj=>?_)
    ·
     refine bC ?_;refine bC ?_;exact(dx) (by unfold jV;simp at jB oo oj;first | (simp [jB,oo,oj];done) | (exfalso;simp_all;done) | (simp_all;done) | (simp [jB,oo,oj];rw [Bool.eq_iff_iff];simp;done) | (simp [jB,oo,oj];rw [Bool.eq_iff_iff];simp;omega) | (simp [jB,oo,oj];omega) | (simp_all;omega)) rfl
    refine WP .r (PV.fa oI rfl)<|(bN) aX bL.range<|(dT) (fun oY=>?_) (fun oY=>?_)
    ·
     refine bC ?_;refine bC ?_;exact(dx) (by unfold jV;simp at jB oo oj oY;first | (simp [jB,oo,oj,oY];done) | (exfalso;simp_all;done) | (simp_all;done) | (simp [jB,oo,oj,oY];rw [Bool.eq_iff_iff];simp;done) | (simp [jB,oo,oj,oY];rw [Bool.eq_iff_iff];simp;omega) | (simp [jB,oo,oj,oY];omega) | (simp_all;omega)) rfl
    refine WP .r (PV.fa nG rfl)<|(bN) fG bL.range<|(dT) (fun me=>?_) (fun me=>?_)
    ·
     refine WP .r (PV.fa uz rfl)<|(bN) aX bL.range<|(dT) (fun oL=>?_) (fun oL=>?_)
     ·
      refine bC ?_;exact(dx) (by unfold jV;simp at jB oo oj oY me oL;first | (simp [jB,oo,oj,oY,me,oL];done) | (exfalso;simp_all;done) | (simp_all;done) | (simp [jB,oo,oj,oY,me,oL];rw [Bool.eq_iff_iff];simp;done) | (simp [jB,oo,oj,oY,me,oL];rw [Bool.eq_iff_iff];simp;omega) | (simp [jB,oo,oj,oY,me,oL];omega) | (simp_all;omega)) rfl
     refine WP .r (PV.fa uz rfl)<|(bN) aX bL.range<|(dT) (fun th=>?_) (fun th=>?_)
     ·
      exact(dx) (by unfold jV;simp at jB oo oj oY me oL th;first | (simp [jB,oo,oj,oY,me,oL,th];done) | (exfalso;simp_all;done) | (simp_all;done) | (simp [jB,oo,oj,oY,me,oL,th];rw [Bool.eq_iff_iff];simp;done) | (simp [jB,oo,oj,oY,me,oL,th];rw [Bool.eq_iff_iff];simp;omega) | (simp [jB,oo,oj,oY,me,oL,th];omega) | (simp_all;omega)) rfl
     refine WP .r (PV.fa oI rfl)<|(bN) aX bL.range<|(dT) (fun nK=>?_) (fun nK=>?_)
     ·
      exact(dx) (by unfold jV;simp at jB oo oj oY me oL th nK;first | (simp [jB,oo,oj,oY,me,oL,th,nK];done) | (exfalso;simp_all;done) | (simp_all;done) | (simp [jB,oo,oj,oY,me,oL,th,nK];rw [Bool.eq_iff_iff];simp;done) | (simp [jB,oo,oj,oY,me,oL,th,nK];rw [Bool.eq_iff_iff];simp;omega) | (simp [jB,oo,oj,oY,me,oL,th,nK];omega) | (simp_all;omega)) rfl
     refine WP .r (PV.fa oI rfl)<|(bN) aX bL.range<|?_;exact(dx) (by unfold jV;simp at jB oo oj oY me oL th nK;first | (simp [jB,oo,oj,oY,me,oL,th,nK];done) | (exfalso;simp_all;done) | (simp_all;done) | (simp [jB,oo,oj,oY,me,oL,th,nK];rw [Bool.eq_iff_iff];simp;done) | (simp [jB,oo,oj,oY,me,oL,th,nK];rw [Bool.eq_iff_iff];simp;omega) | (simp [jB,oo,oj,oY,me,oL,th,nK];omega) | (simp_all;omega)) rfl
    refine bC ?_;exact(dx) (by unfold jV;simp at jB oo oj oY me;first | (simp [jB,oo,oj,oY,me];done) | (exfalso;simp_all;done) | (simp_all;done) | (simp [jB,oo,oj,oY,me];rw [Bool.eq_iff_iff];simp;done) | (simp [jB,oo,oj,oY,me];rw [Bool.eq_iff_iff];simp;omega) | (simp [jB,oo,oj,oY,me];omega) | (simp_all;omega)) rfl
   refine bC ?_;refine dw ?_;refine WP .r (PV.fa nG rfl)<|(bN) fG bL.range<|(dT) (fun me=>?_) (fun me=>?_)
   ·
    refine WP .r (PV.fa uz rfl)<|(bN) aX bL.range<|(dT) (fun oL=>?_) (fun oL=>?_)
    ·
     refine bC ?_;exact(dx) (by unfold jV;simp at jB me oL;first | (simp [jB,me,oL];done) | (exfalso;simp_all;done) | (simp_all;done) | (simp [jB,me,oL];rw [Bool.eq_iff_iff];simp;done) | (simp [jB,me,oL];rw [Bool.eq_iff_iff];simp;omega) | (simp [jB,me,oL];omega) | (simp_all;omega)) rfl
    refine WP .r (PV.fa uz rfl)<|(bN) aX bL.range<|(dT) (fun th=>?_) (fun th=>?_)
    ·
     exact(dx) (by unfold jV;simp at jB me oL th;first | (simp [jB,me,oL,th];done) | (exfalso;simp_all;done) | (simp_all;done) | (simp [jB,me,oL,th];rw [Bool.eq_iff_iff];simp;done) | (simp [jB,me,oL,th];rw [Bool.eq_iff_iff];simp;omega) | (simp [jB,me,oL,th];omega) | (simp_all;omega)) rfl
    refine WP .r (PV.fa oI rfl)<|(bN) aX bL.range<|(dT) (fun nK=>?_) (fun nK=>?_)
    ·
     exact(dx) (by unfold jV;simp at jB me oL th nK;first | (simp [jB,me,oL,th,nK];done) | (exfalso;simp_all;done) | (simp_all;done) | (simp [jB,me,oL,th,nK];rw [Bool.eq_iff_iff];simp;done) | (simp [jB,me,oL,th,nK];rw [Bool.eq_iff_iff];simp;omega) | (simp [jB,me,oL,th,nK];omega) | (simp_all;omega)) rfl
    refine WP .r (PV.fa oI rfl)<|(bN) aX bL.range<|?_;exact(dx) (by unfold jV;simp at jB me oL th nK;first | (simp [jB,me,oL,th,nK];done) | (exfalso;simp_all;done) | (simp_all;done) | (simp [jB,me,oL,th,nK];rw [Bool.eq_iff_iff];simp;done) | (simp [jB,me,oL,th,nK];rw [Bool.eq_iff_iff];simp;omega) | (simp [jB,me,oL,th,nK];omega) | (simp_all;omega)) rfl
   refine bC ?_;exact(dx) (by unfold jV;simp at jB me;first | (simp [jB,me];done) | (exfalso;simp_all;done) | (simp_all;done) | (simp [jB,me];rw [Bool.eq_iff_iff];simp;done) | (simp [jB,me];rw [Bool.eq_iff_iff];simp;omega) | (simp [jB,me];omega) | (simp_all;omega)) rfl
  rintro _ rfl;refine(bp) (fun Qs=>?_) fun Qs=>?_
  ·
   simp at Qs
   refine(cm) ?_;exact⟨false,rfl,⟨fun h=>(by cases h),fun h=>absurd (h.2 i _ (aq cV)).2.2 (by simp [Qs])⟩,c4⟩
  simp at Qs
  refine gp ?_;refine EX.again (i+1) (Sub.k2 rfl rfl<|Sub.cons rfl<|Sub.lz rfl (by simp)<|Sub.nil) ⟨c4,by omega,dJ cV eO ⟨by omega,TZ,Qs⟩⟩ (by omega)
 simp at g10
 have cy:∀j x,ab[j]?=some x→pT ab j x:=fun j x hx=>eO j x (by have:=(List.getElem?_eq_some_iff.1 hx).1;omega) hx;refine kJ ?_;refine WP .r (PV.j0 lO rfl)<|(cm) ?_;exact⟨_,rfl,⟨fun h=>⟨by simp at h;omega,cy⟩,fun h=>by have:=h.1;simp;omega⟩,c1⟩
set_option maxHeartbeats 400000
theorem H9 :CR prog 5 #[.slice a n c] w (.bool (decide (n≤400))):=by
 refine enter func5 rfl ntmps5 rfl<|?_;have c0:bj [] w w:=bj.refl _ _;refine kJ ?_;refine WP .r (PV.j0 Kv rfl)<|(cm) ?_;exact⟨by congr 2;exact decide_eq_decide.2 (by omega),c0⟩
theorem KH{l:List Int}(hl:Ints A w a n c l) (h4:n≤400):Calls prog 7 #[.slice a n c] w fun e w'=>∃d,e=.returned (.pointer (some ⟨d,0,none⟩))∧w.heap.size≤d∧JK A w' 74 d∧bj [] w w':=by
 refine enter func7 rfl ntmps7 rfl<|?_;have c0:bj [] w w:=bj.refl _ _;refine kJ ?_;refine WP .r (PV.cD (us:=[.slice a n c,.int .i64 0]) ajg rfl rfl rfl)<|?_;refine WL.go rfl (OX.box rfl rfl rfl fun b5 w1 nH gI=>?_);have s1:=nH.ext;have uD:=nH.kI c0;have c1:=c0.trans s1;refine(cm) ?_;exact⟨_,rfl,uD,⟨l,a,n,c,0,gI,SR.ext hl c1,h4,by omega⟩,c1⟩
theorem KI{m:Int}{d:Nat}(hd:JK A w 74 d) (hA:¬A d) (hm:m≤4611686018427387904):Calls prog 11 #[.pointer (some ⟨d,0,none⟩),.int .i64 m] w fun e w'=>∃z:Int,e=.returned (.int .i64 z)∧0≤z∧(1≤m→z<m)∧bj [d] w w'∧JK A w' 74 d:=by
 obtain⟨l,a,n,c,t,hb,hl,h4,ht4⟩:=hd;have hlen:=SR.len hl;refine enter func11 rfl ntmps11 rfl<|?_;have c0:bj [d] w w:=bj.refl _ _;refine gp ?_;refine WC.drawn (m:=9) (C:=bj [] w) (T:=fun _=>bj []) (E:=dy []) (bT (trivial)) mixed (by kernel_rfl) (bj.drew _ _)<|db ?_;refine DP .r (fun _ hC=>PV.fa Ft rfl)<|DP .r (fun _ hC=>PV.ld1 aX (hb.ext hC).range rfl rfl)<|db ?_;refine DP .r (fun _ hC=>PV.fa Qe rfl)<|DP .r (fun _ hC=>PV.ld1 Vm (hb.ext hC).range rfl rfl)<|DP .r (fun _ hC=>PV.j0 Kv rfl)<|(ey)<|?_;rintro w1 s1 _;have c1:=c0.trans s1.nil;have hb:=hb.ext s1;refine(bp) (fun g14=>?_) fun g14=>?_
 ·
  skip
  refine(cm) ?_;exact⟨0,rfl,by omega,fun h=>by omega,c1,l,a,n,c,t,hb,SR.cX hl c1 (by simpa using hA) (fun _ _ h=>h),h4,ht4⟩
 simp at g14
 obtain⟨TW,TX,TY,oK,_,KJ,jG,hAb⟩:=SR.at hl (aq (show t<l.length by omega));subst KJ;refine jo ?_;refine WP .r (PV.fa Ft rfl)<|(bN) aX hb.range<|db ?_;refine WP .r (PV.fa Ft rfl)<|?_;refine WL.go rfl (OX.st RW hb rfl rfl (by first | (simp [nth];done) | exact nns rfl) rfl rfl fun w2 s2 _ hb=>?_);have c2:=c1.trans s2;refine dw ?_;have jG:=bE jG c2 (by simp;rintro rfl;exact hA hAb);refine WC.drawn (m:=12) (C:=bj [] w2) (T:=fun _=>bj []) (E:=dy []) (bT (trivial)) mixed (by kernel_rfl) (bj.drew _ _)<|db ?_;refine DP .r (fun _ hC=>PV.fa Qe rfl)<|DP .r (fun _ hC=>PV.ld1 Vm (hb.ext hC).range rfl rfl)<|db ?_;refine DP .r (fun _ hC=>PV.fa Ft rfl)<|DP .r (fun _ hC=>PV.ld1 aX (hb.ext hC).range rfl rfl)<|nx ?_;refine DP .r (fun _ hC=>PV.Ls Kv (t) oK rfl rfl (by omega) (by omega))<|DP .r (fun _ hC=>PV.pM aX (bE jG hC (by simp)) rfl rfl)<|(ey) ?_;rintro w3 s3 _;have c3:=c2.trans s3.nil;have hb:=hb.ext s3;refine(df) adz (Eb (n:=l[t]) (m:=m) (by omega)) ?_;rintro _ w4 ⟨rfl,s4⟩;have c4:=c3.trans s4.nil;have hb:=hb.ext s4;refine(cm) ?_;refine⟨_,rfl,?_,?_,c4,l,a,n,c,t+1,?_,SR.cX hl c4 (by simpa using hA) (fun _ _ h=>h),h4,by omega⟩
 ·
  split
  ·
   omega
  exact Int.emod_nonneg _ (by omega)
 ·
  intro h;rw [if_neg (by omega)];exact Int.emod_lt_of_pos _ (by omega)
 exact hb
def words:List ByteArray:=[⟨#[48]⟩,⟨#[49]⟩,⟨#[50]⟩,⟨#[51]⟩,⟨#[55]⟩,⟨#[49,48,48]⟩,⟨#[]⟩,⟨#[120]⟩,⟨#[49,54]⟩,⟨#[49]⟩]
theorem Qt:∀s∈words,s.size≤100:=by decide
end Go.Rc

