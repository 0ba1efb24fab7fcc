/- Walks over the program, part WD. Conditions: as each theorem says. -/
import Derived.Test.YtcongbofepbmeaaGreatDoorFFacts
import Derived.Test.YtcongbofepbmeaaGreatDoorFWB
import Derived.Test.YtcongbofepbmeaaGreatDoorFBb
set_option linter.all false
namespace Go.Rc
open Go Go.Proofs Go.Proofs.Tryz
variable {aa:List aA}{A:Nat→Prop}{a:Option Addr}{r c n:Nat}{w:World}
set_option maxHeartbeats 400000
theorem xx{i:Nat}{x:Ask}{n:Int}(hr:dX A w a r c aa) (hi:i<aa.length):CR prog 44 #[.slice a r c,.int .i64 (i:Int),x.val,.int .i64 n] w (.bool (fw aa i x.cell n)):=by
 have hle:=hr.le;have hlen:=hr.len;have g:=bD hi;refine enter func44 rfl ntmps44 rfl<|?_;have c0:aQ [] w w:=aQ.refl _ _;refine bz ?_;refine WL.go rfl (OX.box rfl rfl rfl fun l w1 h f=>?_);have s1:=h.ext;have m:=h.gS c0;have c1:=c0.trans s1;refine gw ?_;refine WP .r (PV.fa yr rfl)<|(aU) dM f.range<|(aN) (fun g12=>?_) fun g12=>?_
 ·
  refine nx ?_;refine WC.kV (t:=8) (v:=.bool (decide (0≤n) && decide (n≤15))) (fun d=>w1=d) ?_ ?_
  ·
   refine(bW) (fun g15=>?_) (fun g15=>?_)
   ·
    exact(eN) (by simp only [g15];first | rfl | simp) rfl
   exact(eN) (by simp only [g15];first | rfl | simp) rfl
  rintro _ rfl;refine(bm) ?_;exact⟨by unfold fw;rw [if_pos g12],c1⟩
 refine(bL) Tm (rB (n:=(i:Int)) (hr.ext c1)) ?_;rintro _ w2 ⟨rfl,s2⟩;have c2:=c1.trans s2;have f:=f.ext s2;refine kQ ?_;obtain⟨b1,o,r1,j,_,⟨q1,p,q,rfl,_⟩,k,_⟩:=(hr.ext c2).at (ai hi);refine cL ?_;refine WP .r (PV.ei gZ j rfl rfl (by omega))<|WP .r (PV.fa jU rfl)<|(aU) dM k<|(aN) (fun e=>?_) fun e=>?_
 ·
  have ht:e8 aa i=(block aa i).1:=by unfold e8;rw [g];simp at e;rw [e];rfl
  refine gw ?_;refine WC.kV (t:=8) (v:=.bool (decide (0≤n) && decide (n<e8 aa i))) (fun d=>w2=d) ?_ ?_
  ·
   refine(bW) (fun b=>?_) (fun b=>?_)
   ·
    exact(eN) (by simp only [ht,b];first | rfl | simp) rfl
   exact(eN) (by simp only [ht,b];first | rfl | simp) rfl
  rintro _ rfl;refine(bm) ?_;exact⟨by unfold fw;rw [g12];rfl,c2⟩
 have ht:e8 aa i=(block aa i).2:=by unfold e8;rw [g];simp at e;rw [e];rfl
 refine cL ?_;refine WC.kV (t:=8) (v:=.bool (decide (0≤n) && decide (n<e8 aa i))) (fun d=>w2=d) ?_ ?_
 ·
  refine(bW) (fun b=>?_) (fun b=>?_)
  ·
   exact(eN) (by simp only [ht,b];first | rfl | simp) rfl
  exact(eN) (by simp only [ht,b];first | rfl | simp) rfl
 rintro _ rfl;refine(bm) ?_;exact⟨by unfold fw;rw [g12];rfl,c2⟩
theorem uu{s:ByteArray} :CR prog 92 #[.string s] w (.int .i64 (cy s:Int)):=by
 refine enter func92 rfl ntmps92 rfl<|?_;have c0:aQ [] w w:=aQ.refl _ _;refine(bL) Mr (n0 (s:=s)) ?_;rintro _ w1 ⟨rfl,s1⟩;have c1:=c0.trans s1;refine cS ?_;refine WC.jH (t:=11) (v:=.bool (decide (cU s<0) || decide (65535<cU s))) (fun d=>w1=d) ?_ ?_
 ·
  refine(bW) (fun g8=>?_) (fun g8=>?_)
  ·
   exact(br) (by simp only [g8];first | rfl | simp) rfl
  exact(br) (by simp only [g8];first | rfl | simp) rfl
 rintro _ rfl;refine(aN) (fun g11=>?_) fun g11=>?_
 ·
  simp at g11
  have b:cy s=0:=by unfold cy;rw [if_pos g11]
  refine(bm) ?_;rw [b];exact⟨rfl,c1⟩
 simp at g11
 have b:(cy s:Int)=cU s:=by unfold cy;rw [if_neg (by omega)];omega
 refine(bm) ?_;rw [b];exact⟨rfl,c1⟩
theorem AW{l:List ByteArray}{ring:Bool}{a1:Option Addr}{n1 e1:Nat}{fin:Int}{d:Nat}(hl:Strs A w a r c l) (hc:d≤65535) (J:r≤1000):CR prog 91 #[.agg #[.bool ring,.slice a1 n1 e1,.int .i64 fin,.int .i64 (d:Int)],.slice a r c] w (.int .i64 (dG fin d (l.map cy):Int)):=by
 have hlen:=hl.len
 have k:∀x∈l.map cy,x≤65535:=fun x o=>by obtain⟨s,_,rfl⟩:=List.mem_map.1 o;exact ke s
 have p:∀i,∀x∈(l.map cy).take i,x≤65535:=fun i x o=>k x (List.mem_of_mem_take o);refine enter func91 rfl ntmps91 rfl<|?_;have c0:aQ [] w w:=aQ.refl _ _;refine bz ?_;refine WL.go rfl (OX.box rfl rfl rfl fun b2 w1 u b=>?_);have s1:=u.ext;have K:=u.gS c0;have c1:=c0.trans s1;refine cX ?_;refine WC.drawn (m:=8) (C:=aQ [] w1) (T:=fun _=>aQ []) (E:=bK []) (aS (trivial)) mixed (by kernel_rfl) (aQ.drew _ _)<|?_;refine DP .r (fun _ e=>PV.fa kJ rfl)<|DP .r (fun _ e=>PV.ld1 aK (b.ext e).range rfl rfl)<|DP .r (fun _ e=>PV.fa kJ rfl)<|DP .r (fun _ e=>PV.ld1 aK (b.ext e).range rfl rfl)<|DP .r (fun _ e=>PV.fa kJ rfl)<|DP .r (fun _ e=>PV.ld1 aK (b.ext e).range rfl rfl)<|(cG) ?_;rintro w2 s2 _;have c2:=c1.trans s2;have b:=b.ext s2;refine eP ?_;refine WP .r (PV.gE vL rfl)<|cX ?_;refine WC.loop (σ:=Nat) (dm:=fun i=>[(2,.pointer (some ⟨b2,0,none⟩)),(5,.int .i64 (rX d ((l.map cy).take i):Int)),(6,.int .i64 (qT d ((l.map cy).take i):Int)),(7,.int .i64 (eK d ((l.map cy).take i):Int)),(17,.slice a r c),(18,.int .i64 (r:Int)),(19,.int .i64 (i:Int))]) (I:=fun i w'=>aQ [] w w'∧cC w' b2 37 [.bool ring,.slice a1 n1 e1,.int .i64 fin,.int .i64 (d:Int)]∧i≤r) (μ:=fun i=>r - i) 0 Sub.t ⟨c2,b,by omega⟩ ?_;rintro i w3 ⟨c3,b,hi⟩;refine(aN) (fun g20=>?_) fun g20=>?_
 ·
  simp at g20
  have y:i<l.length:=by omega
  have q:i<(l.map cy).length:=by simp;omega
  have z:=su (c:=d) (p i);have B:=mA hc (p i);have D:=kX hc (p i);have L:=ke l[i]
  have M:((l.map cy).take i).length≤1000:=by rw [List.length_take];omega
  refine cS ?_;obtain⟨b1,N,r1,F,_,rfl,G,_⟩:=(hl.ext c3).at (ai y);refine nx ?_;refine WP .r (PV.ei vL F rfl rfl (by omega))<|WP .r (PV.nI eY G rfl rfl)<|(bL) Tu (uu (s:=l[i])) ?_;rintro _ w4 ⟨rfl,v⟩;have c4:=c3.trans v;have b:=b.ext v;refine kQ ?_;refine WP .r (PV.Hj rfl rfl)<|bz ?_;refine WP .r (PV.orN rfl rfl (by omega) (by omega))<|j8 ?_;refine EX.again (i+1) (Sub.cons rfl<|Sub.ib rfl (by rw [wP q,List.getElem_map];omega)<|Sub.ib rfl (by rw [sT q,List.getElem_map];omega)<|Sub.ib rfl (by rw [sU q,List.getElem_map])<|Sub.k2 rfl rfl<|Sub.ib rfl (by simp)<|Sub.nil) ⟨c4,b,by omega⟩ (by omega)
 simp at g20
 have H:(l.map cy).take i=l.map cy:=List.take_of_length_le (by simp;omega);rw [H];have z:=su (c:=d) k;have B:=mA hc k;have D:=kX hc k
 have O:(l.map cy).length≤1000:=by rw [List.length_map];omega
 refine iC ?_;refine WP .r (PV.fa oK rfl)<|(aU) aK b.range<|(aN) (fun f=>?_) fun f=>?_
 ·
  simp at f
  refine cL ?_;refine WP .r (PV.rem rfl rfl (by omega))<|(bm) ?_;exact⟨by unfold dG;rw [if_pos f,Int.tmod_eq_emod_of_nonneg (by omega)];rfl,c3⟩
 simp at f
 refine(aN) (fun g=>?_) fun g=>?_
 ·
  simp at g
  refine cL ?_;refine WP .r (PV.quo rfl rfl (by omega) (by rw [Int.tdiv_eq_ediv_of_nonneg (by omega)];omega) (by rw [Int.tdiv_eq_ediv_of_nonneg (by omega)];omega))<|WP .r (PV.rem rfl rfl (by omega))<|(bm) ?_;exact⟨by unfold dG;rw [if_neg f,if_pos g,Int.tdiv_eq_ediv_of_nonneg (by omega),Int.tmod_eq_emod_of_nonneg (by omega)];rfl,c3⟩
 simp at g
 refine(aN) (fun h=>?_) fun h=>?_
 ·
  simp at h
  refine(bm) ?_;exact⟨by unfold dG;rw [if_neg f,if_neg g,if_pos h],c3⟩
 simp at h
 refine(aN) (fun j=>?_) fun j=>?_
 ·
  simp at j
  refine cL ?_;refine WP .r (PV.rem rfl rfl (by omega))<|(bm) ?_;exact⟨by unfold dG;rw [if_neg f,if_neg g,if_neg h,if_pos j,Int.tmod_eq_emod_of_nonneg (by omega)];rfl,c3⟩
 simp at j
 refine(bm) ?_;exact⟨by unfold dG;rw [if_neg f,if_neg g,if_neg h,if_neg j],c3⟩
theorem Dq{k:Key}{ae:List ByteArray}{B C:Nat→Prop}{a2:Option Addr}{r2 e2:Nat}(ht:gV prog A w) (hr:dX B w a r c aa) (hl:Strs C w a2 r2 e2 ae) (hb:∀x∈aa,0≤x.c∧x.c≤65535∧x.asks.length≤1000):CR prog 49 #[.slice a r c,k.val,.slice a2 r2 e2] w ((bQ aa k ae).val):=by
 have hle:=hr.le;have hlen:=hr.len;have uv:=hl.len;refine enter func49 rfl ntmps49 rfl<|?_;have c0:aQ [] w w:=aQ.refl _ _;refine bz ?_;refine WL.go rfl (OX.box rfl rfl rfl fun b4 w1 AX d=>?_);have s1:=AX.ext;have uw:=AX.gS c0;have c1:=c0.trans s1;refine WL.go rfl (OX.alloc vM rfl fun L w2 Dr b=>?_);have s2:=Dr.ext;have M:=Dr.gS c1;have I:b4≠L:=Dr.ne d.lt;have Ds:L≠b4:=Ne.symm I;have c2:=c1.trans s2;have d:=d.ext s2;refine(aT) ak d.range<|(bL) K9 (js (k:=k)) ?_;rintro _ w3 ⟨rfl,s3⟩;have c3:=c2.trans s3;have d:=d.ext s3;have b:=b.ext s3;refine cS ?_;refine WC.jH (t:=28) (v:=.bool (decide (number k<0) || (decide ((r:Int)≤number k) || decide (aD aa (number k)≠k)))) (aQ [] w3) ?_<|?_
 ·
  refine WC.drawn (m:=13) (C:=aQ [] w3) (T:=fun _=>aQ []) (E:=bK [(11,fun v _=>v=(aD aa (number k)).val)]) (aS (⟨fun _ _ _ _ _ _ _ h=>h,trivial⟩)) mixed (by kernel_rfl) (aQ.drew _ _)<|(jf) (fun g16=>?_) (fun g16=>?_)
  ·
   refine(cG) ?_;rintro w4 u _;have c4:=c3.trans u;have d:=d.ext u;have b:=b.ext u;exact(br) (by simp only [g16];first | rfl | simp) u
  refine bz ?_;refine DP .r (fun _ D=>PV.gE gZ rfl)<|(jf) (fun g22=>?_) (fun g22=>?_)
  ·
   refine(cG) ?_;rintro w4 u _;have c4:=c3.trans u;have d:=d.ext u;have b:=b.ext u;exact(br) (by simp only [g16,g22];first | rfl | simp) u
  refine bz ?_;refine DW.e rfl rfl rfl rfl rfl (fun wx D hF=>OX.call O3 rfl rfl ((fS (n:=number k) (hr.ext (c3.trans D))).mono ?_))<|?_
  ·
   rintro _ wy ⟨rfl,hy⟩;exact⟨_,rfl,D.trans hy,hy,_,rfl,rfl⟩
  rintro _ wz _ rfl;refine DP .r (fun _ D=>PV.Fa ak (d.ext D).range rfl rfl)<|(cG)<|?_;rintro w4 u _;have c4:=c3.trans u;have d:=d.ext u;have b:=b.ext u;refine WP .r (PV.Hg ft (p:=aD aa (number k)) (q:=k) rfl rfl)<|?_;exact(br) (by simp only [g16,g22];first | rfl | simp) u
 intro w4 u;have c4:=c3.trans u;have d:=d.ext u;have b:=b.ext u;refine(aN) (fun R=>?_) fun R=>?_
 ·
  simp at R
  have z:=zF (ae:=ae) (show number k<0∨(aa.length:Int)≤number k∨aD aa (number k)≠k by rw [← hlen];exact R);refine bz ?_;refine WP .r (PV.bs (us:=[.bool true,.string ⟨#[]⟩,.int .i64 0,.string ⟨#[]⟩]) pq rfl rfl rfl)<|?_;refine WL.go rfl (OX.lW hY b rfl rfl rfl rfl rfl fun w5 N _ b=>?_);have c5:=c4.own N M;have d:=d.bT N (by simp [I]);refine(ky) iT b.range<|?_;rw [z];exact⟨rfl,c5⟩
 simp at R
 obtain⟨g1,g2,g3⟩:=R;obtain⟨i,vC⟩:∃i:Nat,number k=i:=⟨(number k).toNat,by omega⟩
 have hi:i<aa.length:=by omega
 obtain⟨B8,B9,xy⟩:=hb _ (List.getElem_mem hi);obtain⟨S,Uk⟩:∃S:Nat,aa[i].c=S:=⟨aa[i].c.toNat,by omega⟩;refine cL ?_;obtain⟨W3,W4,W5,y5,_,⟨q1,q2,q3,rfl,AY⟩,Z,_⟩:=hr.at (ai hi);have Z:=aV Z c4 (by simp);rw [Uk] at Z;have vN:=AY.len;refine cL ?_;refine WP .r (PV.B5 gZ (i) y5 rfl rfl (by omega) (by omega))<|(aT) nY Z<|nx ?_;refine WP .r (PV.gE vL rfl)<|?_;refine WL.go rfl (OX.alloc KD rfl fun O w5 Js f=>?_);have N:=Js.ext;have Pg:=Js.gS c4;have ux:b4≠O:=Js.ne d.lt;have Dt:O≠b4:=Ne.symm ux;have uy:L≠O:=Js.ne b.lt;have U:O≠L:=Ne.symm uy;have c5:=c4.trans N;have d:=d.ext N;have b:=b.ext N;refine WL.go rfl (OX.lW ym f rfl rfl rfl rfl rfl fun w6 s6 _ f=>?_);have V:=c5.own s6 Pg;have d:=d.bT s6 (by simp [ux]);have b:=b.bT s6 (by simp [uy]);refine eP ?_;refine WP .r (PV.fa qp rfl)<|(aU) ig f.range<|?_;refine WP .r (PV.gE uf rfl)<|(aN) (fun Zy=>?_) fun Zy=>?_
 ·
  simp at Zy
  have z:=nv (ae:=ae) vC hi g3 (by omega);rw [← vN,Uk,Int.toNat_natCast] at z;have hfl:=nt (kind:=aa[i].final) (c:=S) (l:=(ae.take q2).map cy) (by omega) (fun x hx=>by obtain⟨s,_,rfl⟩:=List.mem_map.1 hx;exact ke s);refine nx ?_;refine WC.drawn (m:=6) (C:=aQ [] w6) (T:=fun _=>aQ []) (E:=bK []) (aS (trivial)) mixed (by kernel_rfl) (aQ.drew _ _)<|?_;refine DP .r (fun _ D=>PV.Fa nY (f.ext D).range rfl rfl)<|nx ?_;refine DP .r (fun _ D=>PV.fa qp rfl)<|DP .r (fun _ D=>PV.ld1 ig (f.ext D).range rfl rfl)<|DP .r (fun _ D=>PV.gE uf rfl)<|DP .r (fun _ D=>PV.sQ vL (hl.ext (V.trans D)) rfl rfl (by omega))<|(cG)<|?_;rintro w7 F _;have c7:=V.trans F;have d:=d.ext F;have b:=b.ext F;have f:=f.ext F;refine(bL) Zq (AW (SR.take (hl.ext c7) (by omega)) (show S≤65535 by omega) (by omega)) ?_;rintro _ w8 ⟨rfl,G⟩;have P:=c7.trans G;have d:=d.ext G;have b:=b.ext G;have f:=f.ext G;refine(bL) Ia (iA (ht.ext P) (by omega) (by omega)) ?_;rintro _ w9 ⟨rfl,y⟩;have c9:=P.trans y;have d:=d.ext y;have b:=b.ext y;have f:=f.ext y;refine WP .r (PV.bs (us:=[.bool true,.string (itoa ((dG aa[i].final S ((ae.take q2).map cy)):Int)),.int .i64 0,.string ⟨#[]⟩]) pq rfl rfl rfl)<|?_;refine WL.go rfl (OX.lW hY b rfl rfl rfl rfl rfl fun jB g _ b=>?_);have H:=c9.own g M;have d:=d.bT g (by simp [I]);have f:=f.bT g (by simp [U]);refine(ky) iT b.range<|?_;rw [z];exact⟨rfl,H⟩
 simp at Zy
 have hn:r2<aa[i].asks.length:=by omega
 have z:=ny (ae:=ae) vC hi g3 (by omega);simp only [← uv] at z;refine cL ?_;obtain⟨Zz,ZA,ZB,y7,_,rfl,MF,_⟩:=(AY.ext V).at (ai hn);refine nx ?_;refine WP .r (PV.fa qp rfl)<|(aU) ig f.range<|nx ?_;refine WP .r (PV.ei uf y7 rfl rfl (by omega))<|(aT) l6 MF<|?_;refine WL.go rfl (OX.alloc OQ rfl fun Q w7 W j=>?_);have F:=W.ext;have yv:=W.gS V;have rC:b4≠Q:=W.ne d.lt;have AZ:Q≠b4:=Ne.symm rC;have rD:L≠Q:=W.ne b.lt;have kn:Q≠L:=Ne.symm rD;have rE:O≠Q:=W.ne f.lt;have MG:Q≠O:=Ne.symm rE;have c7:=V.trans F;have d:=d.ext F;have b:=b.ext F;have f:=f.ext F;refine WL.go rfl (OX.lW AM j rfl rfl rfl rfl rfl fun w8 G _ j=>?_);have P:=c7.own G yv;have d:=d.bT G (by simp [rC]);have b:=b.bT G (by simp [rD]);have f:=f.bT G (by simp [rE]);refine cX ?_;refine WP .r (PV.fa Dk rfl)<|(aU) aK j.range<|cS ?_;refine WC.jH (t:=72) (v:=.bool (eT aa[i].asks[r2] ae)) (aQ [] w8) ?_<|?_
 ·
  refine nx ?_;refine WP .r (PV.fa uj rfl)<|(aU) dM j.range<|(bW) (fun W6=>?_) (fun W6=>?_)
  ·
   refine(bW) (fun W7=>?_) (fun W7=>?_)
   ·
    have X:eT aa[i].asks[r2] ae=true:=by unfold eT;rw [W6,← uv];simp at W7;simp [W7]
    exact(br) (by rw [X]) (aQ.refl _ _)
   simp at W7
   obtain⟨bx3,ox3,rx3,Ul,_,rfl,hr3,_⟩:=(hl.ext P).at (ai (show r2 - 1<ae.length by omega))
   have X:eT aa[i].asks[r2] ae=decide ((cy ae[r2 - 1]:Int).tmod 2=0):=by
    unfold eT
    simp only [W6,← uv,Bool.true_and];rw [decide_eq_false (by omega),Bool.false_or,getElem!_pos ae (r2 - 1) (by omega),Int.tmod_eq_emod_of_nonneg (by omega)]
    congr 1
    exact propext ⟨fun h=>by omega,fun h=>by omega⟩
   refine cL ?_;refine WP .r (PV.B5 vL (r2 - 1) Ul rfl rfl (by omega) (by omega))<|WP .r (PV.nI eY hr3 rfl rfl)<|(bL) Tu (uu (s:=ae[r2 - 1])) ?_;rintro _ w9 ⟨rfl,y⟩;have c9:=P.trans y;have d:=d.ext y;have b:=b.ext y;have f:=f.ext y;have j:=j.ext y;refine WP .r (PV.rem rfl rfl (by omega))<|?_;exact(br) (by rw [X]) y
  have X:eT aa[i].asks[r2] ae=false:=by unfold eT;rw [W6];rfl
  refine aO ?_;exact(br) (by rw [X]) (aQ.refl _ _)
 intro w9 y;have c9:=P.trans y;have d:=d.ext y;have b:=b.ext y;have f:=f.ext y;have j:=j.ext y;refine(aN) (fun ZC=>?_) fun ZC=>?_
 ·
  have Y:oj aa[i].asks[r2] ae=aa[i].asks[r2].Cj:=by unfold oj;rw [if_pos ZC]
  refine nx ?_;refine WP .r (PV.fa uk rfl)<|(aU) aK j.range<|gw ?_;refine WP .r (PV.fa yr rfl)<|(aU) dM j.range<|(aN) (fun J=>?_) fun J=>?_
  ·
   rw [Y,if_pos J] at z;refine(bL) K5 (jV) ?_;rintro _ jB ⟨rfl,g⟩;have H:=c9.trans g;have d:=d.ext g;have b:=b.ext g;have f:=f.ext g;have j:=j.ext g;refine WP .r (PV.bs (us:=[.bool false,.string ⟨#[]⟩,.int .i64 (bH _).kind,.string (bH _).text]) pq rfl rfl rfl)<|?_;refine WL.go rfl (OX.lW hY b rfl rfl rfl rfl rfl fun iV o _ b=>?_);have K:=H.own o M;have d:=d.bT o (by simp [I]);have f:=f.bT o (by simp [U]);have j:=j.bT o (by simp [kn]);refine(ky) iT b.range<|?_;rw [z];exact⟨rfl,K⟩
  rw [Y,if_neg (by simp [J])] at z;refine(bL) O3 (fS (hr.ext c9)) ?_;rintro _ jB ⟨rfl,g⟩;have H:=c9.trans g;have d:=d.ext g;have b:=b.ext g;have f:=f.ext g;have j:=j.ext g;refine WP .r (PV.bs (us:=[.bool false,.string ⟨#[]⟩,.int .i64 (aD aa _).kind,.string (aD aa _).text]) pq rfl rfl rfl)<|?_;refine WL.go rfl (OX.lW hY b rfl rfl rfl rfl rfl fun iV o _ b=>?_);have K:=H.own o M;have d:=d.bT o (by simp [I]);have f:=f.bT o (by simp [U]);have j:=j.bT o (by simp [kn]);refine(ky) iT b.range<|?_;rw [z];exact⟨rfl,K⟩
 have Y:oj aa[i].asks[r2] ae=aa[i].asks[r2].n:=by unfold oj;rw [if_neg (by simp [ZC])]
 refine cS ?_;refine WP .r (PV.fa yr rfl)<|(aU) dM j.range<|(aN) (fun J=>?_) fun J=>?_
 ·
  rw [Y,if_pos J] at z;refine(bL) K5 (jV) ?_;rintro _ jB ⟨rfl,g⟩;have H:=c9.trans g;have d:=d.ext g;have b:=b.ext g;have f:=f.ext g;have j:=j.ext g;refine WP .r (PV.bs (us:=[.bool false,.string ⟨#[]⟩,.int .i64 (bH _).kind,.string (bH _).text]) pq rfl rfl rfl)<|?_;refine WL.go rfl (OX.lW hY b rfl rfl rfl rfl rfl fun iV o _ b=>?_);have K:=H.own o M;have d:=d.bT o (by simp [I]);have f:=f.bT o (by simp [U]);have j:=j.bT o (by simp [kn]);refine(ky) iT b.range<|?_;rw [z];exact⟨rfl,K⟩
 rw [Y,if_neg (by simp [J])] at z;refine(bL) O3 (fS (hr.ext c9)) ?_;rintro _ jB ⟨rfl,g⟩;have H:=c9.trans g;have d:=d.ext g;have b:=b.ext g;have f:=f.ext g;have j:=j.ext g;refine WP .r (PV.bs (us:=[.bool false,.string ⟨#[]⟩,.int .i64 (aD aa _).kind,.string (aD aa _).text]) pq rfl rfl rfl)<|?_;refine WL.go rfl (OX.lW hY b rfl rfl rfl rfl rfl fun iV o _ b=>?_);have K:=H.own o M;have d:=d.bT o (by simp [I]);have f:=f.bT o (by simp [U]);have j:=j.bT o (by simp [kn]);refine(ky) iT b.range<|?_;rw [z];exact⟨rfl,K⟩
theorem mR(hr:dX A w a r c aa):Calls prog 21 #[.slice a r c] w fun e w'=>∃b:Bool,e=.returned (.bool b)∧(b=true↔aq aa)∧aQ [] w w':=by
 have hle:=hr.le;have hlen:=hr.len;refine enter func21 rfl ntmps21 rfl<|?_;have c0:aQ [] w w:=aQ.refl _ _;refine kQ ?_;refine WP .r (PV.gE gZ rfl)<|cX ?_;refine WC.loop (σ:=Nat) (dm:=fun i=>[(0,.slice a r c),(7,.slice a r c),(8,.int .i64 (r:Int)),(9,.int .i64 (i:Int))]) (I:=fun i w'=>aQ [] w w'∧i≤r∧∀j x,j<i→aa[j]?=some x→jI aa j x) (μ:=fun i=>r - i) 0 Sub.t ⟨c0,by omega,fun j x h=>by omega⟩ ?_;rintro i w1 ⟨c1,hi,U⟩;refine(aN) (fun g10=>?_) fun g10=>?_
 ·
  simp at g10
  have G:i<aa.length:=by omega
  obtain⟨W3,W4,W5,y5,_,⟨q1,J,V,rfl,P⟩,Q,_⟩:=hr.at (ai G);have vN:=P.len;have hq:=P.le;refine cS ?_;have Q:=aV Q c1 (by simp);refine bz ?_;refine WP .r (PV.ei gZ y5 rfl rfl (by omega))<|(aT) nY Q<|?_;refine WL.go rfl (OX.alloc KD rfl fun b4 w2 W q=>?_);have s2:=W.ext;have uw:=W.gS c1;have c2:=c1.trans s2;refine nx ?_;refine WL.go rfl (OX.lW ym q rfl rfl rfl rfl rfl fun w3 s3 _ q=>?_);have c3:=c2.own s3 uw;refine cS ?_;refine WP .r (PV.fa qp rfl)<|(aU) ig q.range<|?_;refine WP .r (PV.gE uf rfl)<|(aN) (fun g17=>?_) fun g17=>?_
  ·
   simp at g17
   refine(bm) ?_;exact⟨false,rfl,⟨fun h=>(by cases h),fun h=>absurd (h.2 i _ (ai G)).1 (by omega)⟩,c3⟩
  simp at g17
  refine cS ?_;refine WP .r (PV.fa qp rfl)<|(aU) ig q.range<|?_;refine WP .r (PV.gE uf rfl)<|cX ?_;refine WC.loop (σ:=Nat) (dm:=fun k=>[(0,.slice a r c),(7,.slice a r c),(8,.int .i64 (r:Int)),(9,.int .i64 (i:Int)),(3,.int .i64 (i:Int)),(4,.pointer (some ⟨b4,0,none⟩)),(19,.slice q1 J V),(20,.int .i64 (J:Int)),(21,.int .i64 (k:Int))]) (I:=fun k w'=>aQ [] w w'∧cC w' b4 37 [.bool aa[i].ring,.slice q1 J V,.int .i64 aa[i].final,.int .i64 aa[i].c]∧k≤J∧∀j x,j<k→aa[i].asks[j]?=some x→ek aa i aa[i].ring j x=true) (μ:=fun k=>J - k) 0 Sub.t ⟨c3,q,by omega,fun j x h=>by omega⟩ ?_;rintro k w4 ⟨c4,q,hk,O⟩;refine(aN) (fun g22=>?_) fun g22=>?_
  ·
   simp at g22
   have R:k<aa[i].asks.length:=by omega
   obtain⟨Zz,ZA,ZB,y7,_,rfl,MF,_⟩:=(P.ext c4).at (ai R);refine eP ?_;refine WP .r (PV.ei uf y7 rfl rfl (by omega))<|(aT) l6 MF<|?_;refine WL.go rfl (OX.alloc OQ rfl fun X w5 S D=>?_);have Y:=S.ext;have Du:=S.gS c4;have Z:b4≠X:=S.ne q.lt;have Ds:X≠b4:=Ne.symm Z;have c5:=c4.trans Y;have q:=q.ext Y;refine nx ?_;refine WL.go rfl (OX.lW AM D rfl rfl rfl rfl rfl fun w6 s6 _ D=>?_);have T:=c5.own s6 Du;have q:=q.bT s6 (by simp [Z]);refine cL ?_;refine WC.jH (t:=63) (v:=.bool (!ek aa i aa[i].ring k aa[i].asks[k])) (aQ [] w6) ?_<|?_
   ·
    refine(aT) l6 D.range<|?_;refine WP .r (PV.fa Dk rfl)<|(aU) aK D.range<|(bL) Tl (xx (x:=aa[i].asks[k]) (n:=aa[i].asks[k].n) (hr.ext T) G) ?_;rintro _ w7 ⟨rfl,F⟩;have K:=T.trans F;have q:=q.ext F;have D:=D.ext F;refine(bW) (fun l=>?_) (fun l=>?_)
    ·
     refine aO ?_;refine aO ?_;exact(br) (by unfold ek;simp at l;first | (simp [l];done) | (exfalso;simp_all;done) | (simp_all;done) | (simp [l];rw [Bool.eq_iff_iff];simp;done) | (simp [l];rw [Bool.eq_iff_iff];simp;omega) | (simp [l];omega) | (simp_all;omega)) F
    refine WP .r (PV.fa uj rfl)<|(aU) dM D.range<|(bW) (fun o=>?_) (fun o=>?_)
    ·
     refine WP .r (PV.fa jU rfl)<|(aU) dM q.range<|(bW) (fun y=>?_) (fun y=>?_)
     ·
      refine aO ?_;refine aO ?_;exact(br) (by unfold ek;simp at l o y;first | (simp [l,o,y];done) | (exfalso;simp_all;done) | (simp_all;done) | (simp [l,o,y];rw [Bool.eq_iff_iff];simp;done) | (simp [l,o,y];rw [Bool.eq_iff_iff];simp;omega) | (simp [l,o,y];omega) | (simp_all;omega)) F
     refine(bW) (fun C=>?_) (fun C=>?_)
     ·
      refine aO ?_;exact(br) (by unfold ek;simp at l o y C;first | (simp [l,o,y,C];done) | (exfalso;simp_all;done) | (simp_all;done) | (simp [l,o,y,C];rw [Bool.eq_iff_iff];simp;done) | (simp [l,o,y,C];rw [Bool.eq_iff_iff];simp;omega) | (simp [l,o,y,C];omega) | (simp_all;omega)) F
     refine(aT) l6 D.range<|?_;refine WP .r (PV.fa uk rfl)<|(aU) aK D.range<|(bL) Tl (xx (x:=aa[i].asks[k]) (n:=aa[i].asks[k].Cj) (hr.ext K) G) ?_;rintro _ w8 ⟨rfl,H⟩;have c8:=K.trans H;have q:=q.ext H;have D:=D.ext H;refine(bW) (fun E=>?_) (fun E=>?_)
     ·
      exact(br) (by unfold ek;simp at l o y C E;first | (simp [l,o,y,C,E];done) | (exfalso;simp_all;done) | (simp_all;done) | (simp [l,o,y,C,E];rw [Bool.eq_iff_iff];simp;done) | (simp [l,o,y,C,E];rw [Bool.eq_iff_iff];simp;omega) | (simp [l,o,y,C,E];omega) | (simp_all;omega)) (F.trans H)
     refine WP .r (PV.fa uj rfl)<|(aU) dM D.range<|(bW) (fun z=>?_) (fun z=>?_)
     ·
      refine WP .r (PV.fa uk rfl)<|(aU) aK D.range<|?_;exact(br) (by unfold ek;simp at l o y C E z;first | (simp [l,o,y,C,E,z];done) | (exfalso;simp_all;done) | (simp_all;done) | (simp [l,o,y,C,E,z];rw [Bool.eq_iff_iff];simp;done) | (simp [l,o,y,C,E,z];rw [Bool.eq_iff_iff];simp;omega) | (simp [l,o,y,C,E,z];omega) | (simp_all;omega)) (F.trans H)
     exact(br) (by unfold ek;simp at l o y C E z;first | (simp [l,o,y,C,E,z];done) | (exfalso;simp_all;done) | (simp_all;done) | (simp [l,o,y,C,E,z];rw [Bool.eq_iff_iff];simp;done) | (simp [l,o,y,C,E,z];rw [Bool.eq_iff_iff];simp;omega) | (simp [l,o,y,C,E,z];omega) | (simp_all;omega)) (F.trans H)
    refine aO ?_;refine gw ?_;refine WP .r (PV.fa uj rfl)<|(aU) dM D.range<|(bW) (fun z=>?_) (fun z=>?_)
    ·
     refine WP .r (PV.fa uk rfl)<|(aU) aK D.range<|?_;exact(br) (by unfold ek;simp at l o z;first | (simp [l,o,z];done) | (exfalso;simp_all;done) | (simp_all;done) | (simp [l,o,z];rw [Bool.eq_iff_iff];simp;done) | (simp [l,o,z];rw [Bool.eq_iff_iff];simp;omega) | (simp [l,o,z];omega) | (simp_all;omega)) F
    exact(br) (by unfold ek;simp at l o z;first | (simp [l,o,z];done) | (exfalso;simp_all;done) | (simp_all;done) | (simp [l,o,z];rw [Bool.eq_iff_iff];simp;done) | (simp [l,o,z];rw [Bool.eq_iff_iff];simp;omega) | (simp [l,o,z];omega) | (simp_all;omega)) F
   intro w7 F;have K:=T.trans F;have q:=q.ext F;have D:=D.ext F;refine(aN) (fun L=>?_) fun L=>?_
   ·
    simp at L
    refine aO ?_;refine(bm) ?_;exact⟨false,rfl,⟨fun h=>(by cases h),fun h=>absurd ((h.2 i _ (ai G)).2.1 k _ (ai R)) (by simp [L])⟩,K⟩
   simp at L
   refine eP ?_;refine EX.again (k+1) (Sub.k4 rfl rfl rfl rfl<|Sub.k4 rfl rfl rfl rfl<|Sub.ib rfl (by simp)<|Sub.nil) ⟨K,q,by omega,bO R O L⟩ (by omega)
  simp at g22
  have O:∀j x,aa[i].asks[j]?=some x→ek aa i aa[i].ring j x=true:=fun j x M=>O j x (by have:=(List.getElem?_eq_some_iff.1 M).1;omega) M;refine gw ?_;refine WC.jH (t:=106) (v:=.bool (!fl aa[i])) (fun wx=>w4=wx) ?_ ?_
  ·
   refine nx ?_;refine WP .r (PV.fa jU rfl)<|(aU) dM q.range<|(bW) (fun d=>?_) (fun d=>?_)
   ·
    refine WP .r (PV.fa oK rfl)<|(aU) aK q.range<|(bW) (fun m=>?_) (fun m=>?_)
    ·
     refine aO ?_;refine aO ?_;exact(br) (by unfold fl;simp at d m;first | (simp [d,m];done) | (exfalso;simp_all;done) | (simp_all;done) | (simp [d,m];rw [Bool.eq_iff_iff];simp;done) | (simp [d,m];rw [Bool.eq_iff_iff];simp;omega) | (simp [d,m];omega) | (simp_all;omega)) rfl
    refine WP .r (PV.fa kJ rfl)<|(aU) aK q.range<|(bW) (fun p=>?_) (fun p=>?_)
    ·
     refine aO ?_;refine aO ?_;exact(br) (by unfold fl;simp at d m p;first | (simp [d,m,p];done) | (exfalso;simp_all;done) | (simp_all;done) | (simp [d,m,p];rw [Bool.eq_iff_iff];simp;done) | (simp [d,m,p];rw [Bool.eq_iff_iff];simp;omega) | (simp [d,m,p];omega) | (simp_all;omega)) rfl
    refine WP .r (PV.fa kJ rfl)<|(aU) aK q.range<|(bW) (fun u=>?_) (fun u=>?_)
    ·
     refine aO ?_;refine aO ?_;exact(br) (by unfold fl;simp at d m p u;first | (simp [d,m,p,u];done) | (exfalso;simp_all;done) | (simp_all;done) | (simp [d,m,p,u];rw [Bool.eq_iff_iff];simp;done) | (simp [d,m,p,u];rw [Bool.eq_iff_iff];simp;omega) | (simp [d,m,p,u];omega) | (simp_all;omega)) rfl
    refine WP .r (PV.fa jU rfl)<|(aU) dM q.range<|(bW) (fun f=>?_) (fun f=>?_)
    ·
     refine WP .r (PV.fa oK rfl)<|(aU) aK q.range<|(bW) (fun g=>?_) (fun g=>?_)
     ·
      refine aO ?_;exact(br) (by unfold fl;simp at d m p u f g;first | (simp [d,m,p,u,f,g];done) | (exfalso;simp_all;done) | (simp_all;done) | (simp [d,m,p,u,f,g];rw [Bool.eq_iff_iff];simp;done) | (simp [d,m,p,u,f,g];rw [Bool.eq_iff_iff];simp;omega) | (simp [d,m,p,u,f,g];omega) | (simp_all;omega)) rfl
     refine WP .r (PV.fa oK rfl)<|(aU) aK q.range<|(bW) (fun s=>?_) (fun s=>?_)
     ·
      exact(br) (by unfold fl;simp at d m p u f g s;first | (simp [d,m,p,u,f,g,s];done) | (exfalso;simp_all;done) | (simp_all;done) | (simp [d,m,p,u,f,g,s];rw [Bool.eq_iff_iff];simp;done) | (simp [d,m,p,u,f,g,s];rw [Bool.eq_iff_iff];simp;omega) | (simp [d,m,p,u,f,g,s];omega) | (simp_all;omega)) rfl
     refine WP .r (PV.fa kJ rfl)<|(aU) aK q.range<|(bW) (fun B=>?_) (fun B=>?_)
     ·
      exact(br) (by unfold fl;simp at d m p u f g s B;first | (simp [d,m,p,u,f,g,s,B];done) | (exfalso;simp_all;done) | (simp_all;done) | (simp [d,m,p,u,f,g,s,B];rw [Bool.eq_iff_iff];simp;done) | (simp [d,m,p,u,f,g,s,B];rw [Bool.eq_iff_iff];simp;omega) | (simp [d,m,p,u,f,g,s,B];omega) | (simp_all;omega)) rfl
     refine WP .r (PV.fa kJ rfl)<|(aU) aK q.range<|?_;exact(br) (by unfold fl;simp at d m p u f g s B;first | (simp [d,m,p,u,f,g,s,B];done) | (exfalso;simp_all;done) | (simp_all;done) | (simp [d,m,p,u,f,g,s,B];rw [Bool.eq_iff_iff];simp;done) | (simp [d,m,p,u,f,g,s,B];rw [Bool.eq_iff_iff];simp;omega) | (simp [d,m,p,u,f,g,s,B];omega) | (simp_all;omega)) rfl
    refine aO ?_;exact(br) (by unfold fl;simp at d m p u f;first | (simp [d,m,p,u,f];done) | (exfalso;simp_all;done) | (simp_all;done) | (simp [d,m,p,u,f];rw [Bool.eq_iff_iff];simp;done) | (simp [d,m,p,u,f];rw [Bool.eq_iff_iff];simp;omega) | (simp [d,m,p,u,f];omega) | (simp_all;omega)) rfl
   refine aO ?_;refine cL ?_;refine WP .r (PV.fa jU rfl)<|(aU) dM q.range<|(bW) (fun f=>?_) (fun f=>?_)
   ·
    refine WP .r (PV.fa oK rfl)<|(aU) aK q.range<|(bW) (fun g=>?_) (fun g=>?_)
    ·
     refine aO ?_;exact(br) (by unfold fl;simp at d f g;first | (simp [d,f,g];done) | (exfalso;simp_all;done) | (simp_all;done) | (simp [d,f,g];rw [Bool.eq_iff_iff];simp;done) | (simp [d,f,g];rw [Bool.eq_iff_iff];simp;omega) | (simp [d,f,g];omega) | (simp_all;omega)) rfl
    refine WP .r (PV.fa oK rfl)<|(aU) aK q.range<|(bW) (fun s=>?_) (fun s=>?_)
    ·
     exact(br) (by unfold fl;simp at d f g s;first | (simp [d,f,g,s];done) | (exfalso;simp_all;done) | (simp_all;done) | (simp [d,f,g,s];rw [Bool.eq_iff_iff];simp;done) | (simp [d,f,g,s];rw [Bool.eq_iff_iff];simp;omega) | (simp [d,f,g,s];omega) | (simp_all;omega)) rfl
    refine WP .r (PV.fa kJ rfl)<|(aU) aK q.range<|(bW) (fun B=>?_) (fun B=>?_)
    ·
     exact(br) (by unfold fl;simp at d f g s B;first | (simp [d,f,g,s,B];done) | (exfalso;simp_all;done) | (simp_all;done) | (simp [d,f,g,s,B];rw [Bool.eq_iff_iff];simp;done) | (simp [d,f,g,s,B];rw [Bool.eq_iff_iff];simp;omega) | (simp [d,f,g,s,B];omega) | (simp_all;omega)) rfl
    refine WP .r (PV.fa kJ rfl)<|(aU) aK q.range<|?_;exact(br) (by unfold fl;simp at d f g s B;first | (simp [d,f,g,s,B];done) | (exfalso;simp_all;done) | (simp_all;done) | (simp [d,f,g,s,B];rw [Bool.eq_iff_iff];simp;done) | (simp [d,f,g,s,B];rw [Bool.eq_iff_iff];simp;omega) | (simp [d,f,g,s,B];omega) | (simp_all;omega)) rfl
   refine aO ?_;exact(br) (by unfold fl;simp at d f;first | (simp [d,f];done) | (exfalso;simp_all;done) | (simp_all;done) | (simp [d,f];rw [Bool.eq_iff_iff];simp;done) | (simp [d,f];rw [Bool.eq_iff_iff];simp;omega) | (simp [d,f];omega) | (simp_all;omega)) rfl
  rintro _ rfl;refine(aN) (fun N=>?_) fun N=>?_
  ·
   simp at N
   refine(bm) ?_;exact⟨false,rfl,⟨fun h=>(by cases h),fun h=>absurd (h.2 i _ (ai G)).2.2 (by simp [N])⟩,c4⟩
  simp at N
  refine eP ?_;refine EX.again (i+1) (Sub.k2 rfl rfl<|Sub.cons rfl<|Sub.ib rfl (by simp)<|Sub.nil) ⟨c4,by omega,bO G U ⟨by omega,O,N⟩⟩ (by omega)
 simp at g10
 have hV:∀j x,aa[j]?=some x→jI aa j x:=fun j x M=>U j x (by have:=(List.getElem?_eq_some_iff.1 M).1;omega) M;refine iC ?_;refine WP .r (PV.gE gZ rfl)<|(bm) ?_;exact⟨_,rfl,⟨fun h=>⟨by simp at h;omega,hV⟩,fun h=>by have:=h.1;simp;omega⟩,c1⟩
set_option maxHeartbeats 400000
theorem Ba :CR prog 4 #[.slice a n c] w (.bool (decide (n≤400))):=by
 refine enter func4 rfl ntmps4 rfl<|?_;have c0:aQ [] w w:=aQ.refl _ _;refine iC ?_;refine WP .r (PV.gE Df rfl)<|(bm) ?_;exact⟨by congr 2;exact decide_eq_decide.2 (by omega),c0⟩
theorem Dv{l:List Int}(hl:Ints A w a n c l) (f:n≤400):Calls prog 6 #[.slice a n c] w fun e w'=>∃d,e=.returned (.pointer (some ⟨d,0,none⟩))∧w.heap.size≤d∧Co A w' 60 d∧aQ [] w w':=by
 refine enter func6 rfl ntmps6 rfl<|?_;have c0:aQ [] w w:=aQ.refl _ _;refine iC ?_;refine WP .r (PV.bs (us:=[.slice a n c,.int .i64 0]) Yz rfl rfl rfl)<|?_;refine WL.go rfl (OX.box rfl rfl rfl fun b5 w1 b g=>?_);have s1:=b.ext;have h:=b.gS c0;have c1:=c0.trans s1;refine(bm) ?_;exact⟨_,rfl,h,⟨l,a,n,c,0,g,SR.ext hl c1,f,by omega⟩,c1⟩
theorem Dw{m:Int}{d:Nat}(k:Co A w 60 d) (f:¬A d) (hm:m≤4611686018427387904):Calls prog 52 #[.pointer (some ⟨d,0,none⟩),.int .i64 m] w fun e w'=>∃z:Int,e=.returned (.int .i64 z)∧0≤z∧(1≤m→z<m)∧aQ [d] w w'∧Co A w' 60 d:=by
 obtain⟨l,a,n,c,t,hb,hl,i,o⟩:=k;have hlen:=SR.len hl;refine enter func52 rfl ntmps52 rfl<|?_;have c0:aQ [d] w w:=aQ.refl _ _;refine eP ?_;refine WC.drawn (m:=9) (C:=aQ [] w) (T:=fun _=>aQ []) (E:=bK []) (aS (trivial)) mixed (by kernel_rfl) (aQ.drew _ _)<|bz ?_;refine DP .r (fun _ b=>PV.fa yq rfl)<|DP .r (fun _ b=>PV.ld1 aK (hb.ext b).range rfl rfl)<|bz ?_;refine DP .r (fun _ b=>PV.fa H9 rfl)<|DP .r (fun _ b=>PV.ld1 Mj (hb.ext b).range rfl rfl)<|DP .r (fun _ b=>PV.gE Df rfl)<|(cG)<|?_;rintro w1 s1 _;have c1:=c0.trans s1.nil;have hb:=hb.ext s1;refine(aN) (fun g14=>?_) fun g14=>?_
 ·
  skip
  refine(bm) ?_;exact⟨0,rfl,by omega,fun h=>by omega,c1,l,a,n,c,t,hb,SR.bT hl c1 (by simpa using f) (fun _ _ h=>h),i,o⟩
 simp at g14
 obtain⟨u,v,x,p,_,q,g,s⟩:=SR.at hl (ai (show t<l.length by omega));subst q;refine gw ?_;refine WP .r (PV.fa yq rfl)<|(aU) aK hb.range<|bz ?_;refine WP .r (PV.fa yq rfl)<|?_;refine WL.go rfl (OX.st Jr hb rfl rfl (by first | (simp [nth];done) | exact R1 rfl) rfl rfl fun w2 s2 _ hb=>?_);have c2:=c1.trans s2;refine cL ?_;have g:=aV g c2 (by simp;rintro rfl;exact f s);refine WC.drawn (m:=12) (C:=aQ [] w2) (T:=fun _=>aQ []) (E:=bK []) (aS (trivial)) mixed (by kernel_rfl) (aQ.drew _ _)<|bz ?_;refine DP .r (fun _ b=>PV.fa H9 rfl)<|DP .r (fun _ b=>PV.ld1 Mj (hb.ext b).range rfl rfl)<|bz ?_;refine DP .r (fun _ b=>PV.fa yq rfl)<|DP .r (fun _ b=>PV.ld1 aK (hb.ext b).range rfl rfl)<|nx ?_;refine DP .r (fun _ b=>PV.B5 Df (t) p rfl rfl (by omega) (by omega))<|DP .r (fun _ b=>PV.nI aK (aV g b (by simp)) rfl rfl)<|(cG) ?_;rintro w3 s3 _;have c3:=c2.trans s3.nil;have hb:=hb.ext s3;refine(bL) Rh (qu (n:=l[t]) (m:=m) (by omega)) ?_;rintro _ w4 ⟨rfl,j⟩;have c4:=c3.trans j.nil;have hb:=hb.ext j;refine(bm) ?_;refine⟨_,rfl,?_,?_,c4,l,a,n,c,t+1,?_,SR.bT hl c4 (by simpa using f) (fun _ _ h=>h),i,by omega⟩
 ·
  split
  ·
   omega
  exact Int.emod_nonneg _ (by omega)
 ·
  intro h;rw [if_neg (by omega)];exact Int.emod_lt_of_pos _ (by omega)
 exact hb
def words:List ByteArray:=[⟨#[48]⟩,⟨#[49]⟩,⟨#[50]⟩,⟨#[51]⟩,⟨#[55]⟩,⟨#[49,48,48]⟩,⟨#[]⟩,⟨#[120]⟩,⟨#[49,54]⟩,⟨#[49]⟩]
theorem Ir:∀s∈words,s.size≤100:=by decide
end Go.Rc

