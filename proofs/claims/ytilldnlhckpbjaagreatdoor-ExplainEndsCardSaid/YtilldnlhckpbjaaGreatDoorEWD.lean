/- Walks over the program, part WD. Conditions: as each theorem says. -/
import Derived.Test.YtilldnlhckpbjaaGreatDoorEFacts
import Derived.Test.YtilldnlhckpbjaaGreatDoorEWB
import Derived.Test.YtilldnlhckpbjaaGreatDoorEBb
set_option linter.all false
namespace Go.Rc
open Go Go.Proofs Go.Proofs.Tryz
variable {aa:List aD}{A:Nat→Prop}{a:Option Addr}{r c n:Nat}{w:World}
set_option maxHeartbeats 400000
theorem uJ{i:Nat}{x:Ask}{n:Int}(hr:eE A w a r c aa) (hi:i<aa.length):CR prog 50 #[.slice a r c,.int .i64 (i:Int),x.val,.int .i64 n] w (.bool (eT aa i x.cell n)):=by
 have hle:=hr.le;have hlen:=hr.len;have g:=bE hi;refine enter func50 rfl ntmps50 rfl<|?_;have c0:aK [] w w:=aK.refl _ _;refine bJ ?_;refine WL.go rfl (OX.box rfl rfl rfl fun l w1 h f=>?_);have s1:=h.ext;have m:=h.gY c0;have c1:=c0.trans s1;refine fY ?_;refine WP .r (PV.fa vF rfl)<|(bq) dm f.range<|(aT) (fun g12=>?_) fun g12=>?_
 ·
  refine nx ?_;refine WC.kj (t:=8) (v:=.bool (decide (0≤n) && decide (n≤15))) (fun d=>w1=d) ?_ ?_
  ·
   refine(cG) (fun g15=>?_) (fun g15=>?_)
   ·
    exact(e8) (by simp only [g15];first | rfl | simp) rfl
   exact(e8) (by simp only [g15];first | rfl | simp) rfl
  rintro _ rfl;refine(bF) ?_;exact⟨by unfold eT;rw [if_pos g12],c1⟩
 refine(cE) Qj (pA (n:=(i:Int)) (hr.ext c1)) ?_;rintro _ w2 ⟨rfl,s2⟩;have c2:=c1.trans s2;have f:=f.ext s2;refine pU ?_;obtain⟨b1,o,r1,j,_,⟨q1,p,q,rfl,_⟩,k,_⟩:=(hr.ext c2).at (ae hi);refine cq ?_;refine WP .r (PV.dO gT j rfl rfl (by omega))<|WP .r (PV.fa iK rfl)<|(bq) dm k<|(aT) (fun e=>?_) fun e=>?_
 ·
  have ht:ep aa i=(block aa i).1:=by unfold ep;rw [g];simp at e;rw [e];rfl
  refine fY ?_;refine WC.kj (t:=8) (v:=.bool (decide (0≤n) && decide (n<ep aa i))) (fun d=>w2=d) ?_ ?_
  ·
   refine(cG) (fun b=>?_) (fun b=>?_)
   ·
    exact(e8) (by simp only [ht,b];first | rfl | simp) rfl
   exact(e8) (by simp only [ht,b];first | rfl | simp) rfl
  rintro _ rfl;refine(bF) ?_;exact⟨by unfold eT;rw [g12];rfl,c2⟩
 have ht:ep aa i=(block aa i).2:=by unfold ep;rw [g];simp at e;rw [e];rfl
 refine cq ?_;refine WC.kj (t:=8) (v:=.bool (decide (0≤n) && decide (n<ep aa i))) (fun d=>w2=d) ?_ ?_
 ·
  refine(cG) (fun b=>?_) (fun b=>?_)
  ·
   exact(e8) (by simp only [ht,b];first | rfl | simp) rfl
  exact(e8) (by simp only [ht,b];first | rfl | simp) rfl
 rintro _ rfl;refine(bF) ?_;exact⟨by unfold eT;rw [g12];rfl,c2⟩
theorem rZ{s:ByteArray} :CR prog 179 #[.string s] w (.int .i64 (cc s:Int)):=by
 refine enter func179 rfl ntmps179 rfl<|?_;have c0:aK [] w w:=aK.refl _ _;refine(cE) Js (mn (s:=s)) ?_;rintro _ w1 ⟨rfl,s1⟩;have c1:=c0.trans s1;refine df ?_;refine WC.je (t:=11) (v:=.bool (decide (cY s<0) || decide (65535<cY s))) (fun d=>w1=d) ?_ ?_
 ·
  refine(cG) (fun g8=>?_) (fun g8=>?_)
  ·
   exact(bY) (by simp only [g8];first | rfl | simp) rfl
  exact(bY) (by simp only [g8];first | rfl | simp) rfl
 rintro _ rfl;refine(aT) (fun g11=>?_) fun g11=>?_
 ·
  simp at g11
  have b:cc s=0:=by unfold cc;rw [if_pos g11]
  refine(bF) ?_;rw [b];exact⟨rfl,c1⟩
 simp at g11
 have b:(cc s:Int)=cY s:=by unfold cc;rw [if_neg (by omega)];omega
 refine(bF) ?_;rw [b];exact⟨rfl,c1⟩
theorem x7{l:List ByteArray}{ring:Bool}{a1:Option Addr}{n1 e1:Nat}{fin:Int}{d:Nat}(hl:Strs A w a r c l) (hc:d≤65535) (J:r≤1000):CR prog 178 #[.agg #[.bool ring,.slice a1 n1 e1,.int .i64 fin,.int .i64 (d:Int)],.slice a r c] w (.int .i64 (cV fin d (l.map cc):Int)):=by
 have hlen:=hl.len
 have k:∀x∈l.map cc,x≤65535:=fun x o=>by obtain⟨s,_,rfl⟩:=List.mem_map.1 o;exact iU s
 have p:∀i,∀x∈(l.map cc).take i,x≤65535:=fun i x o=>k x (List.mem_of_mem_take o);refine enter func178 rfl ntmps178 rfl<|?_;have c0:aK [] w w:=aK.refl _ _;refine bJ ?_;refine WL.go rfl (OX.box rfl rfl rfl fun b2 w1 u b=>?_);have s1:=u.ext;have K:=u.gY c0;have c1:=c0.trans s1;refine cD ?_;refine WC.drawn (m:=8) (C:=aK [] w1) (T:=fun _=>aK []) (E:=bN []) (aU (trivial)) mixed (by kernel_rfl) (aK.drew _ _)<|?_;refine DP .r (fun _ e=>PV.fa jm rfl)<|DP .r (fun _ e=>PV.ld1 aL (b.ext e).range rfl rfl)<|DP .r (fun _ e=>PV.fa jm rfl)<|DP .r (fun _ e=>PV.ld1 aL (b.ext e).range rfl rfl)<|DP .r (fun _ e=>PV.fa jm rfl)<|DP .r (fun _ e=>PV.ld1 aL (b.ext e).range rfl rfl)<|(cx) ?_;rintro w2 s2 _;have c2:=c1.trans s2;have b:=b.ext s2;refine eX ?_;refine WP .r (PV.fZ mi rfl)<|cD ?_;refine WC.loop (σ:=Nat) (db:=fun i=>[(2,.pointer (some ⟨b2,0,none⟩)),(5,.int .i64 (pS d ((l.map cc).take i):Int)),(6,.int .i64 (pc d ((l.map cc).take i):Int)),(7,.int .i64 (dQ d ((l.map cc).take i):Int)),(17,.slice a r c),(18,.int .i64 (r:Int)),(19,.int .i64 (i:Int))]) (I:=fun i w'=>aK [] w w'∧bM w' b2 71 [.bool ring,.slice a1 n1 e1,.int .i64 fin,.int .i64 (d:Int)]∧i≤r) (μ:=fun i=>r - i) 0 Sub.t ⟨c2,b,by omega⟩ ?_;rintro i w3 ⟨c3,b,hi⟩;refine(aT) (fun g20=>?_) fun g20=>?_
 ·
  simp at g20
  have y:i<l.length:=by omega
  have q:i<(l.map cc).length:=by simp;omega
  have z:=qq (c:=d) (p i);have B:=kS hc (p i);have D:=jz hc (p i);have L:=iU l[i]
  have M:((l.map cc).take i).length≤1000:=by rw [List.length_take];omega
  refine df ?_;obtain⟨b1,N,r1,F,_,rfl,G,_⟩:=(hl.ext c3).at (ae y);refine nx ?_;refine WP .r (PV.dO mi F rfl rfl (by omega))<|WP .r (PV.ki fq G rfl rfl)<|(cE) Jw (rZ (s:=l[i])) ?_;rintro _ w4 ⟨rfl,v⟩;have c4:=c3.trans v;have b:=b.ext v;refine pU ?_;refine WP .r (PV.D2 rfl rfl)<|bJ ?_;refine WP .r (PV.orN rfl rfl (by omega) (by omega))<|lU ?_;refine EX.again (i+1) (Sub.cons rfl<|Sub.gM rfl (by rw [tS q,List.getElem_map];omega)<|Sub.gM rfl (by rw [qJ q,List.getElem_map];omega)<|Sub.gM rfl (by rw [qK q,List.getElem_map])<|Sub.k2 rfl rfl<|Sub.gM rfl (by simp)<|Sub.nil) ⟨c4,b,by omega⟩ (by omega)
 simp at g20
 have H:(l.map cc).take i=l.map cc:=List.take_of_length_le (by simp;omega);rw [H];have z:=qq (c:=d) k;have B:=kS hc k;have D:=jz hc k
 have O:(l.map cc).length≤1000:=by rw [List.length_map];omega
 refine jg ?_;refine WP .r (PV.fa mX rfl)<|(bq) aL b.range<|(aT) (fun f=>?_) fun f=>?_
 ·
  simp at f
  refine cq ?_;refine WP .r (PV.rem rfl rfl (by omega))<|(bF) ?_;exact⟨by unfold cV;rw [if_pos f,Int.tmod_eq_emod_of_nonneg (by omega)];rfl,c3⟩
 simp at f
 refine(aT) (fun g=>?_) fun g=>?_
 ·
  simp at g
  refine cq ?_;refine WP .r (PV.quo rfl rfl (by omega) (by rw [Int.tdiv_eq_ediv_of_nonneg (by omega)];omega) (by rw [Int.tdiv_eq_ediv_of_nonneg (by omega)];omega))<|WP .r (PV.rem rfl rfl (by omega))<|(bF) ?_;exact⟨by unfold cV;rw [if_neg f,if_pos g,Int.tdiv_eq_ediv_of_nonneg (by omega),Int.tmod_eq_emod_of_nonneg (by omega)];rfl,c3⟩
 simp at g
 refine(aT) (fun h=>?_) fun h=>?_
 ·
  simp at h
  refine(bF) ?_;exact⟨by unfold cV;rw [if_neg f,if_neg g,if_pos h],c3⟩
 simp at h
 refine(aT) (fun j=>?_) fun j=>?_
 ·
  simp at j
  refine cq ?_;refine WP .r (PV.rem rfl rfl (by omega))<|(bF) ?_;exact⟨by unfold cV;rw [if_neg f,if_neg g,if_neg h,if_pos j,Int.tmod_eq_emod_of_nonneg (by omega)];rfl,c3⟩
 simp at j
 refine(bF) ?_;exact⟨by unfold cV;rw [if_neg f,if_neg g,if_neg h,if_neg j],c3⟩
theorem Ao{k:Key}{ai:List ByteArray}{B C:Nat→Prop}{a2:Option Addr}{r2 e2:Nat}(ht:jM prog A w) (hr:eE B w a r c aa) (hl:Strs C w a2 r2 e2 ai) (hb:∀x∈aa,0≤x.c∧x.c≤65535∧x.asks.length≤1000):CR prog 129 #[.slice a r c,k.val,.slice a2 r2 e2] w ((ca aa k ai).val):=by
 have hle:=hr.le;have hlen:=hr.len;have r5:=hl.len;refine enter func129 rfl ntmps129 rfl<|?_;have c0:aK [] w w:=aK.refl _ _;refine bJ ?_;refine WL.go rfl (OX.box rfl rfl rfl fun b4 w1 DA d=>?_);have s1:=DA.ext;have r6:=DA.gY c0;have c1:=c0.trans s1;refine WL.go rfl (OX.alloc nV rfl fun L w2 C7 b=>?_);have s2:=C7.ext;have M:=C7.gY c1;have I:b4≠L:=C7.ne d.lt;have Ap:L≠b4:=Ne.symm I;have c2:=c1.trans s2;have d:=d.ext s2;refine(bf) ak d.range<|(cE) Ib (il (k:=k)) ?_;rintro _ w3 ⟨rfl,s3⟩;have c3:=c2.trans s3;have d:=d.ext s3;have b:=b.ext s3;refine df ?_;refine WC.je (t:=28) (v:=.bool (decide (number k<0) || (decide ((r:Int)≤number k) || decide (aH aa (number k)≠k)))) (aK [] w3) ?_<|?_
 ·
  refine WC.drawn (m:=13) (C:=aK [] w3) (T:=fun _=>aK []) (E:=bN [(11,fun v _=>v=(aH aa (number k)).val)]) (aU (⟨fun _ _ _ _ _ _ _ h=>h,trivial⟩)) mixed (by kernel_rfl) (aK.drew _ _)<|(l9) (fun g16=>?_) (fun g16=>?_)
  ·
   refine(cx) ?_;rintro w4 u _;have c4:=c3.trans u;have d:=d.ext u;have b:=b.ext u;exact(bY) (by simp only [g16];first | rfl | simp) u
  refine bJ ?_;refine DP .r (fun _ D=>PV.fZ gT rfl)<|(l9) (fun g22=>?_) (fun g22=>?_)
  ·
   refine(cx) ?_;rintro w4 u _;have c4:=c3.trans u;have d:=d.ext u;have b:=b.ext u;exact(bY) (by simp only [g16,g22];first | rfl | simp) u
  refine bJ ?_;refine DW.e rfl rfl rfl rfl rfl (fun wx D hF=>OX.call qd rfl rfl ((ef (n:=number k) (hr.ext (c3.trans D))).mono ?_))<|?_
  ·
   rintro _ wy ⟨rfl,hy⟩;exact⟨_,rfl,D.trans hy,hy,_,rfl,rfl⟩
  rintro _ wz _ rfl;refine DP .r (fun _ D=>PV.B9 ak (d.ext D).range rfl rfl)<|(cx)<|?_;rintro w4 u _;have c4:=c3.trans u;have d:=d.ext u;have b:=b.ext u;refine WP .r (PV.DZ eI (p:=aH aa (number k)) (q:=k) rfl rfl)<|?_;exact(bY) (by simp only [g16,g22];first | rfl | simp) u
 intro w4 u;have c4:=c3.trans u;have d:=d.ext u;have b:=b.ext u;refine(aT) (fun R=>?_) fun R=>?_
 ·
  simp at R
  have z:=D5 (ai:=ai) (show number k<0∨(aa.length:Int)≤number k∨aH aa (number k)≠k by rw [← hlen];exact R);refine bJ ?_;refine WP .r (PV.br (us:=[.bool true,.string ⟨#[]⟩,.int .i64 0,.string ⟨#[]⟩]) kx rfl rfl rfl)<|?_;refine WL.go rfl (OX.kL fc b rfl rfl rfl rfl rfl fun w5 N _ b=>?_);have c5:=c4.own N M;have d:=d.bS N (by simp [I]);refine(jt) gj b.range<|?_;rw [z];exact⟨rfl,c5⟩
 simp at R
 obtain⟨g1,g2,g3⟩:=R;obtain⟨i,Dy⟩:∃i:Nat,number k=i:=⟨(number k).toNat,by omega⟩
 have hi:i<aa.length:=by omega
 obtain⟨Gu,Fy,uK⟩:=hb _ (List.getElem_mem hi);obtain⟨S,Rv⟩:∃S:Nat,aa[i].c=S:=⟨aa[i].c.toNat,by omega⟩;refine cq ?_;obtain⟨TV,TW,TX,wM,_,⟨q1,q2,q3,rfl,x8⟩,Z,_⟩:=hr.at (ae hi);have Z:=aW Z c4 (by simp);rw [Rv] at Z;have uL:=x8.len;refine cq ?_;refine WP .r (PV.Dv gT (i) wM rfl rfl (by omega) (by omega))<|(bf) uE Z<|nx ?_;refine WP .r (PV.fZ mi rfl)<|?_;refine WL.go rfl (OX.alloc HK rfl fun O w5 Mc f=>?_);have N:=Mc.ext;have Md:=Mc.gY c4;have r7:b4≠O:=Mc.ne d.lt;have Aq:O≠b4:=Ne.symm r7;have r8:L≠O:=Mc.ne b.lt;have U:O≠L:=Ne.symm r8;have c5:=c4.trans N;have d:=d.ext N;have b:=b.ext N;refine WL.go rfl (OX.kL CY f rfl rfl rfl rfl rfl fun w6 s6 _ f=>?_);have V:=c5.own s6 Md;have d:=d.bS s6 (by simp [r7]);have b:=b.bS s6 (by simp [r8]);refine eX ?_;refine WP .r (PV.fa oP rfl)<|(bq) iZ f.range<|?_;refine WP .r (PV.fZ sZ rfl)<|(aT) (fun W4=>?_) fun W4=>?_
 ·
  simp at W4
  have z:=jA (ai:=ai) Dy hi g3 (by omega);rw [← uL,Rv,Int.toNat_natCast] at z;have hfl:=lG (kind:=aa[i].final) (c:=S) (l:=(ai.take q2).map cc) (by omega) (fun x hx=>by obtain⟨s,_,rfl⟩:=List.mem_map.1 hx;exact iU s);refine nx ?_;refine WC.drawn (m:=6) (C:=aK [] w6) (T:=fun _=>aK []) (E:=bN []) (aU (trivial)) mixed (by kernel_rfl) (aK.drew _ _)<|?_;refine DP .r (fun _ D=>PV.B9 uE (f.ext D).range rfl rfl)<|nx ?_;refine DP .r (fun _ D=>PV.fa oP rfl)<|DP .r (fun _ D=>PV.ld1 iZ (f.ext D).range rfl rfl)<|DP .r (fun _ D=>PV.fZ sZ rfl)<|DP .r (fun _ D=>PV.zh mi (hl.ext (V.trans D)) rfl rfl (by omega))<|(cx)<|?_;rintro w7 F _;have c7:=V.trans F;have d:=d.ext F;have b:=b.ext F;have f:=f.ext F;refine(cE) Ra (x7 (SR.take (hl.ext c7) (by omega)) (show S≤65535 by omega) (by omega)) ?_;rintro _ w8 ⟨rfl,G⟩;have P:=c7.trans G;have d:=d.ext G;have b:=b.ext G;have f:=f.ext G;refine(cE) Ia (kb (ht.ext P) (by omega) (by omega)) ?_;rintro _ w9 ⟨rfl,y⟩;have c9:=P.trans y;have d:=d.ext y;have b:=b.ext y;have f:=f.ext y;refine WP .r (PV.br (us:=[.bool true,.string (itoa ((cV aa[i].final S ((ai.take q2).map cc)):Int)),.int .i64 0,.string ⟨#[]⟩]) kx rfl rfl rfl)<|?_;refine WL.go rfl (OX.kL fc b rfl rfl rfl rfl rfl fun jP g _ b=>?_);have H:=c9.own g M;have d:=d.bS g (by simp [I]);have f:=f.bS g (by simp [U]);refine(jt) gj b.range<|?_;rw [z];exact⟨rfl,H⟩
 simp at W4
 have hn:r2<aa[i].asks.length:=by omega
 have z:=jB (ai:=ai) Dy hi g3 (by omega);simp only [← r5] at z;refine cq ?_;obtain⟨W5,W6,W7,yZ,_,rfl,Og,_⟩:=(x8.ext V).at (ae hn);refine nx ?_;refine WP .r (PV.fa oP rfl)<|(bq) iZ f.range<|nx ?_;refine WP .r (PV.dO sZ yZ rfl rfl (by omega))<|(bf) mh Og<|?_;refine WL.go rfl (OX.alloc LL rfl fun Q w7 W j=>?_);have F:=W.ext;have vH:=W.gY V;have pB:b4≠Q:=W.ne d.lt;have x9:Q≠b4:=Ne.symm pB;have pC:L≠Q:=W.ne b.lt;have i1:Q≠L:=Ne.symm pC;have pD:O≠Q:=W.ne f.lt;have Jz:Q≠O:=Ne.symm pD;have c7:=V.trans F;have d:=d.ext F;have b:=b.ext F;have f:=f.ext F;refine WL.go rfl (OX.kL Ae j rfl rfl rfl rfl rfl fun w8 G _ j=>?_);have P:=c7.own G vH;have d:=d.bS G (by simp [pB]);have b:=b.bS G (by simp [pC]);have f:=f.bS G (by simp [pD]);refine cD ?_;refine WP .r (PV.fa Aj rfl)<|(bq) aL j.range<|df ?_;refine WC.je (t:=72) (v:=.bool (dX aa[i].asks[r2] ai)) (aK [] w8) ?_<|?_
 ·
  refine nx ?_;refine WP .r (PV.fa rS rfl)<|(bq) dm j.range<|(cG) (fun TY=>?_) (fun TY=>?_)
  ·
   refine(cG) (fun TZ=>?_) (fun TZ=>?_)
   ·
    have X:dX aa[i].asks[r2] ai=true:=by unfold dX;rw [TY,← r5];simp at TZ;simp [TZ]
    exact(bY) (by rw [X]) (aK.refl _ _)
   simp at TZ
   obtain⟨bx3,ox3,rx3,Rw,_,rfl,hr3,_⟩:=(hl.ext P).at (ae (show r2 - 1<ai.length by omega))
   have X:dX aa[i].asks[r2] ai=decide ((cc ai[r2 - 1]:Int).tmod 2=0):=by
    unfold dX
    simp only [TY,← r5,Bool.true_and];rw [decide_eq_false (by omega),Bool.false_or,getElem!_pos ai (r2 - 1) (by omega),Int.tmod_eq_emod_of_nonneg (by omega)]
    congr 1
    exact propext ⟨fun h=>by omega,fun h=>by omega⟩
   refine cq ?_;refine WP .r (PV.Dv mi (r2 - 1) Rw rfl rfl (by omega) (by omega))<|WP .r (PV.ki fq hr3 rfl rfl)<|(cE) Jw (rZ (s:=ai[r2 - 1])) ?_;rintro _ w9 ⟨rfl,y⟩;have c9:=P.trans y;have d:=d.ext y;have b:=b.ext y;have f:=f.ext y;have j:=j.ext y;refine WP .r (PV.rem rfl rfl (by omega))<|?_;exact(bY) (by rw [X]) y
  have X:dX aa[i].asks[r2] ai=false:=by unfold dX;rw [TY];rfl
  refine aQ ?_;exact(bY) (by rw [X]) (aK.refl _ _)
 intro w9 y;have c9:=P.trans y;have d:=d.ext y;have b:=b.ext y;have f:=f.ext y;have j:=j.ext y;refine(aT) (fun W8=>?_) fun W8=>?_
 ·
  have Y:mH aa[i].asks[r2] ai=aa[i].asks[r2].zd:=by unfold mH;rw [if_pos W8]
  refine nx ?_;refine WP .r (PV.fa rT rfl)<|(bq) aL j.range<|fY ?_;refine WP .r (PV.fa vF rfl)<|(bq) dm j.range<|(aT) (fun J=>?_) fun J=>?_
  ·
   rw [Y,if_pos J] at z;refine(cE) CZ (gG) ?_;rintro _ jP ⟨rfl,g⟩;have H:=c9.trans g;have d:=d.ext g;have b:=b.ext g;have f:=f.ext g;have j:=j.ext g;refine WP .r (PV.br (us:=[.bool false,.string ⟨#[]⟩,.int .i64 (bz _).kind,.string (bz _).text]) kx rfl rfl rfl)<|?_;refine WL.go rfl (OX.kL fc b rfl rfl rfl rfl rfl fun kF o _ b=>?_);have K:=H.own o M;have d:=d.bS o (by simp [I]);have f:=f.bS o (by simp [U]);have j:=j.bS o (by simp [i1]);refine(jt) gj b.range<|?_;rw [z];exact⟨rfl,K⟩
  rw [Y,if_neg (by simp [J])] at z;refine(cE) qd (ef (hr.ext c9)) ?_;rintro _ jP ⟨rfl,g⟩;have H:=c9.trans g;have d:=d.ext g;have b:=b.ext g;have f:=f.ext g;have j:=j.ext g;refine WP .r (PV.br (us:=[.bool false,.string ⟨#[]⟩,.int .i64 (aH aa _).kind,.string (aH aa _).text]) kx rfl rfl rfl)<|?_;refine WL.go rfl (OX.kL fc b rfl rfl rfl rfl rfl fun kF o _ b=>?_);have K:=H.own o M;have d:=d.bS o (by simp [I]);have f:=f.bS o (by simp [U]);have j:=j.bS o (by simp [i1]);refine(jt) gj b.range<|?_;rw [z];exact⟨rfl,K⟩
 have Y:mH aa[i].asks[r2] ai=aa[i].asks[r2].n:=by unfold mH;rw [if_neg (by simp [W8])]
 refine df ?_;refine WP .r (PV.fa vF rfl)<|(bq) dm j.range<|(aT) (fun J=>?_) fun J=>?_
 ·
  rw [Y,if_pos J] at z;refine(cE) CZ (gG) ?_;rintro _ jP ⟨rfl,g⟩;have H:=c9.trans g;have d:=d.ext g;have b:=b.ext g;have f:=f.ext g;have j:=j.ext g;refine WP .r (PV.br (us:=[.bool false,.string ⟨#[]⟩,.int .i64 (bz _).kind,.string (bz _).text]) kx rfl rfl rfl)<|?_;refine WL.go rfl (OX.kL fc b rfl rfl rfl rfl rfl fun kF o _ b=>?_);have K:=H.own o M;have d:=d.bS o (by simp [I]);have f:=f.bS o (by simp [U]);have j:=j.bS o (by simp [i1]);refine(jt) gj b.range<|?_;rw [z];exact⟨rfl,K⟩
 rw [Y,if_neg (by simp [J])] at z;refine(cE) qd (ef (hr.ext c9)) ?_;rintro _ jP ⟨rfl,g⟩;have H:=c9.trans g;have d:=d.ext g;have b:=b.ext g;have f:=f.ext g;have j:=j.ext g;refine WP .r (PV.br (us:=[.bool false,.string ⟨#[]⟩,.int .i64 (aH aa _).kind,.string (aH aa _).text]) kx rfl rfl rfl)<|?_;refine WL.go rfl (OX.kL fc b rfl rfl rfl rfl rfl fun kF o _ b=>?_);have K:=H.own o M;have d:=d.bS o (by simp [I]);have f:=f.bS o (by simp [U]);have j:=j.bS o (by simp [i1]);refine(jt) gj b.range<|?_;rw [z];exact⟨rfl,K⟩
theorem pE(hr:eE A w a r c aa):Calls prog 19 #[.slice a r c] w fun e w'=>∃b:Bool,e=.returned (.bool b)∧(b=true↔ao aa)∧aK [] w w':=by
 have hle:=hr.le;have hlen:=hr.len;refine enter func19 rfl ntmps19 rfl<|?_;have c0:aK [] w w:=aK.refl _ _;refine pU ?_;refine WP .r (PV.fZ gT rfl)<|cD ?_;refine WC.loop (σ:=Nat) (db:=fun i=>[(0,.slice a r c),(7,.slice a r c),(8,.int .i64 (r:Int)),(9,.int .i64 (i:Int))]) (I:=fun i w'=>aK [] w w'∧i≤r∧∀j x,j<i→aa[j]?=some x→jU aa j x) (μ:=fun i=>r - i) 0 Sub.t ⟨c0,by omega,fun j x h=>by omega⟩ ?_;rintro i w1 ⟨c1,hi,U⟩;refine(aT) (fun g10=>?_) fun g10=>?_
 ·
  simp at g10
  have G:i<aa.length:=by omega
  obtain⟨TV,TW,TX,wM,_,⟨q1,J,V,rfl,P⟩,Q,_⟩:=hr.at (ae G);have uL:=P.len;have hq:=P.le;refine df ?_;have Q:=aW Q c1 (by simp);refine bJ ?_;refine WP .r (PV.dO gT wM rfl rfl (by omega))<|(bf) uE Q<|?_;refine WL.go rfl (OX.alloc HK rfl fun b4 w2 W q=>?_);have s2:=W.ext;have r6:=W.gY c1;have c2:=c1.trans s2;refine nx ?_;refine WL.go rfl (OX.kL CY q rfl rfl rfl rfl rfl fun w3 s3 _ q=>?_);have c3:=c2.own s3 r6;refine df ?_;refine WP .r (PV.fa oP rfl)<|(bq) iZ q.range<|?_;refine WP .r (PV.fZ sZ rfl)<|(aT) (fun g17=>?_) fun g17=>?_
  ·
   simp at g17
   refine(bF) ?_;exact⟨false,rfl,⟨fun h=>(by cases h),fun h=>absurd (h.2 i _ (ae G)).1 (by omega)⟩,c3⟩
  simp at g17
  refine df ?_;refine WP .r (PV.fa oP rfl)<|(bq) iZ q.range<|?_;refine WP .r (PV.fZ sZ rfl)<|cD ?_;refine WC.loop (σ:=Nat) (db:=fun k=>[(0,.slice a r c),(7,.slice a r c),(8,.int .i64 (r:Int)),(9,.int .i64 (i:Int)),(3,.int .i64 (i:Int)),(4,.pointer (some ⟨b4,0,none⟩)),(19,.slice q1 J V),(20,.int .i64 (J:Int)),(21,.int .i64 (k:Int))]) (I:=fun k w'=>aK [] w w'∧bM w' b4 71 [.bool aa[i].ring,.slice q1 J V,.int .i64 aa[i].final,.int .i64 aa[i].c]∧k≤J∧∀j x,j<k→aa[i].asks[j]?=some x→dY aa i aa[i].ring j x=true) (μ:=fun k=>J - k) 0 Sub.t ⟨c3,q,by omega,fun j x h=>by omega⟩ ?_;rintro k w4 ⟨c4,q,hk,O⟩;refine(aT) (fun g22=>?_) fun g22=>?_
  ·
   simp at g22
   have R:k<aa[i].asks.length:=by omega
   obtain⟨W5,W6,W7,yZ,_,rfl,Og,_⟩:=(P.ext c4).at (ae R);refine eX ?_;refine WP .r (PV.dO sZ yZ rfl rfl (by omega))<|(bf) mh Og<|?_;refine WL.go rfl (OX.alloc LL rfl fun X w5 S D=>?_);have Y:=S.ext;have Ar:=S.gY c4;have Z:b4≠X:=S.ne q.lt;have Ap:X≠b4:=Ne.symm Z;have c5:=c4.trans Y;have q:=q.ext Y;refine nx ?_;refine WL.go rfl (OX.kL Ae D rfl rfl rfl rfl rfl fun w6 s6 _ D=>?_);have T:=c5.own s6 Ar;have q:=q.bS s6 (by simp [Z]);refine cq ?_;refine WC.je (t:=63) (v:=.bool (!dY aa i aa[i].ring k aa[i].asks[k])) (aK [] w6) ?_<|?_
   ·
    refine(bf) mh D.range<|?_;refine WP .r (PV.fa Aj rfl)<|(bq) aL D.range<|(cE) Ql (uJ (x:=aa[i].asks[k]) (n:=aa[i].asks[k].n) (hr.ext T) G) ?_;rintro _ w7 ⟨rfl,F⟩;have K:=T.trans F;have q:=q.ext F;have D:=D.ext F;refine(cG) (fun l=>?_) (fun l=>?_)
    ·
     refine aQ ?_;refine aQ ?_;exact(bY) (by unfold dY;simp at l;first | (simp [l];done) | (exfalso;simp_all;done) | (simp_all;done) | (simp [l];rw [Bool.eq_iff_iff];simp;done) | (simp [l];rw [Bool.eq_iff_iff];simp;omega) | (simp [l];omega) | (simp_all;omega)) F
    refine WP .r (PV.fa rS rfl)<|(bq) dm D.range<|(cG) (fun o=>?_) (fun o=>?_)
    ·
     refine WP .r (PV.fa iK rfl)<|(bq) dm q.range<|(cG) (fun y=>?_) (fun y=>?_)
     ·
      refine aQ ?_;refine aQ ?_;exact(bY) (by unfold dY;simp at l o y;first | (simp [l,o,y];done) | (exfalso;simp_all;done) | (simp_all;done) | (simp [l,o,y];rw [Bool.eq_iff_iff];simp;done) | (simp [l,o,y];rw [Bool.eq_iff_iff];simp;omega) | (simp [l,o,y];omega) | (simp_all;omega)) F
     refine(cG) (fun C=>?_) (fun C=>?_)
     ·
      refine aQ ?_;exact(bY) (by unfold dY;simp at l o y C;first | (simp [l,o,y,C];done) | (exfalso;simp_all;done) | (simp_all;done) | (simp [l,o,y,C];rw [Bool.eq_iff_iff];simp;done) | (simp [l,o,y,C];rw [Bool.eq_iff_iff];simp;omega) | (simp [l,o,y,C];omega) | (simp_all;omega)) F
     refine(bf) mh D.range<|?_;refine WP .r (PV.fa rT rfl)<|(bq) aL D.range<|(cE) Ql (uJ (x:=aa[i].asks[k]) (n:=aa[i].asks[k].zd) (hr.ext K) G) ?_;rintro _ w8 ⟨rfl,H⟩;have c8:=K.trans H;have q:=q.ext H;have D:=D.ext H;refine(cG) (fun E=>?_) (fun E=>?_)
     ·
      exact(bY) (by unfold dY;simp at l o y C E;first | (simp [l,o,y,C,E];done) | (exfalso;simp_all;done) | (simp_all;done) | (simp [l,o,y,C,E];rw [Bool.eq_iff_iff];simp;done) | (simp [l,o,y,C,E];rw [Bool.eq_iff_iff];simp;omega) | (simp [l,o,y,C,E];omega) | (simp_all;omega)) (F.trans H)
     refine WP .r (PV.fa rS rfl)<|(bq) dm D.range<|(cG) (fun z=>?_) (fun z=>?_)
     ·
      refine WP .r (PV.fa rT rfl)<|(bq) aL D.range<|?_;exact(bY) (by unfold dY;simp at l o y C E z;first | (simp [l,o,y,C,E,z];done) | (exfalso;simp_all;done) | (simp_all;done) | (simp [l,o,y,C,E,z];rw [Bool.eq_iff_iff];simp;done) | (simp [l,o,y,C,E,z];rw [Bool.eq_iff_iff];simp;omega) | (simp [l,o,y,C,E,z];omega) | (simp_all;omega)) (F.trans H)
     exact(bY) (by unfold dY;simp at l o y C E z;first | (simp [l,o,y,C,E,z];done) | (exfalso;simp_all;done) | (simp_all;done) | (simp [l,o,y,C,E,z];rw [Bool.eq_iff_iff];simp;done) | (simp [l,o,y,C,E,z];rw [Bool.eq_iff_iff];simp;omega) | (simp [l,o,y,C,E,z];omega) | (simp_all;omega)) (F.trans H)
    refine aQ ?_;refine fY ?_;refine WP .r (PV.fa rS rfl)<|(bq) dm D.range<|(cG) (fun z=>?_) (fun z=>?_)
    ·
     refine WP .r (PV.fa rT rfl)<|(bq) aL D.range<|?_;exact(bY) (by unfold dY;simp at l o z;first | (simp [l,o,z];done) | (exfalso;simp_all;done) | (simp_all;done) | (simp [l,o,z];rw [Bool.eq_iff_iff];simp;done) | (simp [l,o,z];rw [Bool.eq_iff_iff];simp;omega) | (simp [l,o,z];omega) | (simp_all;omega)) F
    exact(bY) (by unfold dY;simp at l o z;first | (simp [l,o,z];done) | (exfalso;simp_all;done) | (simp_all;done) | (simp [l,o,z];rw [Bool.eq_iff_iff];simp;done) | (simp [l,o,z];rw [Bool.eq_iff_iff];simp;omega) | (simp [l,o,z];omega) | (simp_all;omega)) F
   intro w7 F;have K:=T.trans F;have q:=q.ext F;have D:=D.ext F;refine(aT) (fun L=>?_) fun L=>?_
   ·
    simp at L
    refine aQ ?_;refine(bF) ?_;exact⟨false,rfl,⟨fun h=>(by cases h),fun h=>absurd ((h.2 i _ (ae G)).2.1 k _ (ae R)) (by simp [L])⟩,K⟩
   simp at L
   refine eX ?_;refine EX.again (k+1) (Sub.k4 rfl rfl rfl rfl<|Sub.k4 rfl rfl rfl rfl<|Sub.gM rfl (by simp)<|Sub.nil) ⟨K,q,by omega,cp R O L⟩ (by omega)
  simp at g22
  have O:∀j x,aa[i].asks[j]?=some x→dY aa i aa[i].ring j x=true:=fun j x M=>O j x (by have:=(List.getElem?_eq_some_iff.1 M).1;omega) M;refine fY ?_;refine WC.je (t:=106) (v:=.bool (!fB aa[i])) (fun wx=>w4=wx) ?_ ?_
  ·
   refine nx ?_;refine WP .r (PV.fa iK rfl)<|(bq) dm q.range<|(cG) (fun d=>?_) (fun d=>?_)
   ·
    refine WP .r (PV.fa mX rfl)<|(bq) aL q.range<|(cG) (fun m=>?_) (fun m=>?_)
    ·
     refine aQ ?_;refine aQ ?_;exact(bY) (by unfold fB;simp at d m;first | (simp [d,m];done) | (exfalso;simp_all;done) | (simp_all;done) | (simp [d,m];rw [Bool.eq_iff_iff];simp;done) | (simp [d,m];rw [Bool.eq_iff_iff];simp;omega) | (simp [d,m];omega) | (simp_all;omega)) rfl
    refine WP .r (PV.fa jm rfl)<|(bq) aL q.range<|(cG) (fun p=>?_) (fun p=>?_)
    ·
     refine aQ ?_;refine aQ ?_;exact(bY) (by unfold fB;simp at d m p;first | (simp [d,m,p];done) | (exfalso;simp_all;done) | (simp_all;done) | (simp [d,m,p];rw [Bool.eq_iff_iff];simp;done) | (simp [d,m,p];rw [Bool.eq_iff_iff];simp;omega) | (simp [d,m,p];omega) | (simp_all;omega)) rfl
    refine WP .r (PV.fa jm rfl)<|(bq) aL q.range<|(cG) (fun u=>?_) (fun u=>?_)
    ·
     refine aQ ?_;refine aQ ?_;exact(bY) (by unfold fB;simp at d m p u;first | (simp [d,m,p,u];done) | (exfalso;simp_all;done) | (simp_all;done) | (simp [d,m,p,u];rw [Bool.eq_iff_iff];simp;done) | (simp [d,m,p,u];rw [Bool.eq_iff_iff];simp;omega) | (simp [d,m,p,u];omega) | (simp_all;omega)) rfl
    refine WP .r (PV.fa iK rfl)<|(bq) dm q.range<|(cG) (fun f=>?_) (fun f=>?_)
    ·
     refine WP .r (PV.fa mX rfl)<|(bq) aL q.range<|(cG) (fun g=>?_) (fun g=>?_)
     ·
      refine aQ ?_;exact(bY) (by unfold fB;simp at d m p u f g;first | (simp [d,m,p,u,f,g];done) | (exfalso;simp_all;done) | (simp_all;done) | (simp [d,m,p,u,f,g];rw [Bool.eq_iff_iff];simp;done) | (simp [d,m,p,u,f,g];rw [Bool.eq_iff_iff];simp;omega) | (simp [d,m,p,u,f,g];omega) | (simp_all;omega)) rfl
     refine WP .r (PV.fa mX rfl)<|(bq) aL q.range<|(cG) (fun s=>?_) (fun s=>?_)
     ·
      exact(bY) (by unfold fB;simp at d m p u f g s;first | (simp [d,m,p,u,f,g,s];done) | (exfalso;simp_all;done) | (simp_all;done) | (simp [d,m,p,u,f,g,s];rw [Bool.eq_iff_iff];simp;done) | (simp [d,m,p,u,f,g,s];rw [Bool.eq_iff_iff];simp;omega) | (simp [d,m,p,u,f,g,s];omega) | (simp_all;omega)) rfl
     refine WP .r (PV.fa jm rfl)<|(bq) aL q.range<|(cG) (fun B=>?_) (fun B=>?_)
     ·
      exact(bY) (by unfold fB;simp at d m p u f g s B;first | (simp [d,m,p,u,f,g,s,B];done) | (exfalso;simp_all;done) | (simp_all;done) | (simp [d,m,p,u,f,g,s,B];rw [Bool.eq_iff_iff];simp;done) | (simp [d,m,p,u,f,g,s,B];rw [Bool.eq_iff_iff];simp;omega) | (simp [d,m,p,u,f,g,s,B];omega) | (simp_all;omega)) rfl
     refine WP .r (PV.fa jm rfl)<|(bq) aL q.range<|?_;exact(bY) (by unfold fB;simp at d m p u f g s B;first | (simp [d,m,p,u,f,g,s,B];done) | (exfalso;simp_all;done) | (simp_all;done) | (simp [d,m,p,u,f,g,s,B];rw [Bool.eq_iff_iff];simp;done) | (simp [d,m,p,u,f,g,s,B];rw [Bool.eq_iff_iff];simp;omega) | (simp [d,m,p,u,f,g,s,B];omega) | (simp_all;omega)) rfl
    refine aQ ?_;exact(bY) (by unfold fB;simp at d m p u f;first | (simp [d,m,p,u,f];done) | (exfalso;simp_all;done) | (simp_all;done) | (simp [d,m,p,u,f];rw [Bool.eq_iff_iff];simp;done) | (simp [d,m,p,u,f];rw [Bool.eq_iff_iff];simp;omega) | (simp [d,m,p,u,f];omega) | (simp_all;omega)) rfl
   refine aQ ?_;refine cq ?_;refine WP .r (PV.fa iK rfl)<|(bq) dm q.range<|(cG) (fun f=>?_) (fun f=>?_)
   ·
    refine WP .r (PV.fa mX rfl)<|(bq) aL q.range<|(cG) (fun g=>?_) (fun g=>?_)
    ·
     refine aQ ?_;exact(bY) (by unfold fB;simp at d f g;first | (simp [d,f,g];done) | (exfalso;simp_all;done) | (simp_all;done) | (simp [d,f,g];rw [Bool.eq_iff_iff];simp;done) | (simp [d,f,g];rw [Bool.eq_iff_iff];simp;omega) | (simp [d,f,g];omega) | (simp_all;omega)) rfl
    refine WP .r (PV.fa mX rfl)<|(bq) aL q.range<|(cG) (fun s=>?_) (fun s=>?_)
    ·
     exact(bY) (by unfold fB;simp at d f g s;first | (simp [d,f,g,s];done) | (exfalso;simp_all;done) | (simp_all;done) | (simp [d,f,g,s];rw [Bool.eq_iff_iff];simp;done) | (simp [d,f,g,s];rw [Bool.eq_iff_iff];simp;omega) | (simp [d,f,g,s];omega) | (simp_all;omega)) rfl
    refine WP .r (PV.fa jm rfl)<|(bq) aL q.range<|(cG) (fun B=>?_) (fun B=>?_)
    ·
     exact(bY) (by unfold fB;simp at d f g s B;first | (simp [d,f,g,s,B];done) | (exfalso;simp_all;done) | (simp_all;done) | (simp [d,f,g,s,B];rw [Bool.eq_iff_iff];simp;done) | (simp [d,f,g,s,B];rw [Bool.eq_iff_iff];simp;omega) | (simp [d,f,g,s,B];omega) | (simp_all;omega)) rfl
    refine WP .r (PV.fa jm rfl)<|(bq) aL q.range<|?_;exact(bY) (by unfold fB;simp at d f g s B;first | (simp [d,f,g,s,B];done) | (exfalso;simp_all;done) | (simp_all;done) | (simp [d,f,g,s,B];rw [Bool.eq_iff_iff];simp;done) | (simp [d,f,g,s,B];rw [Bool.eq_iff_iff];simp;omega) | (simp [d,f,g,s,B];omega) | (simp_all;omega)) rfl
   refine aQ ?_;exact(bY) (by unfold fB;simp at d f;first | (simp [d,f];done) | (exfalso;simp_all;done) | (simp_all;done) | (simp [d,f];rw [Bool.eq_iff_iff];simp;done) | (simp [d,f];rw [Bool.eq_iff_iff];simp;omega) | (simp [d,f];omega) | (simp_all;omega)) rfl
  rintro _ rfl;refine(aT) (fun N=>?_) fun N=>?_
  ·
   simp at N
   refine(bF) ?_;exact⟨false,rfl,⟨fun h=>(by cases h),fun h=>absurd (h.2 i _ (ae G)).2.2 (by simp [N])⟩,c4⟩
  simp at N
  refine eX ?_;refine EX.again (i+1) (Sub.k2 rfl rfl<|Sub.cons rfl<|Sub.gM rfl (by simp)<|Sub.nil) ⟨c4,by omega,cp G U ⟨by omega,O,N⟩⟩ (by omega)
 simp at g10
 have kX:∀j x,aa[j]?=some x→jU aa j x:=fun j x M=>U j x (by have:=(List.getElem?_eq_some_iff.1 M).1;omega) M;refine jg ?_;refine WP .r (PV.fZ gT rfl)<|(bF) ?_;exact⟨_,rfl,⟨fun h=>⟨by simp at h;omega,kX⟩,fun h=>by have:=h.1;simp;omega⟩,c1⟩
set_option maxHeartbeats 400000
theorem ya :CR prog 5 #[.slice a n c] w (.bool (decide (n≤400))):=by
 refine enter func5 rfl ntmps5 rfl<|?_;have c0:aK [] w w:=aK.refl _ _;refine jg ?_;refine WP .r (PV.fZ Ad rfl)<|(bF) ?_;exact⟨by congr 2;exact decide_eq_decide.2 (by omega),c0⟩
theorem Au{l:List Int}(hl:Ints A w a n c l) (f:n≤400):Calls prog 7 #[.slice a n c] w fun e w'=>∃d,e=.returned (.pointer (some ⟨d,0,none⟩))∧w.heap.size≤d∧zl A w' 67 d∧aK [] w w':=by
 refine enter func7 rfl ntmps7 rfl<|?_;have c0:aK [] w w:=aK.refl _ _;refine jg ?_;refine WP .r (PV.br (us:=[.slice a n c,.int .i64 0]) VU rfl rfl rfl)<|?_;refine WL.go rfl (OX.box rfl rfl rfl fun b5 w1 b g=>?_);have s1:=b.ext;have h:=b.gY c0;have c1:=c0.trans s1;refine(bF) ?_;exact⟨_,rfl,h,⟨l,a,n,c,0,g,SR.ext hl c1,f,by omega⟩,c1⟩
theorem Av{m:Int}{d:Nat}(o:zl A w 67 d) (f:¬A d) (hm:m≤4611686018427387904):Calls prog 29 #[.pointer (some ⟨d,0,none⟩),.int .i64 m] w fun e w'=>∃z:Int,e=.returned (.int .i64 z)∧0≤z∧(1≤m→z<m)∧aK [d] w w'∧zl A w' 67 d:=by
 obtain⟨l,a,n,c,t,hb,hl,i,p⟩:=o;have hlen:=SR.len hl;refine enter func29 rfl ntmps29 rfl<|?_;have c0:aK [d] w w:=aK.refl _ _;refine eX ?_;refine WC.drawn (m:=9) (C:=aK [] w) (T:=fun _=>aK []) (E:=bN []) (aU (trivial)) mixed (by kernel_rfl) (aK.drew _ _)<|bJ ?_;refine DP .r (fun _ b=>PV.fa vE rfl)<|DP .r (fun _ b=>PV.ld1 aL (hb.ext b).range rfl rfl)<|bJ ?_;refine DP .r (fun _ b=>PV.fa Fk rfl)<|DP .r (fun _ b=>PV.ld1 Jl (hb.ext b).range rfl rfl)<|DP .r (fun _ b=>PV.fZ Ad rfl)<|(cx)<|?_;rintro w1 s1 _;have c1:=c0.trans s1.nil;have hb:=hb.ext s1;refine(aT) (fun g14=>?_) fun g14=>?_
 ·
  skip
  refine(bF) ?_;exact⟨0,rfl,by omega,fun h=>by omega,c1,l,a,n,c,t,hb,SR.bS hl c1 (by simpa using f) (fun _ _ h=>h),i,p⟩
 simp at g14
 obtain⟨v,x,y,q,_,s,g,u⟩:=SR.at hl (ae (show t<l.length by omega));subst s;refine fY ?_;refine WP .r (PV.fa vE rfl)<|(bq) aL hb.range<|bJ ?_;refine WP .r (PV.fa vE rfl)<|?_;refine WL.go rfl (OX.st Of hb rfl rfl (by first | (simp [nth];done) | exact OS rfl) rfl rfl fun w2 s2 _ hb=>?_);have c2:=c1.trans s2;refine cq ?_;have g:=aW g c2 (by simp;rintro rfl;exact f u);refine WC.drawn (m:=12) (C:=aK [] w2) (T:=fun _=>aK []) (E:=bN []) (aU (trivial)) mixed (by kernel_rfl) (aK.drew _ _)<|bJ ?_;refine DP .r (fun _ b=>PV.fa Fk rfl)<|DP .r (fun _ b=>PV.ld1 Jl (hb.ext b).range rfl rfl)<|bJ ?_;refine DP .r (fun _ b=>PV.fa vE rfl)<|DP .r (fun _ b=>PV.ld1 aL (hb.ext b).range rfl rfl)<|nx ?_;refine DP .r (fun _ b=>PV.Dv Ad (t) q rfl rfl (by omega) (by omega))<|DP .r (fun _ b=>PV.ki aL (aW g b (by simp)) rfl rfl)<|(cx) ?_;rintro w3 j _;have c3:=c2.trans j.nil;have hb:=hb.ext j;refine(cE) Wr (C6 (n:=l[t]) (m:=m) (by omega)) ?_;rintro _ w4 ⟨rfl,k⟩;have c4:=c3.trans k.nil;have hb:=hb.ext k;refine(bF) ?_;refine⟨_,rfl,?_,?_,c4,l,a,n,c,t+1,?_,SR.bS hl c4 (by simpa using f) (fun _ _ h=>h),i,by omega⟩
 ·
  split
  ·
   omega
  exact Int.emod_nonneg _ (by omega)
 ·
  intro h;rw [if_neg (by omega)];exact Int.emod_lt_of_pos _ (by omega)
 exact hb
def words:List ByteArray:=[⟨#[48]⟩,⟨#[49]⟩,⟨#[50]⟩,⟨#[51]⟩,⟨#[55]⟩,⟨#[49,48,48]⟩,⟨#[]⟩,⟨#[120]⟩,⟨#[49,54]⟩,⟨#[49]⟩]
theorem Fz:∀s∈words,s.size≤100:=by decide
end Go.Rc

