/- Walks over the program, part WD. Conditions: as each theorem says. -/
import Derived.Test.YtfamnpoplgkkcaaGreatDoorSFacts
import Derived.Test.YtfamnpoplgkkcaaGreatDoorSWB
import Derived.Test.YtfamnpoplgkkcaaGreatDoorSBb
set_option linter.all false
namespace Go.Rc
open Go Go.Proofs Go.Proofs.Tryz
variable {aa:List aG}{A:Nat→Prop}{a:Option Addr}{r c n:Nat}{w:World}
set_option maxHeartbeats 400000
theorem yn{i:Nat}{x:Ask}{n:Int}(hr:fG A w a r c aa) (hi:i<aa.length):CR prog 134 #[.slice a r c,.int .i64 (i:Int),x.val,.int .i64 n] w (.bool (gy aa i x.cell n)):=by
 have hle:=hr.le;have hlen:=hr.len;have g:=bU hi;refine enter func134 rfl ntmps134 rfl<|?_;have c0:aU [] w w:=aU.refl _ _;refine bO ?_;refine WL.go rfl (OX.box rfl rfl rfl fun l w1 h f=>?_);have s1:=h.ext;have m:=h.iG c0;have c1:=c0.trans s1;refine fH ?_;refine WP .r (PV.fa tW rfl)<|(aZ) dA f.range<|(aS) (fun g12=>?_) fun g12=>?_
 ·
  refine nx ?_;refine WC.lE (t:=8) (v:=.bool (decide (0≤n) && decide (n≤15))) (fun d=>w1=d) ?_ ?_
  ·
   refine(de) (fun g15=>?_) (fun g15=>?_)
   ·
    exact(gu) (by simp only [g15];first | rfl | simp) rfl
   exact(gu) (by simp only [g15];first | rfl | simp) rfl
  rintro _ rfl;refine(bA) ?_;exact⟨by unfold gy;rw [if_pos g12],c1⟩
 refine(bY) W3 (sX (n:=(i:Int)) (hr.ext c1)) ?_;rintro _ w2 ⟨rfl,s2⟩;have c2:=c1.trans s2;have f:=f.ext s2;refine kU ?_;obtain⟨b1,o,r1,j,_,⟨q1,p,q,rfl,_⟩,k,_⟩:=(hr.ext c2).at (ak hi);refine cm ?_;refine WP .r (PV.dV iU j rfl rfl (by omega))<|WP .r (PV.fa kx rfl)<|(aZ) dA k<|(aS) (fun e=>?_) fun e=>?_
 ·
  have ht:fA aa i=(block aa i).1:=by unfold fA;rw [g];simp at e;rw [e];rfl
  refine fH ?_;refine WC.lE (t:=8) (v:=.bool (decide (0≤n) && decide (n<fA aa i))) (fun d=>w2=d) ?_ ?_
  ·
   refine(de) (fun b=>?_) (fun b=>?_)
   ·
    exact(gu) (by simp only [ht,b];first | rfl | simp) rfl
   exact(gu) (by simp only [ht,b];first | rfl | simp) rfl
  rintro _ rfl;refine(bA) ?_;exact⟨by unfold gy;rw [g12];rfl,c2⟩
 have ht:fA aa i=(block aa i).2:=by unfold fA;rw [g];simp at e;rw [e];rfl
 refine cm ?_;refine WC.lE (t:=8) (v:=.bool (decide (0≤n) && decide (n<fA aa i))) (fun d=>w2=d) ?_ ?_
 ·
  refine(de) (fun b=>?_) (fun b=>?_)
  ·
   exact(gu) (by simp only [ht,b];first | rfl | simp) rfl
  exact(gu) (by simp only [ht,b];first | rfl | simp) rfl
 rintro _ rfl;refine(bA) ?_;exact⟨by unfold gy;rw [g12];rfl,c2⟩
theorem vm{s:ByteArray} :CR prog 185 #[.string s] w (.int .i64 (cG s:Int)):=by
 refine enter func185 rfl ntmps185 rfl<|?_;have c0:aU [] w w:=aU.refl _ _;refine(bY) Py (oO (s:=s)) ?_;rintro _ w1 ⟨rfl,s1⟩;have c1:=c0.trans s1;refine dd ?_;refine WC.ke (t:=11) (v:=.bool (decide (dO s<0) || decide (65535<dO s))) (fun d=>w1=d) ?_ ?_
 ·
  refine(de) (fun g8=>?_) (fun g8=>?_)
  ·
   exact(bZ) (by simp only [g8];first | rfl | simp) rfl
  exact(bZ) (by simp only [g8];first | rfl | simp) rfl
 rintro _ rfl;refine(aS) (fun g11=>?_) fun g11=>?_
 ·
  simp at g11
  have b:cG s=0:=by unfold cG;rw [if_pos g11]
  refine(bA) ?_;rw [b];exact⟨rfl,c1⟩
 simp at g11
 have b:(cG s:Int)=dO s:=by unfold cG;rw [if_neg (by omega)];omega
 refine(bA) ?_;rw [b];exact⟨rfl,c1⟩
theorem Cq{l:List ByteArray}{ring:Bool}{a1:Option Addr}{n1 e1:Nat}{fin:Int}{d:Nat}(hl:Strs A w a r c l) (hc:d≤65535) (J:r≤1000):CR prog 184 #[.agg #[.bool ring,.slice a1 n1 e1,.int .i64 fin,.int .i64 (d:Int)],.slice a r c] w (.int .i64 (dq fin d (l.map cG):Int)):=by
 have hlen:=hl.len
 have k:∀x∈l.map cG,x≤65535:=fun x o=>by obtain⟨s,_,rfl⟩:=List.mem_map.1 o;exact kK s
 have p:∀i,∀x∈(l.map cG).take i,x≤65535:=fun i x o=>k x (List.mem_of_mem_take o);refine enter func184 rfl ntmps184 rfl<|?_;have c0:aU [] w w:=aU.refl _ _;refine bO ?_;refine WL.go rfl (OX.box rfl rfl rfl fun b2 w1 u b=>?_);have s1:=u.ext;have K:=u.iG c0;have c1:=c0.trans s1;refine ck ?_;refine WC.drawn (m:=8) (C:=aU [] w1) (T:=fun _=>aU []) (E:=cF []) (bj (trivial)) mixed (by kernel_rfl) (aU.drew _ _)<|?_;refine DP .r (fun _ e=>PV.fa lj rfl)<|DP .r (fun _ e=>PV.ld1 aO (b.ext e).range rfl rfl)<|DP .r (fun _ e=>PV.fa lj rfl)<|DP .r (fun _ e=>PV.ld1 aO (b.ext e).range rfl rfl)<|DP .r (fun _ e=>PV.fa lj rfl)<|DP .r (fun _ e=>PV.ld1 aO (b.ext e).range rfl rfl)<|(cS) ?_;rintro w2 s2 _;have c2:=c1.trans s2;have b:=b.ext s2;refine eD ?_;refine WP .r (PV.ic oL rfl)<|ck ?_;refine WC.loop (σ:=Nat) (dn:=fun i=>[(2,.pointer (some ⟨b2,0,none⟩)),(5,.int .i64 (qa d ((l.map cG).take i):Int)),(6,.int .i64 (sF d ((l.map cG).take i):Int)),(7,.int .i64 (fc d ((l.map cG).take i):Int)),(17,.slice a r c),(18,.int .i64 (r:Int)),(19,.int .i64 (i:Int))]) (I:=fun i w'=>aU [] w w'∧bR w' b2 58 [.bool ring,.slice a1 n1 e1,.int .i64 fin,.int .i64 (d:Int)]∧i≤r) (μ:=fun i=>r - i) 0 Sub.t ⟨c2,b,by omega⟩ ?_;rintro i w3 ⟨c3,b,hi⟩;refine(aS) (fun g20=>?_) fun g20=>?_
 ·
  simp at g20
  have y:i<l.length:=by omega
  have q:i<(l.map cG).length:=by simp;omega
  have z:=tP (c:=d) (p i);have B:=na hc (p i);have D:=lH hc (p i);have L:=kK l[i]
  have M:((l.map cG).take i).length≤1000:=by rw [List.length_take];omega
  refine dd ?_;obtain⟨b1,N,r1,F,_,rfl,G,_⟩:=(hl.ext c3).at (ak y);refine nx ?_;refine WP .r (PV.dV oL F rfl rfl (by omega))<|WP .r (PV.mn e7 G rfl rfl)<|(bY) PG (vm (s:=l[i])) ?_;rintro _ w4 ⟨rfl,v⟩;have c4:=c3.trans v;have b:=b.ext v;refine kU ?_;refine WP .r (PV.Jj rfl rfl)<|bO ?_;refine WP .r (PV.orN rfl rfl (by omega) (by omega))<|i7 ?_;refine EX.again (i+1) (Sub.cons rfl<|Sub.iX rfl (by rw [xE q,List.getElem_map];omega)<|Sub.iX rfl (by rw [uj q,List.getElem_map];omega)<|Sub.iX rfl (by rw [uk q,List.getElem_map])<|Sub.k2 rfl rfl<|Sub.iX rfl (by simp)<|Sub.nil) ⟨c4,b,by omega⟩ (by omega)
 simp at g20
 have H:(l.map cG).take i=l.map cG:=List.take_of_length_le (by simp;omega);rw [H];have z:=tP (c:=d) k;have B:=na hc k;have D:=lH hc k
 have O:(l.map cG).length≤1000:=by rw [List.length_map];omega
 refine gK ?_;refine WP .r (PV.fa pF rfl)<|(aZ) aO b.range<|(aS) (fun f=>?_) fun f=>?_
 ·
  simp at f
  refine cm ?_;refine WP .r (PV.rem rfl rfl (by omega))<|(bA) ?_;exact⟨by unfold dq;rw [if_pos f,Int.tmod_eq_emod_of_nonneg (by omega)];rfl,c3⟩
 simp at f
 refine(aS) (fun g=>?_) fun g=>?_
 ·
  simp at g
  refine cm ?_;refine WP .r (PV.quo rfl rfl (by omega) (by rw [Int.tdiv_eq_ediv_of_nonneg (by omega)];omega) (by rw [Int.tdiv_eq_ediv_of_nonneg (by omega)];omega))<|WP .r (PV.rem rfl rfl (by omega))<|(bA) ?_;exact⟨by unfold dq;rw [if_neg f,if_pos g,Int.tdiv_eq_ediv_of_nonneg (by omega),Int.tmod_eq_emod_of_nonneg (by omega)];rfl,c3⟩
 simp at g
 refine(aS) (fun h=>?_) fun h=>?_
 ·
  simp at h
  refine(bA) ?_;exact⟨by unfold dq;rw [if_neg f,if_neg g,if_pos h],c3⟩
 simp at h
 refine(aS) (fun j=>?_) fun j=>?_
 ·
  simp at j
  refine cm ?_;refine WP .r (PV.rem rfl rfl (by omega))<|(bA) ?_;exact⟨by unfold dq;rw [if_neg f,if_neg g,if_neg h,if_pos j,Int.tmod_eq_emod_of_nonneg (by omega)];rfl,c3⟩
 simp at j
 refine(bA) ?_;exact⟨by unfold dq;rw [if_neg f,if_neg g,if_neg h,if_neg j],c3⟩
theorem Fg{k:Key}{ae:List ByteArray}{B C:Nat→Prop}{a2:Option Addr}{r2 e2:Nat}(ht:lA prog A w) (hr:fG B w a r c aa) (hl:Strs C w a2 r2 e2 ae) (hb:∀x∈aa,0≤x.c∧x.c≤65535∧x.asks.length≤1000):CR prog 136 #[.slice a r c,k.val,.slice a2 r2 e2] w ((cy aa k ae).val):=by
 have hle:=hr.le;have hlen:=hr.len;have vo:=hl.len;refine enter func136 rfl ntmps136 rfl<|?_;have c0:aU [] w w:=aU.refl _ _;refine bO ?_;refine WL.go rfl (OX.box rfl rfl rfl fun b4 w1 Fh d=>?_);have s1:=Fh.ext;have vq:=Fh.iG c0;have c1:=c0.trans s1;refine WL.go rfl (OX.alloc oM rfl fun L w2 Fi b=>?_);have s2:=Fi.ext;have M:=Fi.iG c1;have I:b4≠L:=Fi.ne d.lt;have Fj:L≠b4:=Ne.symm I;have c2:=c1.trans s2;have d:=d.ext s2;refine(aX) ao d.range<|(bY) N8 (jU (k:=k)) ?_;rintro _ w3 ⟨rfl,s3⟩;have c3:=c2.trans s3;have d:=d.ext s3;have b:=b.ext s3;refine dd ?_;refine WC.ke (t:=28) (v:=.bool (decide (number k<0) || (decide ((r:Int)≤number k) || decide (aI aa (number k)≠k)))) (aU [] w3) ?_<|?_
 ·
  refine WC.drawn (m:=13) (C:=aU [] w3) (T:=fun _=>aU []) (E:=cF [(11,fun v _=>v=(aI aa (number k)).val)]) (bj (⟨fun _ _ _ _ _ _ _ h=>h,trivial⟩)) mixed (by kernel_rfl) (aU.drew _ _)<|(om) (fun g16=>?_) (fun g16=>?_)
  ·
   refine(cS) ?_;rintro w4 u _;have c4:=c3.trans u;have d:=d.ext u;have b:=b.ext u;exact(bZ) (by simp only [g16];first | rfl | simp) u
  refine bO ?_;refine DP .r (fun _ D=>PV.ic iU rfl)<|(om) (fun g22=>?_) (fun g22=>?_)
  ·
   refine(cS) ?_;rintro w4 u _;have c4:=c3.trans u;have d:=d.ext u;have b:=b.ext u;exact(bZ) (by simp only [g16,g22];first | rfl | simp) u
  refine bO ?_;refine DW.e rfl rfl rfl rfl rfl (fun wx D hF=>OX.call zC rfl rfl ((fV (n:=number k) (hr.ext (c3.trans D))).mono ?_))<|?_
  ·
   rintro _ wy ⟨rfl,hy⟩;exact⟨_,rfl,D.trans hy,hy,_,rfl,rfl⟩
  rintro _ wz _ rfl;refine DP .r (fun _ D=>PV.Hb ao (d.ext D).range rfl rfl)<|(cS)<|?_;rintro w4 u _;have c4:=c3.trans u;have d:=d.ext u;have b:=b.ext u;refine WP .r (PV.LP fS (p:=aI aa (number k)) (q:=k) rfl rfl)<|?_;exact(bZ) (by simp only [g16,g22];first | rfl | simp) u
 intro w4 u;have c4:=c3.trans u;have d:=d.ext u;have b:=b.ext u;refine(aS) (fun R=>?_) fun R=>?_
 ·
  simp at R
  have z:=Jm (ae:=ae) (show number k<0∨(aa.length:Int)≤number k∨aI aa (number k)≠k by rw [← hlen];exact R);refine bO ?_;refine WP .r (PV.bC (us:=[.bool true,.string ⟨#[]⟩,.int .i64 0,.string ⟨#[]⟩]) mB rfl rfl rfl)<|?_;refine WL.go rfl (OX.mq gB b rfl rfl rfl rfl rfl fun w5 N _ b=>?_);have c5:=c4.own N M;have d:=d.bW N (by simp [I]);refine(kV) iN b.range<|?_;rw [z];exact⟨rfl,c5⟩
 simp at R
 obtain⟨g1,g2,g3⟩:=R;obtain⟨i,yN⟩:∃i:Nat,number k=i:=⟨(number k).toNat,by omega⟩
 have hi:i<aa.length:=by omega
 obtain⟨Fk,wN,wO⟩:=hb _ (List.getElem_mem hi);obtain⟨S,Yo⟩:∃S:Nat,aa[i].c=S:=⟨aa[i].c.toNat,by omega⟩;refine cm ?_;obtain⟨bx1,ox1,rx1,Fl,_,⟨q1,q2,q3,rfl,Cr⟩,Z,_⟩:=hr.at (ak hi);have Z:=a7 Z c4 (by simp);rw [Yo] at Z;have yo:=Cr.len;refine cm ?_;refine WP .r (PV.D3 iU (i) Fl rfl rfl (by omega) (by omega))<|(aX) qD Z<|nx ?_;refine WP .r (PV.ic oL rfl)<|?_;refine WL.go rfl (OX.alloc Nw rfl fun O w5 LZ f=>?_);have N:=LZ.ext;have SC:=LZ.iG c4;have vt:b4≠O:=LZ.ne d.lt;have Fm:O≠b4:=Ne.symm vt;have vu:L≠O:=LZ.ne b.lt;have U:O≠L:=Ne.symm vu;have c5:=c4.trans N;have d:=d.ext N;have b:=b.ext N;refine WL.go rfl (OX.mq Cj f rfl rfl rfl rfl rfl fun w6 s6 _ f=>?_);have V:=c5.own s6 SC;have d:=d.bW s6 (by simp [vt]);have b:=b.bW s6 (by simp [vu]);refine eD ?_;refine WP .r (PV.fa r8 rfl)<|(aZ) ku f.range<|?_;refine WP .r (PV.ic wM rfl)<|(aS) (fun L0=>?_) fun L0=>?_
 ·
  simp at L0
  have z:=j6 (ae:=ae) yN hi g3 (by omega);rw [← yo,Yo,Int.toNat_natCast] at z;have QK:=n0 (kind:=aa[i].final) (c:=S) (l:=(ae.take q2).map cG) (by omega) (fun x hx=>by obtain⟨s,_,rfl⟩:=List.mem_map.1 hx;exact kK s);refine nx ?_;refine WC.drawn (m:=6) (C:=aU [] w6) (T:=fun _=>aU []) (E:=cF []) (bj (trivial)) mixed (by kernel_rfl) (aU.drew _ _)<|?_;refine DP .r (fun _ D=>PV.Hb qD (f.ext D).range rfl rfl)<|nx ?_;refine DP .r (fun _ D=>PV.fa r8 rfl)<|DP .r (fun _ D=>PV.ld1 ku (f.ext D).range rfl rfl)<|DP .r (fun _ D=>PV.ic wM rfl)<|DP .r (fun _ D=>PV.mX oL (hl.ext (V.trans D)) rfl rfl (by omega))<|(cS)<|?_;rintro w7 F _;have c7:=V.trans F;have d:=d.ext F;have b:=b.ext F;have f:=f.ext F;refine(bY) X3 (Cq (SR.take (hl.ext c7) (by omega)) (show S≤65535 by omega) (by omega)) ?_;rintro _ w8 ⟨rfl,G⟩;have P:=c7.trans G;have d:=d.ext G;have b:=b.ext G;have f:=f.ext G;refine(bY) N7 (me (ht.ext P) (by omega) (by omega)) ?_;rintro _ w9 ⟨rfl,y⟩;have c9:=P.trans y;have d:=d.ext y;have b:=b.ext y;have f:=f.ext y;refine WP .r (PV.bC (us:=[.bool true,.string (itoa ((dq aa[i].final S ((ae.take q2).map cG)):Int)),.int .i64 0,.string ⟨#[]⟩]) mB rfl rfl rfl)<|?_;refine WL.go rfl (OX.mq gB b rfl rfl rfl rfl rfl fun iP g _ b=>?_);have H:=c9.own g M;have d:=d.bW g (by simp [I]);have f:=f.bW g (by simp [U]);refine(kV) iN b.range<|?_;rw [z];exact⟨rfl,H⟩
 simp at L0
 have hn:r2<aa[i].asks.length:=by omega
 have z:=i6 (ae:=ae) yN hi g3 (by omega);simp only [← vo] at z;refine cm ?_;obtain⟨bx2,ox2,rx2,DS,_,rfl,hr2,_⟩:=(Cr.ext V).at (ak hn);refine nx ?_;refine WP .r (PV.fa r8 rfl)<|(aZ) ku f.range<|nx ?_;refine WP .r (PV.dV wM DS rfl rfl (by omega))<|(aX) k9 hr2<|?_;refine WL.go rfl (OX.alloc Kz rfl fun Q w7 W j=>?_);have F:=W.ext;have zG:=W.iG V;have sY:b4≠Q:=W.ne d.lt;have Cs:Q≠b4:=Ne.symm sY;have sZ:L≠Q:=W.ne b.lt;have kP:Q≠L:=Ne.symm sZ;have ta:O≠Q:=W.ne f.lt;have PT:Q≠O:=Ne.symm ta;have c7:=V.trans F;have d:=d.ext F;have b:=b.ext F;have f:=f.ext F;refine WL.go rfl (OX.mq ve j rfl rfl rfl rfl rfl fun w8 G _ j=>?_);have P:=c7.own G zG;have d:=d.bW G (by simp [sY]);have b:=b.bW G (by simp [sZ]);have f:=f.bW G (by simp [ta]);refine ck ?_;refine WP .r (PV.fa zB rfl)<|(aZ) aO j.range<|dd ?_;refine WC.ke (t:=72) (v:=.bool (fl aa[i].asks[r2] ae)) (aU [] w8) ?_<|?_
 ·
  refine nx ?_;refine WP .r (PV.fa qE rfl)<|(aZ) dA j.range<|(de) (fun g59=>?_) (fun g59=>?_)
  ·
   refine(de) (fun SE=>?_) (fun SE=>?_)
   ·
    have X:fl aa[i].asks[r2] ae=true:=by unfold fl;rw [g59,← vo];simp at SE;simp [SE]
    exact(bZ) (by rw [X]) (aU.refl _ _)
   simp at SE
   obtain⟨bx3,ox3,rx3,Yp,_,rfl,hr3,_⟩:=(hl.ext P).at (ak (show r2 - 1<ae.length by omega))
   have X:fl aa[i].asks[r2] ae=decide ((cG ae[r2 - 1]:Int).tmod 2=0):=by
    unfold fl
    simp only [g59,← vo,Bool.true_and];rw [decide_eq_false (by omega),Bool.false_or,getElem!_pos ae (r2 - 1) (by omega),Int.tmod_eq_emod_of_nonneg (by omega)]
    congr 1
    exact propext ⟨fun h=>by omega,fun h=>by omega⟩
   refine cm ?_;refine WP .r (PV.D3 oL (r2 - 1) Yp rfl rfl (by omega) (by omega))<|WP .r (PV.mn e7 hr3 rfl rfl)<|(bY) PG (vm (s:=ae[r2 - 1])) ?_;rintro _ w9 ⟨rfl,y⟩;have c9:=P.trans y;have d:=d.ext y;have b:=b.ext y;have f:=f.ext y;have j:=j.ext y;refine WP .r (PV.rem rfl rfl (by omega))<|?_;exact(bZ) (by rw [X]) y
  have X:fl aa[i].asks[r2] ae=false:=by unfold fl;rw [g59];rfl
  refine aW ?_;exact(bZ) (by rw [X]) (aU.refl _ _)
 intro w9 y;have c9:=P.trans y;have d:=d.ext y;have b:=b.ext y;have f:=f.ext y;have j:=j.ext y;refine(aS) (fun g72=>?_) fun g72=>?_
 ·
  have Y:o8 aa[i].asks[r2] ae=aa[i].asks[r2].D4:=by unfold o8;rw [if_pos g72]
  refine nx ?_;refine WP .r (PV.fa qF rfl)<|(aZ) aO j.range<|fH ?_;refine WP .r (PV.fa tW rfl)<|(aZ) dA j.range<|(aS) (fun J=>?_) fun J=>?_
  ·
   rw [Y,if_pos J] at z;refine(bY) N5 (jk) ?_;rintro _ iP ⟨rfl,g⟩;have H:=c9.trans g;have d:=d.ext g;have b:=b.ext g;have f:=f.ext g;have j:=j.ext g;refine WP .r (PV.bC (us:=[.bool false,.string ⟨#[]⟩,.int .i64 (bX _).kind,.string (bX _).text]) mB rfl rfl rfl)<|?_;refine WL.go rfl (OX.mq gB b rfl rfl rfl rfl rfl fun iW o _ b=>?_);have K:=H.own o M;have d:=d.bW o (by simp [I]);have f:=f.bW o (by simp [U]);have j:=j.bW o (by simp [kP]);refine(kV) iN b.range<|?_;rw [z];exact⟨rfl,K⟩
  rw [Y,if_neg (by simp [J])] at z;refine(bY) zC (fV (hr.ext c9)) ?_;rintro _ iP ⟨rfl,g⟩;have H:=c9.trans g;have d:=d.ext g;have b:=b.ext g;have f:=f.ext g;have j:=j.ext g;refine WP .r (PV.bC (us:=[.bool false,.string ⟨#[]⟩,.int .i64 (aI aa _).kind,.string (aI aa _).text]) mB rfl rfl rfl)<|?_;refine WL.go rfl (OX.mq gB b rfl rfl rfl rfl rfl fun iW o _ b=>?_);have K:=H.own o M;have d:=d.bW o (by simp [I]);have f:=f.bW o (by simp [U]);have j:=j.bW o (by simp [kP]);refine(kV) iN b.range<|?_;rw [z];exact⟨rfl,K⟩
 have Y:o8 aa[i].asks[r2] ae=aa[i].asks[r2].n:=by unfold o8;rw [if_neg (by simp [g72])]
 refine dd ?_;refine WP .r (PV.fa tW rfl)<|(aZ) dA j.range<|(aS) (fun J=>?_) fun J=>?_
 ·
  rw [Y,if_pos J] at z;refine(bY) N5 (jk) ?_;rintro _ iP ⟨rfl,g⟩;have H:=c9.trans g;have d:=d.ext g;have b:=b.ext g;have f:=f.ext g;have j:=j.ext g;refine WP .r (PV.bC (us:=[.bool false,.string ⟨#[]⟩,.int .i64 (bX _).kind,.string (bX _).text]) mB rfl rfl rfl)<|?_;refine WL.go rfl (OX.mq gB b rfl rfl rfl rfl rfl fun iW o _ b=>?_);have K:=H.own o M;have d:=d.bW o (by simp [I]);have f:=f.bW o (by simp [U]);have j:=j.bW o (by simp [kP]);refine(kV) iN b.range<|?_;rw [z];exact⟨rfl,K⟩
 rw [Y,if_neg (by simp [J])] at z;refine(bY) zC (fV (hr.ext c9)) ?_;rintro _ iP ⟨rfl,g⟩;have H:=c9.trans g;have d:=d.ext g;have b:=b.ext g;have f:=f.ext g;have j:=j.ext g;refine WP .r (PV.bC (us:=[.bool false,.string ⟨#[]⟩,.int .i64 (aI aa _).kind,.string (aI aa _).text]) mB rfl rfl rfl)<|?_;refine WL.go rfl (OX.mq gB b rfl rfl rfl rfl rfl fun iW o _ b=>?_);have K:=H.own o M;have d:=d.bW o (by simp [I]);have f:=f.bW o (by simp [U]);have j:=j.bW o (by simp [kP]);refine(kV) iN b.range<|?_;rw [z];exact⟨rfl,K⟩
theorem tb(hr:fG A w a r c aa):Calls prog 87 #[.slice a r c] w fun e w'=>∃b:Bool,e=.returned (.bool b)∧(b=true↔aq aa)∧aU [] w w':=by
 have hle:=hr.le;have hlen:=hr.len;refine enter func87 rfl ntmps87 rfl<|?_;have c0:aU [] w w:=aU.refl _ _;refine kU ?_;refine WP .r (PV.ic iU rfl)<|ck ?_;refine WC.loop (σ:=Nat) (dn:=fun i=>[(0,.slice a r c),(7,.slice a r c),(8,.int .i64 (r:Int)),(9,.int .i64 (i:Int))]) (I:=fun i w'=>aU [] w w'∧i≤r∧∀j x,j<i→aa[j]?=some x→lT aa j x) (μ:=fun i=>r - i) 0 Sub.t ⟨c0,by omega,fun j x h=>by omega⟩ ?_;rintro i w1 ⟨c1,hi,U⟩;refine(aS) (fun g10=>?_) fun g10=>?_
 ·
  simp at g10
  have G:i<aa.length:=by omega
  obtain⟨bx1,ox1,rx1,Fl,_,⟨q1,J,V,rfl,P⟩,Q,_⟩:=hr.at (ak G);have yo:=P.len;have hq:=P.le;refine dd ?_;have Q:=a7 Q c1 (by simp);refine bO ?_;refine WP .r (PV.dV iU Fl rfl rfl (by omega))<|(aX) qD Q<|?_;refine WL.go rfl (OX.alloc Nw rfl fun b4 w2 W q=>?_);have s2:=W.ext;have vq:=W.iG c1;have c2:=c1.trans s2;refine nx ?_;refine WL.go rfl (OX.mq Cj q rfl rfl rfl rfl rfl fun w3 s3 _ q=>?_);have c3:=c2.own s3 vq;refine dd ?_;refine WP .r (PV.fa r8 rfl)<|(aZ) ku q.range<|?_;refine WP .r (PV.ic wM rfl)<|(aS) (fun g17=>?_) fun g17=>?_
  ·
   simp at g17
   refine(bA) ?_;exact⟨false,rfl,⟨fun h=>(by cases h),fun h=>absurd (h.2 i _ (ak G)).1 (by omega)⟩,c3⟩
  simp at g17
  refine dd ?_;refine WP .r (PV.fa r8 rfl)<|(aZ) ku q.range<|?_;refine WP .r (PV.ic wM rfl)<|ck ?_;refine WC.loop (σ:=Nat) (dn:=fun k=>[(0,.slice a r c),(7,.slice a r c),(8,.int .i64 (r:Int)),(9,.int .i64 (i:Int)),(3,.int .i64 (i:Int)),(4,.pointer (some ⟨b4,0,none⟩)),(19,.slice q1 J V),(20,.int .i64 (J:Int)),(21,.int .i64 (k:Int))]) (I:=fun k w'=>aU [] w w'∧bR w' b4 58 [.bool aa[i].ring,.slice q1 J V,.int .i64 aa[i].final,.int .i64 aa[i].c]∧k≤J∧∀j x,j<k→aa[i].asks[j]?=some x→fm aa i aa[i].ring j x=true) (μ:=fun k=>J - k) 0 Sub.t ⟨c3,q,by omega,fun j x h=>by omega⟩ ?_;rintro k w4 ⟨c4,q,hk,O⟩;refine(aS) (fun g22=>?_) fun g22=>?_
  ·
   simp at g22
   have R:k<aa[i].asks.length:=by omega
   obtain⟨bx2,ox2,rx2,DS,_,rfl,hr2,_⟩:=(P.ext c4).at (ak R);refine eD ?_;refine WP .r (PV.dV wM DS rfl rfl (by omega))<|(aX) k9 hr2<|?_;refine WL.go rfl (OX.alloc Kz rfl fun X w5 S D=>?_);have Y:=S.ext;have Fo:=S.iG c4;have Z:b4≠X:=S.ne q.lt;have Fj:X≠b4:=Ne.symm Z;have c5:=c4.trans Y;have q:=q.ext Y;refine nx ?_;refine WL.go rfl (OX.mq ve D rfl rfl rfl rfl rfl fun w6 s6 _ D=>?_);have T:=c5.own s6 Fo;have q:=q.bW s6 (by simp [Z]);refine cm ?_;refine WC.ke (t:=63) (v:=.bool (!fm aa i aa[i].ring k aa[i].asks[k])) (aU [] w6) ?_<|?_
   ·
    refine(aX) k9 D.range<|?_;refine WP .r (PV.fa zB rfl)<|(aZ) aO D.range<|(bY) Pz (yn (x:=aa[i].asks[k]) (n:=aa[i].asks[k].n) (hr.ext T) G) ?_;rintro _ w7 ⟨rfl,F⟩;have K:=T.trans F;have q:=q.ext F;have D:=D.ext F;refine(de) (fun l=>?_) (fun l=>?_)
    ·
     refine aW ?_;refine aW ?_;exact(bZ) (by unfold fm;simp at l;first | (simp [l];done) | (exfalso;simp_all;done) | (simp_all;done) | (simp [l];rw [Bool.eq_iff_iff];simp;done) | (simp [l];rw [Bool.eq_iff_iff];simp;omega) | (simp [l];omega) | (simp_all;omega)) F
    refine WP .r (PV.fa qE rfl)<|(aZ) dA D.range<|(de) (fun o=>?_) (fun o=>?_)
    ·
     refine WP .r (PV.fa kx rfl)<|(aZ) dA q.range<|(de) (fun y=>?_) (fun y=>?_)
     ·
      refine aW ?_;refine aW ?_;exact(bZ) (by unfold fm;simp at l o y;first | (simp [l,o,y];done) | (exfalso;simp_all;done) | (simp_all;done) | (simp [l,o,y];rw [Bool.eq_iff_iff];simp;done) | (simp [l,o,y];rw [Bool.eq_iff_iff];simp;omega) | (simp [l,o,y];omega) | (simp_all;omega)) F
     refine(de) (fun C=>?_) (fun C=>?_)
     ·
      refine aW ?_;exact(bZ) (by unfold fm;simp at l o y C;first | (simp [l,o,y,C];done) | (exfalso;simp_all;done) | (simp_all;done) | (simp [l,o,y,C];rw [Bool.eq_iff_iff];simp;done) | (simp [l,o,y,C];rw [Bool.eq_iff_iff];simp;omega) | (simp [l,o,y,C];omega) | (simp_all;omega)) F
     refine(aX) k9 D.range<|?_;refine WP .r (PV.fa qF rfl)<|(aZ) aO D.range<|(bY) Pz (yn (x:=aa[i].asks[k]) (n:=aa[i].asks[k].D4) (hr.ext K) G) ?_;rintro _ w8 ⟨rfl,H⟩;have c8:=K.trans H;have q:=q.ext H;have D:=D.ext H;refine(de) (fun E=>?_) (fun E=>?_)
     ·
      exact(bZ) (by unfold fm;simp at l o y C E;first | (simp [l,o,y,C,E];done) | (exfalso;simp_all;done) | (simp_all;done) | (simp [l,o,y,C,E];rw [Bool.eq_iff_iff];simp;done) | (simp [l,o,y,C,E];rw [Bool.eq_iff_iff];simp;omega) | (simp [l,o,y,C,E];omega) | (simp_all;omega)) (F.trans H)
     refine WP .r (PV.fa qE rfl)<|(aZ) dA D.range<|(de) (fun z=>?_) (fun z=>?_)
     ·
      refine WP .r (PV.fa qF rfl)<|(aZ) aO D.range<|?_;exact(bZ) (by unfold fm;simp at l o y C E z;first | (simp [l,o,y,C,E,z];done) | (exfalso;simp_all;done) | (simp_all;done) | (simp [l,o,y,C,E,z];rw [Bool.eq_iff_iff];simp;done) | (simp [l,o,y,C,E,z];rw [Bool.eq_iff_iff];simp;omega) | (simp [l,o,y,C,E,z];omega) | (simp_all;omega)) (F.trans H)
     exact(bZ) (by unfold fm;simp at l o y C E z;first | (simp [l,o,y,C,E,z];done) | (exfalso;simp_all;done) | (simp_all;done) | (simp [l,o,y,C,E,z];rw [Bool.eq_iff_iff];simp;done) | (simp [l,o,y,C,E,z];rw [Bool.eq_iff_iff];simp;omega) | (simp [l,o,y,C,E,z];omega) | (simp_all;omega)) (F.trans H)
    refine aW ?_;refine fH ?_;refine WP .r (PV.fa qE rfl)<|(aZ) dA D.range<|(de) (fun z=>?_) (fun z=>?_)
    ·
     refine WP .r (PV.fa qF rfl)<|(aZ) aO D.range<|?_;exact(bZ) (by unfold fm;simp at l o z;first | (simp [l,o,z];done) | (exfalso;simp_all;done) | (simp_all;done) | (simp [l,o,z];rw [Bool.eq_iff_iff];simp;done) | (simp [l,o,z];rw [Bool.eq_iff_iff];simp;omega) | (simp [l,o,z];omega) | (simp_all;omega)) F
    exact(bZ) (by unfold fm;simp at l o z;first | (simp [l,o,z];done) | (exfalso;simp_all;done) | (simp_all;done) | (simp [l,o,z];rw [Bool.eq_iff_iff];simp;done) | (simp [l,o,z];rw [Bool.eq_iff_iff];simp;omega) | (simp [l,o,z];omega) | (simp_all;omega)) F
   intro w7 F;have K:=T.trans F;have q:=q.ext F;have D:=D.ext F;refine(aS) (fun L=>?_) fun L=>?_
   ·
    simp at L
    refine aW ?_;refine(bA) ?_;exact⟨false,rfl,⟨fun h=>(by cases h),fun h=>absurd ((h.2 i _ (ak G)).2.1 k _ (ak R)) (by simp [L])⟩,K⟩
   simp at L
   refine eD ?_;refine EX.again (k+1) (Sub.k4 rfl rfl rfl rfl<|Sub.k4 rfl rfl rfl rfl<|Sub.iX rfl (by simp)<|Sub.nil) ⟨K,q,by omega,cJ R O L⟩ (by omega)
  simp at g22
  have O:∀j x,aa[i].asks[j]?=some x→fm aa i aa[i].ring j x=true:=fun j x M=>O j x (by have:=(List.getElem?_eq_some_iff.1 M).1;omega) M;refine fH ?_;refine WC.ke (t:=106) (v:=.bool (!hU aa[i])) (fun wx=>w4=wx) ?_ ?_
  ·
   refine nx ?_;refine WP .r (PV.fa kx rfl)<|(aZ) dA q.range<|(de) (fun d=>?_) (fun d=>?_)
   ·
    refine WP .r (PV.fa pF rfl)<|(aZ) aO q.range<|(de) (fun m=>?_) (fun m=>?_)
    ·
     refine aW ?_;refine aW ?_;exact(bZ) (by unfold hU;simp at d m;first | (simp [d,m];done) | (exfalso;simp_all;done) | (simp_all;done) | (simp [d,m];rw [Bool.eq_iff_iff];simp;done) | (simp [d,m];rw [Bool.eq_iff_iff];simp;omega) | (simp [d,m];omega) | (simp_all;omega)) rfl
    refine WP .r (PV.fa lj rfl)<|(aZ) aO q.range<|(de) (fun p=>?_) (fun p=>?_)
    ·
     refine aW ?_;refine aW ?_;exact(bZ) (by unfold hU;simp at d m p;first | (simp [d,m,p];done) | (exfalso;simp_all;done) | (simp_all;done) | (simp [d,m,p];rw [Bool.eq_iff_iff];simp;done) | (simp [d,m,p];rw [Bool.eq_iff_iff];simp;omega) | (simp [d,m,p];omega) | (simp_all;omega)) rfl
    refine WP .r (PV.fa lj rfl)<|(aZ) aO q.range<|(de) (fun u=>?_) (fun u=>?_)
    ·
     refine aW ?_;refine aW ?_;exact(bZ) (by unfold hU;simp at d m p u;first | (simp [d,m,p,u];done) | (exfalso;simp_all;done) | (simp_all;done) | (simp [d,m,p,u];rw [Bool.eq_iff_iff];simp;done) | (simp [d,m,p,u];rw [Bool.eq_iff_iff];simp;omega) | (simp [d,m,p,u];omega) | (simp_all;omega)) rfl
    refine WP .r (PV.fa kx rfl)<|(aZ) dA q.range<|(de) (fun f=>?_) (fun f=>?_)
    ·
     refine WP .r (PV.fa pF rfl)<|(aZ) aO q.range<|(de) (fun g=>?_) (fun g=>?_)
     ·
      refine aW ?_;exact(bZ) (by unfold hU;simp at d m p u f g;first | (simp [d,m,p,u,f,g];done) | (exfalso;simp_all;done) | (simp_all;done) | (simp [d,m,p,u,f,g];rw [Bool.eq_iff_iff];simp;done) | (simp [d,m,p,u,f,g];rw [Bool.eq_iff_iff];simp;omega) | (simp [d,m,p,u,f,g];omega) | (simp_all;omega)) rfl
     refine WP .r (PV.fa pF rfl)<|(aZ) aO q.range<|(de) (fun s=>?_) (fun s=>?_)
     ·
      exact(bZ) (by unfold hU;simp at d m p u f g s;first | (simp [d,m,p,u,f,g,s];done) | (exfalso;simp_all;done) | (simp_all;done) | (simp [d,m,p,u,f,g,s];rw [Bool.eq_iff_iff];simp;done) | (simp [d,m,p,u,f,g,s];rw [Bool.eq_iff_iff];simp;omega) | (simp [d,m,p,u,f,g,s];omega) | (simp_all;omega)) rfl
     refine WP .r (PV.fa lj rfl)<|(aZ) aO q.range<|(de) (fun B=>?_) (fun B=>?_)
     ·
      exact(bZ) (by unfold hU;simp at d m p u f g s B;first | (simp [d,m,p,u,f,g,s,B];done) | (exfalso;simp_all;done) | (simp_all;done) | (simp [d,m,p,u,f,g,s,B];rw [Bool.eq_iff_iff];simp;done) | (simp [d,m,p,u,f,g,s,B];rw [Bool.eq_iff_iff];simp;omega) | (simp [d,m,p,u,f,g,s,B];omega) | (simp_all;omega)) rfl
     refine WP .r (PV.fa lj rfl)<|(aZ) aO q.range<|?_;exact(bZ) (by unfold hU;simp at d m p u f g s B;first | (simp [d,m,p,u,f,g,s,B];done) | (exfalso;simp_all;done) | (simp_all;done) | (simp [d,m,p,u,f,g,s,B];rw [Bool.eq_iff_iff];simp;done) | (simp [d,m,p,u,f,g,s,B];rw [Bool.eq_iff_iff];simp;omega) | (simp [d,m,p,u,f,g,s,B];omega) | (simp_all;omega)) rfl
    refine aW ?_;exact(bZ) (by unfold hU;simp at d m p u f;first | (simp [d,m,p,u,f];done) | (exfalso;simp_all;done) | (simp_all;done) | (simp [d,m,p,u,f];rw [Bool.eq_iff_iff];simp;done) | (simp [d,m,p,u,f];rw [Bool.eq_iff_iff];simp;omega) | (simp [d,m,p,u,f];omega) | (simp_all;omega)) rfl
   refine aW ?_;refine cm ?_;refine WP .r (PV.fa kx rfl)<|(aZ) dA q.range<|(de) (fun f=>?_) (fun f=>?_)
   ·
    refine WP .r (PV.fa pF rfl)<|(aZ) aO q.range<|(de) (fun g=>?_) (fun g=>?_)
    ·
     refine aW ?_;exact(bZ) (by unfold hU;simp at d f g;first | (simp [d,f,g];done) | (exfalso;simp_all;done) | (simp_all;done) | (simp [d,f,g];rw [Bool.eq_iff_iff];simp;done) | (simp [d,f,g];rw [Bool.eq_iff_iff];simp;omega) | (simp [d,f,g];omega) | (simp_all;omega)) rfl
    refine WP .r (PV.fa pF rfl)<|(aZ) aO q.range<|(de) (fun s=>?_) (fun s=>?_)
    ·
     exact(bZ) (by unfold hU;simp at d f g s;first | (simp [d,f,g,s];done) | (exfalso;simp_all;done) | (simp_all;done) | (simp [d,f,g,s];rw [Bool.eq_iff_iff];simp;done) | (simp [d,f,g,s];rw [Bool.eq_iff_iff];simp;omega) | (simp [d,f,g,s];omega) | (simp_all;omega)) rfl
    refine WP .r (PV.fa lj rfl)<|(aZ) aO q.range<|(de) (fun B=>?_) (fun B=>?_)
    ·
     exact(bZ) (by unfold hU;simp at d f g s B;first | (simp [d,f,g,s,B];done) | (exfalso;simp_all;done) | (simp_all;done) | (simp [d,f,g,s,B];rw [Bool.eq_iff_iff];simp;done) | (simp [d,f,g,s,B];rw [Bool.eq_iff_iff];simp;omega) | (simp [d,f,g,s,B];omega) | (simp_all;omega)) rfl
    refine WP .r (PV.fa lj rfl)<|(aZ) aO q.range<|?_;exact(bZ) (by unfold hU;simp at d f g s B;first | (simp [d,f,g,s,B];done) | (exfalso;simp_all;done) | (simp_all;done) | (simp [d,f,g,s,B];rw [Bool.eq_iff_iff];simp;done) | (simp [d,f,g,s,B];rw [Bool.eq_iff_iff];simp;omega) | (simp [d,f,g,s,B];omega) | (simp_all;omega)) rfl
   refine aW ?_;exact(bZ) (by unfold hU;simp at d f;first | (simp [d,f];done) | (exfalso;simp_all;done) | (simp_all;done) | (simp [d,f];rw [Bool.eq_iff_iff];simp;done) | (simp [d,f];rw [Bool.eq_iff_iff];simp;omega) | (simp [d,f];omega) | (simp_all;omega)) rfl
  rintro _ rfl;refine(aS) (fun N=>?_) fun N=>?_
  ·
   simp at N
   refine(bA) ?_;exact⟨false,rfl,⟨fun h=>(by cases h),fun h=>absurd (h.2 i _ (ak G)).2.2 (by simp [N])⟩,c4⟩
  simp at N
  refine eD ?_;refine EX.again (i+1) (Sub.k2 rfl rfl<|Sub.cons rfl<|Sub.iX rfl (by simp)<|Sub.nil) ⟨c4,by omega,cJ G U ⟨by omega,O,N⟩⟩ (by omega)
 simp at g10
 have ig:∀j x,aa[j]?=some x→lT aa j x:=fun j x M=>U j x (by have:=(List.getElem?_eq_some_iff.1 M).1;omega) M;refine gK ?_;refine WP .r (PV.ic iU rfl)<|(bA) ?_;exact⟨_,rfl,⟨fun h=>⟨by simp at h;omega,ig⟩,fun h=>by have:=h.1;simp;omega⟩,c1⟩
set_option maxHeartbeats 400000
theorem Ct :CR prog 6 #[.slice a n c] w (.bool (decide (n≤400))):=by
 refine enter func6 rfl ntmps6 rfl<|?_;have c0:aU [] w w:=aU.refl _ _;refine gK ?_;refine WP .r (PV.ic E7 rfl)<|(bA) ?_;exact⟨by congr 2;exact decide_eq_decide.2 (by omega),c0⟩
theorem Fp{l:List Int}(hl:Ints A w a n c l) (f:n≤400):Calls prog 8 #[.slice a n c] w fun e w'=>∃d,e=.returned (.pointer (some ⟨d,0,none⟩))∧w.heap.size≤d∧Ea A w' 70 d∧aU [] w w':=by
 refine enter func8 rfl ntmps8 rfl<|?_;have c0:aU [] w w:=aU.refl _ _;refine gK ?_;refine WP .r (PV.bC (us:=[.slice a n c,.int .i64 0]) adg rfl rfl rfl)<|?_;refine WL.go rfl (OX.box rfl rfl rfl fun b5 w1 b g=>?_);have s1:=b.ext;have h:=b.iG c0;have c1:=c0.trans s1;refine(bA) ?_;exact⟨_,rfl,h,⟨l,a,n,c,0,g,SR.ext hl c1,f,by omega⟩,c1⟩
theorem Fq{m:Int}{d:Nat}(o:Ea A w 70 d) (f:¬A d) (hm:m≤4611686018427387904):Calls prog 23 #[.pointer (some ⟨d,0,none⟩),.int .i64 m] w fun e w'=>∃z:Int,e=.returned (.int .i64 z)∧0≤z∧(1≤m→z<m)∧aU [d] w w'∧Ea A w' 70 d:=by
 obtain⟨l,a,n,c,t,hb,hl,i,p⟩:=o;have hlen:=SR.len hl;refine enter func23 rfl ntmps23 rfl<|?_;have c0:aU [d] w w:=aU.refl _ _;refine eD ?_;refine WC.drawn (m:=9) (C:=aU [] w) (T:=fun _=>aU []) (E:=cF []) (bj (trivial)) mixed (by kernel_rfl) (aU.drew _ _)<|bO ?_;refine DP .r (fun _ b=>PV.fa zA rfl)<|DP .r (fun _ b=>PV.ld1 aO (hb.ext b).range rfl rfl)<|bO ?_;refine DP .r (fun _ b=>PV.fa KA rfl)<|DP .r (fun _ b=>PV.ld1 Pk (hb.ext b).range rfl rfl)<|DP .r (fun _ b=>PV.ic E7 rfl)<|(cS)<|?_;rintro w1 s1 _;have c1:=c0.trans s1.nil;have hb:=hb.ext s1;refine(aS) (fun g14=>?_) fun g14=>?_
 ·
  skip
  refine(bA) ?_;exact⟨0,rfl,by omega,fun h=>by omega,c1,l,a,n,c,t,hb,SR.bW hl c1 (by simpa using f) (fun _ _ h=>h),i,p⟩
 simp at g14
 obtain⟨v,x,y,q,_,s,g,u⟩:=SR.at hl (ak (show t<l.length by omega));subst s;refine fH ?_;refine WP .r (PV.fa zA rfl)<|(aZ) aO hb.range<|bO ?_;refine WP .r (PV.fa zA rfl)<|?_;refine WL.go rfl (OX.st G1 hb rfl rfl (by first | (simp [nth];done) | exact Vz rfl) rfl rfl fun w2 s2 _ hb=>?_);have c2:=c1.trans s2;refine cm ?_;have g:=a7 g c2 (by simp;rintro rfl;exact f u);refine WC.drawn (m:=12) (C:=aU [] w2) (T:=fun _=>aU []) (E:=cF []) (bj (trivial)) mixed (by kernel_rfl) (aU.drew _ _)<|bO ?_;refine DP .r (fun _ b=>PV.fa KA rfl)<|DP .r (fun _ b=>PV.ld1 Pk (hb.ext b).range rfl rfl)<|bO ?_;refine DP .r (fun _ b=>PV.fa zA rfl)<|DP .r (fun _ b=>PV.ld1 aO (hb.ext b).range rfl rfl)<|nx ?_;refine DP .r (fun _ b=>PV.D3 E7 (t) q rfl rfl (by omega) (by omega))<|DP .r (fun _ b=>PV.mn aO (a7 g b (by simp)) rfl rfl)<|(cS) ?_;rintro w3 j _;have c3:=c2.trans j.nil;have hb:=hb.ext j;refine(bY) adR (H8 (n:=l[t]) (m:=m) (by omega)) ?_;rintro _ w4 ⟨rfl,k⟩;have c4:=c3.trans k.nil;have hb:=hb.ext k;refine(bA) ?_;refine⟨_,rfl,?_,?_,c4,l,a,n,c,t+1,?_,SR.bW hl c4 (by simpa using f) (fun _ _ h=>h),i,by omega⟩
 ·
  split
  ·
   omega
  exact Int.emod_nonneg _ (by omega)
 ·
  intro h;rw [if_neg (by omega)];exact Int.emod_lt_of_pos _ (by omega)
 exact hb
def words:List ByteArray:=[⟨#[48]⟩,⟨#[49]⟩,⟨#[50]⟩,⟨#[51]⟩,⟨#[55]⟩,⟨#[49,48,48]⟩,⟨#[]⟩,⟨#[120]⟩,⟨#[49,54]⟩,⟨#[49]⟩]
theorem KS:∀s∈words,s.size≤100:=by decide
end Go.Rc

