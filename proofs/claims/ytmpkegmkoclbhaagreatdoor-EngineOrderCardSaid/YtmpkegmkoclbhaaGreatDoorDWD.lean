/- Walks over the program, part WD. Conditions: as each theorem says. -/
import Derived.Test.YtmpkegmkoclbhaaGreatDoorDFacts
import Derived.Test.YtmpkegmkoclbhaaGreatDoorDWB
import Derived.Test.YtmpkegmkoclbhaaGreatDoorDBb
set_option linter.all false
namespace Go.Rc
open Go Go.Proofs Go.Proofs.Tryz
variable {aa:List aH}{A:Nat→Prop}{a:Option Addr}{r c n:Nat}{w:World}
set_option maxHeartbeats 400000
theorem yf{i:Nat}{x:Ask}{n:Int}(hr:fP A w a r c aa) (hi:i<aa.length):CR prog 177 #[.slice a r c,.int .i64 (i:Int),x.val,.int .i64 n] w (.bool (gB aa i x.cell n)):=by
 have hle:=hr.le;have hlen:=hr.len;have g:=bW hi;refine enter func177 rfl ntmps177 rfl<|?_;have c0:aT [] w w:=aT.refl _ _;refine bO ?_;refine WL.go rfl (OX.box rfl rfl rfl fun l w1 h f=>?_);have s1:=h.ext;have m:=h.iI c0;have c1:=c0.trans s1;refine fL ?_;refine WP .r (PV.fa zq rfl)<|(a7) dH f.range<|(aS) (fun g12=>?_) fun g12=>?_
 ·
  refine nx ?_;refine WC.lA (t:=8) (v:=.bool (decide (0≤n) && decide (n≤15))) (fun d=>w1=d) ?_ ?_
  ·
   refine(db) (fun g15=>?_) (fun g15=>?_)
   ·
    exact(gH) (by simp only [g15];first | rfl | simp) rfl
   exact(gH) (by simp only [g15];first | rfl | simp) rfl
  rintro _ rfl;refine(bz) ?_;exact⟨by unfold gB;rw [if_pos g12],c1⟩
 refine(bY) WQ (sO (n:=(i:Int)) (hr.ext c1)) ?_;rintro _ w2 ⟨rfl,s2⟩;have c2:=c1.trans s2;have f:=f.ext s2;refine kS ?_;obtain⟨b1,o,r1,j,_,⟨q1,p,q,rfl,_⟩,k,_⟩:=(hr.ext c2).at (ak hi);refine cq ?_;refine WP .r (PV.dU jk j rfl rfl (by omega))<|WP .r (PV.fa ky rfl)<|(a7) dH k<|(aS) (fun e=>?_) fun e=>?_
 ·
  have ht:fD aa i=(block aa i).1:=by unfold fD;rw [g];simp at e;rw [e];rfl
  refine fL ?_;refine WC.lA (t:=8) (v:=.bool (decide (0≤n) && decide (n<fD aa i))) (fun d=>w2=d) ?_ ?_
  ·
   refine(db) (fun b=>?_) (fun b=>?_)
   ·
    exact(gH) (by simp only [ht,b];first | rfl | simp) rfl
   exact(gH) (by simp only [ht,b];first | rfl | simp) rfl
  rintro _ rfl;refine(bz) ?_;exact⟨by unfold gB;rw [g12];rfl,c2⟩
 have ht:fD aa i=(block aa i).2:=by unfold fD;rw [g];simp at e;rw [e];rfl
 refine cq ?_;refine WC.lA (t:=8) (v:=.bool (decide (0≤n) && decide (n<fD aa i))) (fun d=>w2=d) ?_ ?_
 ·
  refine(db) (fun b=>?_) (fun b=>?_)
  ·
   exact(gH) (by simp only [ht,b];first | rfl | simp) rfl
  exact(gH) (by simp only [ht,b];first | rfl | simp) rfl
 rintro _ rfl;refine(bz) ?_;exact⟨by unfold gB;rw [g12];rfl,c2⟩
theorem ve{s:ByteArray} :CR prog 250 #[.string s] w (.int .i64 (cD s:Int)):=by
 refine enter func250 rfl ntmps250 rfl<|?_;have c0:aT [] w w:=aT.refl _ _;refine(bY) Pb (oN (s:=s)) ?_;rintro _ w1 ⟨rfl,s1⟩;have c1:=c0.trans s1;refine dd ?_;refine WC.ke (t:=11) (v:=.bool (decide (dP s<0) || decide (65535<dP s))) (fun d=>w1=d) ?_ ?_
 ·
  refine(db) (fun g8=>?_) (fun g8=>?_)
  ·
   exact(cA) (by simp only [g8];first | rfl | simp) rfl
  exact(cA) (by simp only [g8];first | rfl | simp) rfl
 rintro _ rfl;refine(aS) (fun g11=>?_) fun g11=>?_
 ·
  simp at g11
  have b:cD s=0:=by unfold cD;rw [if_pos g11]
  refine(bz) ?_;rw [b];exact⟨rfl,c1⟩
 simp at g11
 have b:(cD s:Int)=dP s:=by unfold cD;rw [if_neg (by omega)];omega
 refine(bz) ?_;rw [b];exact⟨rfl,c1⟩
theorem Ck{l:List ByteArray}{ring:Bool}{a1:Option Addr}{n1 e1:Nat}{fin:Int}{d:Nat}(hl:Strs A w a r c l) (hc:d≤65535) (J:r≤1000):CR prog 249 #[.agg #[.bool ring,.slice a1 n1 e1,.int .i64 fin,.int .i64 (d:Int)],.slice a r c] w (.int .i64 (dq fin d (l.map cD):Int)):=by
 have hlen:=hl.len
 have k:∀x∈l.map cD,x≤65535:=fun x o=>by obtain⟨s,_,rfl⟩:=List.mem_map.1 o;exact kJ s
 have p:∀i,∀x∈(l.map cD).take i,x≤65535:=fun i x o=>k x (List.mem_of_mem_take o);refine enter func249 rfl ntmps249 rfl<|?_;have c0:aT [] w w:=aT.refl _ _;refine bO ?_;refine WL.go rfl (OX.box rfl rfl rfl fun b2 w1 u b=>?_);have s1:=u.ext;have K:=u.iI c0;have c1:=c0.trans s1;refine cy ?_;refine WC.drawn (m:=8) (C:=aT [] w1) (T:=fun _=>aT []) (E:=cB []) (bm (trivial)) mixed (by kernel_rfl) (aT.drew _ _)<|?_;refine DP .r (fun _ e=>PV.fa kZ rfl)<|DP .r (fun _ e=>PV.ld1 aP (b.ext e).range rfl rfl)<|DP .r (fun _ e=>PV.fa kZ rfl)<|DP .r (fun _ e=>PV.ld1 aP (b.ext e).range rfl rfl)<|DP .r (fun _ e=>PV.fa kZ rfl)<|DP .r (fun _ e=>PV.ld1 aP (b.ext e).range rfl rfl)<|(cQ) ?_;rintro w2 s2 _;have c2:=c1.trans s2;have b:=b.ext s2;refine ez ?_;refine WP .r (PV.ie oK rfl)<|cy ?_;refine WC.loop (σ:=Nat) (dn:=fun i=>[(2,.pointer (some ⟨b2,0,none⟩)),(5,.int .i64 (pU d ((l.map cD).take i):Int)),(6,.int .i64 (sr d ((l.map cD).take i):Int)),(7,.int .i64 (fc d ((l.map cD).take i):Int)),(17,.slice a r c),(18,.int .i64 (r:Int)),(19,.int .i64 (i:Int))]) (I:=fun i w'=>aT [] w w'∧bU w' b2 84 [.bool ring,.slice a1 n1 e1,.int .i64 fin,.int .i64 (d:Int)]∧i≤r) (μ:=fun i=>r - i) 0 Sub.t ⟨c2,b,by omega⟩ ?_;rintro i w3 ⟨c3,b,hi⟩;refine(aS) (fun g20=>?_) fun g20=>?_
 ·
  simp at g20
  have y:i<l.length:=by omega
  have q:i<(l.map cD).length:=by simp;omega
  have z:=tI (c:=d) (p i);have B:=nc hc (p i);have D:=lE hc (p i);have L:=kJ l[i]
  have M:((l.map cD).take i).length≤1000:=by rw [List.length_take];omega
  refine dd ?_;obtain⟨b1,N,r1,F,_,rfl,G,_⟩:=(hl.ext c3).at (ak y);refine nx ?_;refine WP .r (PV.dU oK F rfl rfl (by omega))<|WP .r (PV.mq fy G rfl rfl)<|(bY) Pv (ve (s:=l[i])) ?_;rintro _ w4 ⟨rfl,v⟩;have c4:=c3.trans v;have b:=b.ext v;refine kS ?_;refine WP .r (PV.Jd rfl rfl)<|bO ?_;refine WP .r (PV.orN rfl rfl (by omega) (by omega))<|jM ?_;refine EX.again (i+1) (Sub.cons rfl<|Sub.i1 rfl (by rw [xx q,List.getElem_map];omega)<|Sub.i1 rfl (by rw [ub q,List.getElem_map];omega)<|Sub.i1 rfl (by rw [uc q,List.getElem_map])<|Sub.k2 rfl rfl<|Sub.i1 rfl (by simp)<|Sub.nil) ⟨c4,b,by omega⟩ (by omega)
 simp at g20
 have H:(l.map cD).take i=l.map cD:=List.take_of_length_le (by simp;omega);rw [H];have z:=tI (c:=d) k;have B:=nc hc k;have D:=lE hc k
 have O:(l.map cD).length≤1000:=by rw [List.length_map];omega
 refine gV ?_;refine WP .r (PV.fa pz rfl)<|(a7) aP b.range<|(aS) (fun f=>?_) fun f=>?_
 ·
  simp at f
  refine cq ?_;refine WP .r (PV.rem rfl rfl (by omega))<|(bz) ?_;exact⟨by unfold dq;rw [if_pos f,Int.tmod_eq_emod_of_nonneg (by omega)];rfl,c3⟩
 simp at f
 refine(aS) (fun g=>?_) fun g=>?_
 ·
  simp at g
  refine cq ?_;refine WP .r (PV.quo rfl rfl (by omega) (by rw [Int.tdiv_eq_ediv_of_nonneg (by omega)];omega) (by rw [Int.tdiv_eq_ediv_of_nonneg (by omega)];omega))<|WP .r (PV.rem rfl rfl (by omega))<|(bz) ?_;exact⟨by unfold dq;rw [if_neg f,if_pos g,Int.tdiv_eq_ediv_of_nonneg (by omega),Int.tmod_eq_emod_of_nonneg (by omega)];rfl,c3⟩
 simp at g
 refine(aS) (fun h=>?_) fun h=>?_
 ·
  simp at h
  refine(bz) ?_;exact⟨by unfold dq;rw [if_neg f,if_neg g,if_pos h],c3⟩
 simp at h
 refine(aS) (fun j=>?_) fun j=>?_
 ·
  simp at j
  refine cq ?_;refine WP .r (PV.rem rfl rfl (by omega))<|(bz) ?_;exact⟨by unfold dq;rw [if_neg f,if_neg g,if_neg h,if_pos j,Int.tmod_eq_emod_of_nonneg (by omega)];rfl,c3⟩
 simp at j
 refine(bz) ?_;exact⟨by unfold dq;rw [if_neg f,if_neg g,if_neg h,if_neg j],c3⟩
theorem Fg{k:Key}{ae:List ByteArray}{B C:Nat→Prop}{a2:Option Addr}{r2 e2:Nat}(ht:lD prog A w) (hr:fP B w a r c aa) (hl:Strs C w a2 r2 e2 ae) (hb:∀x∈aa,0≤x.c∧x.c≤65535∧x.asks.length≤1000):CR prog 218 #[.slice a r c,k.val,.slice a2 r2 e2] w ((cx aa k ae).val):=by
 have hle:=hr.le;have hlen:=hr.len;have vf:=hl.len;refine enter func218 rfl ntmps218 rfl<|?_;have c0:aT [] w w:=aT.refl _ _;refine bO ?_;refine WL.go rfl (OX.box rfl rfl rfl fun b4 w1 Fh d=>?_);have s1:=Fh.ext;have vg:=Fh.iI c0;have c1:=c0.trans s1;refine WL.go rfl (OX.alloc oL rfl fun L w2 DH b=>?_);have s2:=DH.ext;have M:=DH.iI c1;have I:b4≠L:=DH.ne d.lt;have Fi:L≠b4:=Ne.symm I;have c2:=c1.trans s2;have d:=d.ext s2;refine(aZ) ao d.range<|(bY) NS (j0 (k:=k)) ?_;rintro _ w3 ⟨rfl,s3⟩;have c3:=c2.trans s3;have d:=d.ext s3;have b:=b.ext s3;refine dd ?_;refine WC.ke (t:=28) (v:=.bool (decide (number k<0) || (decide ((r:Int)≤number k) || decide (aM aa (number k)≠k)))) (aT [] w3) ?_<|?_
 ·
  refine WC.drawn (m:=13) (C:=aT [] w3) (T:=fun _=>aT []) (E:=cB [(11,fun v _=>v=(aM aa (number k)).val)]) (bm (⟨fun _ _ _ _ _ _ _ h=>h,trivial⟩)) mixed (by kernel_rfl) (aT.drew _ _)<|(oo) (fun g16=>?_) (fun g16=>?_)
  ·
   refine(cQ) ?_;rintro w4 u _;have c4:=c3.trans u;have d:=d.ext u;have b:=b.ext u;exact(cA) (by simp only [g16];first | rfl | simp) u
  refine bO ?_;refine DP .r (fun _ D=>PV.ie jk rfl)<|(oo) (fun g22=>?_) (fun g22=>?_)
  ·
   refine(cQ) ?_;rintro w4 u _;have c4:=c3.trans u;have d:=d.ext u;have b:=b.ext u;exact(cA) (by simp only [g16,g22];first | rfl | simp) u
  refine bO ?_;refine DW.e rfl rfl rfl rfl rfl (fun wx D hF=>OX.call zt rfl rfl ((gS (n:=number k) (hr.ext (c3.trans D))).mono ?_))<|?_
  ·
   rintro _ wy ⟨rfl,hy⟩;exact⟨_,rfl,D.trans hy,hy,_,rfl,rfl⟩
  rintro _ wz _ rfl;refine DP .r (fun _ D=>PV.G7 ao (d.ext D).range rfl rfl)<|(cQ)<|?_;rintro w4 u _;have c4:=c3.trans u;have d:=d.ext u;have b:=b.ext u;refine WP .r (PV.LG fI (p:=aM aa (number k)) (q:=k) rfl rfl)<|?_;exact(cA) (by simp only [g16,g22];first | rfl | simp) u
 intro w4 u;have c4:=c3.trans u;have d:=d.ext u;have b:=b.ext u;refine(aS) (fun R=>?_) fun R=>?_
 ·
  simp at R
  have z:=Jg (ae:=ae) (show number k<0∨(aa.length:Int)≤number k∨aM aa (number k)≠k by rw [← hlen];exact R);refine bO ?_;refine WP .r (PV.bB (us:=[.bool true,.string ⟨#[]⟩,.int .i64 0,.string ⟨#[]⟩]) mB rfl rfl rfl)<|?_;refine WL.go rfl (OX.mr gE b rfl rfl rfl rfl rfl fun w5 N _ b=>?_);have c5:=c4.own N M;have d:=d.bX N (by simp [I]);refine(kT) iR b.range<|?_;rw [z];exact⟨rfl,c5⟩
 simp at R
 obtain⟨g1,g2,g3⟩:=R;obtain⟨i,wv⟩:∃i:Nat,number k=i:=⟨(number k).toNat,by omega⟩
 have hi:i<aa.length:=by omega
 obtain⟨Fj,wJ,wK⟩:=hb _ (List.getElem_mem hi);obtain⟨S,X6⟩:∃S:Nat,aa[i].c=S:=⟨aa[i].c.toNat,by omega⟩;refine cq ?_;obtain⟨bx1,ox1,rx1,Fk,_,⟨q1,q2,q3,rfl,Cl⟩,Z,_⟩:=hr.at (ak hi);have Z:=aW Z c4 (by simp);rw [X6] at Z;have yg:=Cl.len;refine cq ?_;refine WP .r (PV.DU jk (i) Fk rfl rfl (by omega) (by omega))<|(aZ) sM Z<|nx ?_;refine WP .r (PV.ie oK rfl)<|?_;refine WL.go rfl (OX.alloc Nl rfl fun O w5 LK f=>?_);have N:=LK.ext;have Ss:=LK.iI c4;have vh:b4≠O:=LK.ne d.lt;have Fl:O≠b4:=Ne.symm vh;have vi:L≠O:=LK.ne b.lt;have U:O≠L:=Ne.symm vi;have c5:=c4.trans N;have d:=d.ext N;have b:=b.ext N;refine WL.go rfl (OX.mr E4 f rfl rfl rfl rfl rfl fun w6 s6 _ f=>?_);have V:=c5.own s6 Ss;have d:=d.bX s6 (by simp [vh]);have b:=b.bX s6 (by simp [vi]);refine ez ?_;refine WP .r (PV.fa rS rfl)<|(a7) kx f.range<|?_;refine WP .r (PV.ie wI rfl)<|(aS) (fun LL=>?_) fun LL=>?_
 ·
  simp at LL
  have z:=j9 (ae:=ae) wv hi g3 (by omega);rw [← yg,X6,Int.toNat_natCast] at z;have X7:=n9 (kind:=aa[i].final) (c:=S) (l:=(ae.take q2).map cD) (by omega) (fun x hx=>by obtain⟨s,_,rfl⟩:=List.mem_map.1 hx;exact kJ s);refine nx ?_;refine WC.drawn (m:=6) (C:=aT [] w6) (T:=fun _=>aT []) (E:=cB []) (bm (trivial)) mixed (by kernel_rfl) (aT.drew _ _)<|?_;refine DP .r (fun _ D=>PV.G7 sM (f.ext D).range rfl rfl)<|nx ?_;refine DP .r (fun _ D=>PV.fa rS rfl)<|DP .r (fun _ D=>PV.ld1 kx (f.ext D).range rfl rfl)<|DP .r (fun _ D=>PV.ie wI rfl)<|DP .r (fun _ D=>PV.mZ oK (hl.ext (V.trans D)) rfl rfl (by omega))<|(cQ)<|?_;rintro w7 F _;have c7:=V.trans F;have d:=d.ext F;have b:=b.ext F;have f:=f.ext F;refine(bY) X1 (Ck (SR.take (hl.ext c7) (by omega)) (show S≤65535 by omega) (by omega)) ?_;rintro _ w8 ⟨rfl,G⟩;have P:=c7.trans G;have d:=d.ext G;have b:=b.ext G;have f:=f.ext G;refine(bY) NR (ma (ht.ext P) (by omega) (by omega)) ?_;rintro _ w9 ⟨rfl,y⟩;have c9:=P.trans y;have d:=d.ext y;have b:=b.ext y;have f:=f.ext y;refine WP .r (PV.bB (us:=[.bool true,.string (itoa ((dq aa[i].final S ((ae.take q2).map cD)):Int)),.int .i64 0,.string ⟨#[]⟩]) mB rfl rfl rfl)<|?_;refine WL.go rfl (OX.mr gE b rfl rfl rfl rfl rfl fun iT g _ b=>?_);have H:=c9.own g M;have d:=d.bX g (by simp [I]);have f:=f.bX g (by simp [U]);refine(kT) iR b.range<|?_;rw [z];exact⟨rfl,H⟩
 simp at LL
 have hn:r2<aa[i].asks.length:=by omega
 have z:=jc (ae:=ae) wv hi g3 (by omega);simp only [← vf] at z;refine cq ?_;obtain⟨bx2,ox2,rx2,DI,_,rfl,hr2,_⟩:=(Cl.ext V).at (ak hn);refine nx ?_;refine WP .r (PV.fa rS rfl)<|(a7) kx f.range<|nx ?_;refine WP .r (PV.dU wI DI rfl rfl (by omega))<|(aZ) oJ hr2<|?_;refine WL.go rfl (OX.alloc RZ rfl fun Q w7 W j=>?_);have F:=W.ext;have zx:=W.iI V;have sP:b4≠Q:=W.ne d.lt;have Cm:Q≠b4:=Ne.symm sP;have sQ:L≠Q:=W.ne b.lt;have kO:Q≠L:=Ne.symm sQ;have sR:O≠Q:=W.ne f.lt;have Pw:Q≠O:=Ne.symm sR;have c7:=V.trans F;have d:=d.ext F;have b:=b.ext F;have f:=f.ext F;refine WL.go rfl (OX.mr E1 j rfl rfl rfl rfl rfl fun w8 G _ j=>?_);have P:=c7.own G zx;have d:=d.bX G (by simp [sP]);have b:=b.bX G (by simp [sQ]);have f:=f.bX G (by simp [sR]);refine cy ?_;refine WP .r (PV.fa E9 rfl)<|(a7) aP j.range<|dd ?_;refine WC.ke (t:=72) (v:=.bool (fm aa[i].asks[r2] ae)) (aT [] w8) ?_<|?_
 ·
  refine nx ?_;refine WP .r (PV.fa u2 rfl)<|(a7) dH j.range<|(db) (fun g59=>?_) (fun g59=>?_)
  ·
   refine(db) (fun Su=>?_) (fun Su=>?_)
   ·
    have X:fm aa[i].asks[r2] ae=true:=by unfold fm;rw [g59,← vf];simp at Su;simp [Su]
    exact(cA) (by rw [X]) (aT.refl _ _)
   simp at Su
   obtain⟨bx3,ox3,rx3,X8,_,rfl,hr3,_⟩:=(hl.ext P).at (ak (show r2 - 1<ae.length by omega))
   have X:fm aa[i].asks[r2] ae=decide ((cD ae[r2 - 1]:Int).tmod 2=0):=by
    unfold fm
    simp only [g59,← vf,Bool.true_and];rw [decide_eq_false (by omega),Bool.false_or,getElem!_pos ae (r2 - 1) (by omega),Int.tmod_eq_emod_of_nonneg (by omega)]
    congr 1
    exact propext ⟨fun h=>by omega,fun h=>by omega⟩
   refine cq ?_;refine WP .r (PV.DU oK (r2 - 1) X8 rfl rfl (by omega) (by omega))<|WP .r (PV.mq fy hr3 rfl rfl)<|(bY) Pv (ve (s:=ae[r2 - 1])) ?_;rintro _ w9 ⟨rfl,y⟩;have c9:=P.trans y;have d:=d.ext y;have b:=b.ext y;have f:=f.ext y;have j:=j.ext y;refine WP .r (PV.rem rfl rfl (by omega))<|?_;exact(cA) (by rw [X]) y
  have X:fm aa[i].asks[r2] ae=false:=by unfold fm;rw [g59];rfl
  refine aY ?_;exact(cA) (by rw [X]) (aT.refl _ _)
 intro w9 y;have c9:=P.trans y;have d:=d.ext y;have b:=b.ext y;have f:=f.ext y;have j:=j.ext y;refine(aS) (fun g72=>?_) fun g72=>?_
 ·
  have Y:oZ aa[i].asks[r2] ae=aa[i].asks[r2].DV:=by unfold oZ;rw [if_pos g72]
  refine nx ?_;refine WP .r (PV.fa u4 rfl)<|(a7) aP j.range<|fL ?_;refine WP .r (PV.fa zq rfl)<|(a7) dH j.range<|(aS) (fun J=>?_) fun J=>?_
  ·
   rw [Y,if_pos J] at z;refine(bY) NN (jm) ?_;rintro _ iT ⟨rfl,g⟩;have H:=c9.trans g;have d:=d.ext g;have b:=b.ext g;have f:=f.ext g;have j:=j.ext g;refine WP .r (PV.bB (us:=[.bool false,.string ⟨#[]⟩,.int .i64 (cF _).kind,.string (cF _).text]) mB rfl rfl rfl)<|?_;refine WL.go rfl (OX.mr gE b rfl rfl rfl rfl rfl fun iY o _ b=>?_);have K:=H.own o M;have d:=d.bX o (by simp [I]);have f:=f.bX o (by simp [U]);have j:=j.bX o (by simp [kO]);refine(kT) iR b.range<|?_;rw [z];exact⟨rfl,K⟩
  rw [Y,if_neg (by simp [J])] at z;refine(bY) zt (gS (hr.ext c9)) ?_;rintro _ iT ⟨rfl,g⟩;have H:=c9.trans g;have d:=d.ext g;have b:=b.ext g;have f:=f.ext g;have j:=j.ext g;refine WP .r (PV.bB (us:=[.bool false,.string ⟨#[]⟩,.int .i64 (aM aa _).kind,.string (aM aa _).text]) mB rfl rfl rfl)<|?_;refine WL.go rfl (OX.mr gE b rfl rfl rfl rfl rfl fun iY o _ b=>?_);have K:=H.own o M;have d:=d.bX o (by simp [I]);have f:=f.bX o (by simp [U]);have j:=j.bX o (by simp [kO]);refine(kT) iR b.range<|?_;rw [z];exact⟨rfl,K⟩
 have Y:oZ aa[i].asks[r2] ae=aa[i].asks[r2].n:=by unfold oZ;rw [if_neg (by simp [g72])]
 refine dd ?_;refine WP .r (PV.fa zq rfl)<|(a7) dH j.range<|(aS) (fun J=>?_) fun J=>?_
 ·
  rw [Y,if_pos J] at z;refine(bY) NN (jm) ?_;rintro _ iT ⟨rfl,g⟩;have H:=c9.trans g;have d:=d.ext g;have b:=b.ext g;have f:=f.ext g;have j:=j.ext g;refine WP .r (PV.bB (us:=[.bool false,.string ⟨#[]⟩,.int .i64 (cF _).kind,.string (cF _).text]) mB rfl rfl rfl)<|?_;refine WL.go rfl (OX.mr gE b rfl rfl rfl rfl rfl fun iY o _ b=>?_);have K:=H.own o M;have d:=d.bX o (by simp [I]);have f:=f.bX o (by simp [U]);have j:=j.bX o (by simp [kO]);refine(kT) iR b.range<|?_;rw [z];exact⟨rfl,K⟩
 rw [Y,if_neg (by simp [J])] at z;refine(bY) zt (gS (hr.ext c9)) ?_;rintro _ iT ⟨rfl,g⟩;have H:=c9.trans g;have d:=d.ext g;have b:=b.ext g;have f:=f.ext g;have j:=j.ext g;refine WP .r (PV.bB (us:=[.bool false,.string ⟨#[]⟩,.int .i64 (aM aa _).kind,.string (aM aa _).text]) mB rfl rfl rfl)<|?_;refine WL.go rfl (OX.mr gE b rfl rfl rfl rfl rfl fun iY o _ b=>?_);have K:=H.own o M;have d:=d.bX o (by simp [I]);have f:=f.bX o (by simp [U]);have j:=j.bX o (by simp [kO]);refine(kT) iR b.range<|?_;rw [z];exact⟨rfl,K⟩
theorem Cn(hr:fP A w a r c aa):Calls prog 125 #[.slice a r c] w fun e w'=>∃b:Bool,e=.returned (.bool b)∧(b=true↔aq aa)∧aT [] w w':=by
 have hle:=hr.le;have hlen:=hr.len;refine enter func125 rfl ntmps125 rfl<|?_;have c0:aT [] w w:=aT.refl _ _;refine kS ?_;refine WP .r (PV.ie jk rfl)<|cy ?_;refine WC.loop (σ:=Nat) (dn:=fun i=>[(0,.slice a r c),(7,.slice a r c),(8,.int .i64 (r:Int)),(9,.int .i64 (i:Int))]) (I:=fun i w'=>aT [] w w'∧i≤r∧∀j x,j<i→aa[j]?=some x→lT aa j x) (μ:=fun i=>r - i) 0 Sub.t ⟨c0,by omega,fun j x h=>by omega⟩ ?_;rintro i w1 ⟨c1,hi,U⟩;refine(aS) (fun g10=>?_) fun g10=>?_
 ·
  simp at g10
  have G:i<aa.length:=by omega
  obtain⟨bx1,ox1,rx1,Fk,_,⟨q1,J,V,rfl,P⟩,Q,_⟩:=hr.at (ak G);have yg:=P.len;have hq:=P.le;refine dd ?_;have Q:=aW Q c1 (by simp);refine bO ?_;refine WP .r (PV.dU jk Fk rfl rfl (by omega))<|(aZ) sM Q<|?_;refine WL.go rfl (OX.alloc Nl rfl fun b4 w2 W q=>?_);have s2:=W.ext;have vg:=W.iI c1;have c2:=c1.trans s2;refine nx ?_;refine WL.go rfl (OX.mr E4 q rfl rfl rfl rfl rfl fun w3 s3 _ q=>?_);have c3:=c2.own s3 vg;refine dd ?_;refine WP .r (PV.fa rS rfl)<|(a7) kx q.range<|?_;refine WP .r (PV.ie wI rfl)<|(aS) (fun g17=>?_) fun g17=>?_
  ·
   simp at g17
   refine(bz) ?_;exact⟨false,rfl,⟨fun h=>(by cases h),fun h=>absurd (h.2 i _ (ak G)).1 (by omega)⟩,c3⟩
  simp at g17
  refine dd ?_;refine WP .r (PV.fa rS rfl)<|(a7) kx q.range<|?_;refine WP .r (PV.ie wI rfl)<|cy ?_;refine WC.loop (σ:=Nat) (dn:=fun k=>[(0,.slice a r c),(7,.slice a r c),(8,.int .i64 (r:Int)),(9,.int .i64 (i:Int)),(3,.int .i64 (i:Int)),(4,.pointer (some ⟨b4,0,none⟩)),(19,.slice q1 J V),(20,.int .i64 (J:Int)),(21,.int .i64 (k:Int))]) (I:=fun k w'=>aT [] w w'∧bU w' b4 84 [.bool aa[i].ring,.slice q1 J V,.int .i64 aa[i].final,.int .i64 aa[i].c]∧k≤J∧∀j x,j<k→aa[i].asks[j]?=some x→fo aa i aa[i].ring j x=true) (μ:=fun k=>J - k) 0 Sub.t ⟨c3,q,by omega,fun j x h=>by omega⟩ ?_;rintro k w4 ⟨c4,q,hk,O⟩;refine(aS) (fun g22=>?_) fun g22=>?_
  ·
   simp at g22
   have R:k<aa[i].asks.length:=by omega
   obtain⟨bx2,ox2,rx2,DI,_,rfl,hr2,_⟩:=(P.ext c4).at (ak R);refine ez ?_;refine WP .r (PV.dU wI DI rfl rfl (by omega))<|(aZ) oJ hr2<|?_;refine WL.go rfl (OX.alloc RZ rfl fun X w5 S D=>?_);have Y:=S.ext;have Fm:=S.iI c4;have Z:b4≠X:=S.ne q.lt;have Fi:X≠b4:=Ne.symm Z;have c5:=c4.trans Y;have q:=q.ext Y;refine nx ?_;refine WL.go rfl (OX.mr E1 D rfl rfl rfl rfl rfl fun w6 s6 _ D=>?_);have T:=c5.own s6 Fm;have q:=q.bX s6 (by simp [Z]);refine cq ?_;refine WC.ke (t:=63) (v:=.bool (!fo aa i aa[i].ring k aa[i].asks[k])) (aT [] w6) ?_<|?_
   ·
    refine(aZ) oJ D.range<|?_;refine WP .r (PV.fa E9 rfl)<|(a7) aP D.range<|(bY) Ph (yf (x:=aa[i].asks[k]) (n:=aa[i].asks[k].n) (hr.ext T) G) ?_;rintro _ w7 ⟨rfl,F⟩;have K:=T.trans F;have q:=q.ext F;have D:=D.ext F;refine(db) (fun l=>?_) (fun l=>?_)
    ·
     refine aY ?_;refine aY ?_;exact(cA) (by unfold fo;simp at l;first | (simp [l];done) | (exfalso;simp_all;done) | (simp_all;done) | (simp [l];rw [Bool.eq_iff_iff];simp;done) | (simp [l];rw [Bool.eq_iff_iff];simp;omega) | (simp [l];omega) | (simp_all;omega)) F
    refine WP .r (PV.fa u2 rfl)<|(a7) dH D.range<|(db) (fun o=>?_) (fun o=>?_)
    ·
     refine WP .r (PV.fa ky rfl)<|(a7) dH q.range<|(db) (fun y=>?_) (fun y=>?_)
     ·
      refine aY ?_;refine aY ?_;exact(cA) (by unfold fo;simp at l o y;first | (simp [l,o,y];done) | (exfalso;simp_all;done) | (simp_all;done) | (simp [l,o,y];rw [Bool.eq_iff_iff];simp;done) | (simp [l,o,y];rw [Bool.eq_iff_iff];simp;omega) | (simp [l,o,y];omega) | (simp_all;omega)) F
     refine(db) (fun C=>?_) (fun C=>?_)
     ·
      refine aY ?_;exact(cA) (by unfold fo;simp at l o y C;first | (simp [l,o,y,C];done) | (exfalso;simp_all;done) | (simp_all;done) | (simp [l,o,y,C];rw [Bool.eq_iff_iff];simp;done) | (simp [l,o,y,C];rw [Bool.eq_iff_iff];simp;omega) | (simp [l,o,y,C];omega) | (simp_all;omega)) F
     refine(aZ) oJ D.range<|?_;refine WP .r (PV.fa u4 rfl)<|(a7) aP D.range<|(bY) Ph (yf (x:=aa[i].asks[k]) (n:=aa[i].asks[k].DV) (hr.ext K) G) ?_;rintro _ w8 ⟨rfl,H⟩;have c8:=K.trans H;have q:=q.ext H;have D:=D.ext H;refine(db) (fun E=>?_) (fun E=>?_)
     ·
      exact(cA) (by unfold fo;simp at l o y C E;first | (simp [l,o,y,C,E];done) | (exfalso;simp_all;done) | (simp_all;done) | (simp [l,o,y,C,E];rw [Bool.eq_iff_iff];simp;done) | (simp [l,o,y,C,E];rw [Bool.eq_iff_iff];simp;omega) | (simp [l,o,y,C,E];omega) | (simp_all;omega)) (F.trans H)
     refine WP .r (PV.fa u2 rfl)<|(a7) dH D.range<|(db) (fun z=>?_) (fun z=>?_)
     ·
      refine WP .r (PV.fa u4 rfl)<|(a7) aP D.range<|?_;exact(cA) (by unfold fo;simp at l o y C E z;first | (simp [l,o,y,C,E,z];done) | (exfalso;simp_all;done) | (simp_all;done) | (simp [l,o,y,C,E,z];rw [Bool.eq_iff_iff];simp;done) | (simp [l,o,y,C,E,z];rw [Bool.eq_iff_iff];simp;omega) | (simp [l,o,y,C,E,z];omega) | (simp_all;omega)) (F.trans H)
     exact(cA) (by unfold fo;simp at l o y C E z;first | (simp [l,o,y,C,E,z];done) | (exfalso;simp_all;done) | (simp_all;done) | (simp [l,o,y,C,E,z];rw [Bool.eq_iff_iff];simp;done) | (simp [l,o,y,C,E,z];rw [Bool.eq_iff_iff];simp;omega) | (simp [l,o,y,C,E,z];omega) | (simp_all;omega)) (F.trans H)
    refine aY ?_;refine fL ?_;refine WP .r (PV.fa u2 rfl)<|(a7) dH D.range<|(db) (fun z=>?_) (fun z=>?_)
    ·
     refine WP .r (PV.fa u4 rfl)<|(a7) aP D.range<|?_;exact(cA) (by unfold fo;simp at l o z;first | (simp [l,o,z];done) | (exfalso;simp_all;done) | (simp_all;done) | (simp [l,o,z];rw [Bool.eq_iff_iff];simp;done) | (simp [l,o,z];rw [Bool.eq_iff_iff];simp;omega) | (simp [l,o,z];omega) | (simp_all;omega)) F
    exact(cA) (by unfold fo;simp at l o z;first | (simp [l,o,z];done) | (exfalso;simp_all;done) | (simp_all;done) | (simp [l,o,z];rw [Bool.eq_iff_iff];simp;done) | (simp [l,o,z];rw [Bool.eq_iff_iff];simp;omega) | (simp [l,o,z];omega) | (simp_all;omega)) F
   intro w7 F;have K:=T.trans F;have q:=q.ext F;have D:=D.ext F;refine(aS) (fun L=>?_) fun L=>?_
   ·
    simp at L
    refine aY ?_;refine(bz) ?_;exact⟨false,rfl,⟨fun h=>(by cases h),fun h=>absurd ((h.2 i _ (ak G)).2.1 k _ (ak R)) (by simp [L])⟩,K⟩
   simp at L
   refine ez ?_;refine EX.again (k+1) (Sub.k4 rfl rfl rfl rfl<|Sub.k4 rfl rfl rfl rfl<|Sub.i1 rfl (by simp)<|Sub.nil) ⟨K,q,by omega,cG R O L⟩ (by omega)
  simp at g22
  have O:∀j x,aa[i].asks[j]?=some x→fo aa i aa[i].ring j x=true:=fun j x M=>O j x (by have:=(List.getElem?_eq_some_iff.1 M).1;omega) M;refine fL ?_;refine WC.ke (t:=106) (v:=.bool (!ia aa[i])) (fun wx=>w4=wx) ?_ ?_
  ·
   refine nx ?_;refine WP .r (PV.fa ky rfl)<|(a7) dH q.range<|(db) (fun d=>?_) (fun d=>?_)
   ·
    refine WP .r (PV.fa pz rfl)<|(a7) aP q.range<|(db) (fun m=>?_) (fun m=>?_)
    ·
     refine aY ?_;refine aY ?_;exact(cA) (by unfold ia;simp at d m;first | (simp [d,m];done) | (exfalso;simp_all;done) | (simp_all;done) | (simp [d,m];rw [Bool.eq_iff_iff];simp;done) | (simp [d,m];rw [Bool.eq_iff_iff];simp;omega) | (simp [d,m];omega) | (simp_all;omega)) rfl
    refine WP .r (PV.fa kZ rfl)<|(a7) aP q.range<|(db) (fun p=>?_) (fun p=>?_)
    ·
     refine aY ?_;refine aY ?_;exact(cA) (by unfold ia;simp at d m p;first | (simp [d,m,p];done) | (exfalso;simp_all;done) | (simp_all;done) | (simp [d,m,p];rw [Bool.eq_iff_iff];simp;done) | (simp [d,m,p];rw [Bool.eq_iff_iff];simp;omega) | (simp [d,m,p];omega) | (simp_all;omega)) rfl
    refine WP .r (PV.fa kZ rfl)<|(a7) aP q.range<|(db) (fun u=>?_) (fun u=>?_)
    ·
     refine aY ?_;refine aY ?_;exact(cA) (by unfold ia;simp at d m p u;first | (simp [d,m,p,u];done) | (exfalso;simp_all;done) | (simp_all;done) | (simp [d,m,p,u];rw [Bool.eq_iff_iff];simp;done) | (simp [d,m,p,u];rw [Bool.eq_iff_iff];simp;omega) | (simp [d,m,p,u];omega) | (simp_all;omega)) rfl
    refine WP .r (PV.fa ky rfl)<|(a7) dH q.range<|(db) (fun f=>?_) (fun f=>?_)
    ·
     refine WP .r (PV.fa pz rfl)<|(a7) aP q.range<|(db) (fun g=>?_) (fun g=>?_)
     ·
      refine aY ?_;exact(cA) (by unfold ia;simp at d m p u f g;first | (simp [d,m,p,u,f,g];done) | (exfalso;simp_all;done) | (simp_all;done) | (simp [d,m,p,u,f,g];rw [Bool.eq_iff_iff];simp;done) | (simp [d,m,p,u,f,g];rw [Bool.eq_iff_iff];simp;omega) | (simp [d,m,p,u,f,g];omega) | (simp_all;omega)) rfl
     refine WP .r (PV.fa pz rfl)<|(a7) aP q.range<|(db) (fun s=>?_) (fun s=>?_)
     ·
      exact(cA) (by unfold ia;simp at d m p u f g s;first | (simp [d,m,p,u,f,g,s];done) | (exfalso;simp_all;done) | (simp_all;done) | (simp [d,m,p,u,f,g,s];rw [Bool.eq_iff_iff];simp;done) | (simp [d,m,p,u,f,g,s];rw [Bool.eq_iff_iff];simp;omega) | (simp [d,m,p,u,f,g,s];omega) | (simp_all;omega)) rfl
     refine WP .r (PV.fa kZ rfl)<|(a7) aP q.range<|(db) (fun B=>?_) (fun B=>?_)
     ·
      exact(cA) (by unfold ia;simp at d m p u f g s B;first | (simp [d,m,p,u,f,g,s,B];done) | (exfalso;simp_all;done) | (simp_all;done) | (simp [d,m,p,u,f,g,s,B];rw [Bool.eq_iff_iff];simp;done) | (simp [d,m,p,u,f,g,s,B];rw [Bool.eq_iff_iff];simp;omega) | (simp [d,m,p,u,f,g,s,B];omega) | (simp_all;omega)) rfl
     refine WP .r (PV.fa kZ rfl)<|(a7) aP q.range<|?_;exact(cA) (by unfold ia;simp at d m p u f g s B;first | (simp [d,m,p,u,f,g,s,B];done) | (exfalso;simp_all;done) | (simp_all;done) | (simp [d,m,p,u,f,g,s,B];rw [Bool.eq_iff_iff];simp;done) | (simp [d,m,p,u,f,g,s,B];rw [Bool.eq_iff_iff];simp;omega) | (simp [d,m,p,u,f,g,s,B];omega) | (simp_all;omega)) rfl
    refine aY ?_;exact(cA) (by unfold ia;simp at d m p u f;first | (simp [d,m,p,u,f];done) | (exfalso;simp_all;done) | (simp_all;done) | (simp [d,m,p,u,f];rw [Bool.eq_iff_iff];simp;done) | (simp [d,m,p,u,f];rw [Bool.eq_iff_iff];simp;omega) | (simp [d,m,p,u,f];omega) | (simp_all;omega)) rfl
   refine aY ?_;refine cq ?_;refine WP .r (PV.fa ky rfl)<|(a7) dH q.range<|(db) (fun f=>?_) (fun f=>?_)
   ·
    refine WP .r (PV.fa pz rfl)<|(a7) aP q.range<|(db) (fun g=>?_) (fun g=>?_)
    ·
     refine aY ?_;exact(cA) (by unfold ia;simp at d f g;first | (simp [d,f,g];done) | (exfalso;simp_all;done) | (simp_all;done) | (simp [d,f,g];rw [Bool.eq_iff_iff];simp;done) | (simp [d,f,g];rw [Bool.eq_iff_iff];simp;omega) | (simp [d,f,g];omega) | (simp_all;omega)) rfl
    refine WP .r (PV.fa pz rfl)<|(a7) aP q.range<|(db) (fun s=>?_) (fun s=>?_)
    ·
     exact(cA) (by unfold ia;simp at d f g s;first | (simp [d,f,g,s];done) | (exfalso;simp_all;done) | (simp_all;done) | (simp [d,f,g,s];rw [Bool.eq_iff_iff];simp;done) | (simp [d,f,g,s];rw [Bool.eq_iff_iff];simp;omega) | (simp [d,f,g,s];omega) | (simp_all;omega)) rfl
    refine WP .r (PV.fa kZ rfl)<|(a7) aP q.range<|(db) (fun B=>?_) (fun B=>?_)
    ·
     exact(cA) (by unfold ia;simp at d f g s B;first | (simp [d,f,g,s,B];done) | (exfalso;simp_all;done) | (simp_all;done) | (simp [d,f,g,s,B];rw [Bool.eq_iff_iff];simp;done) | (simp [d,f,g,s,B];rw [Bool.eq_iff_iff];simp;omega) | (simp [d,f,g,s,B];omega) | (simp_all;omega)) rfl
    refine WP .r (PV.fa kZ rfl)<|(a7) aP q.range<|?_;exact(cA) (by unfold ia;simp at d f g s B;first | (simp [d,f,g,s,B];done) | (exfalso;simp_all;done) | (simp_all;done) | (simp [d,f,g,s,B];rw [Bool.eq_iff_iff];simp;done) | (simp [d,f,g,s,B];rw [Bool.eq_iff_iff];simp;omega) | (simp [d,f,g,s,B];omega) | (simp_all;omega)) rfl
   refine aY ?_;exact(cA) (by unfold ia;simp at d f;first | (simp [d,f];done) | (exfalso;simp_all;done) | (simp_all;done) | (simp [d,f];rw [Bool.eq_iff_iff];simp;done) | (simp [d,f];rw [Bool.eq_iff_iff];simp;omega) | (simp [d,f];omega) | (simp_all;omega)) rfl
  rintro _ rfl;refine(aS) (fun N=>?_) fun N=>?_
  ·
   simp at N
   refine(bz) ?_;exact⟨false,rfl,⟨fun h=>(by cases h),fun h=>absurd (h.2 i _ (ak G)).2.2 (by simp [N])⟩,c4⟩
  simp at N
  refine ez ?_;refine EX.again (i+1) (Sub.k2 rfl rfl<|Sub.cons rfl<|Sub.i1 rfl (by simp)<|Sub.nil) ⟨c4,by omega,cG G U ⟨by omega,O,N⟩⟩ (by omega)
 simp at g10
 have hK:∀j x,aa[j]?=some x→lT aa j x:=fun j x M=>U j x (by have:=(List.getElem?_eq_some_iff.1 M).1;omega) M;refine gV ?_;refine WP .r (PV.ie jk rfl)<|(bz) ?_;exact⟨_,rfl,⟨fun h=>⟨by simp at h;omega,hK⟩,fun h=>by have:=h.1;simp;omega⟩,c1⟩
set_option maxHeartbeats 400000
theorem Co :CR prog 5 #[.slice a n c] w (.bool (decide (n≤400))):=by
 refine enter func5 rfl ntmps5 rfl<|?_;have c0:aT [] w w:=aT.refl _ _;refine gV ?_;refine WP .r (PV.ie E0 rfl)<|(bz) ?_;exact⟨by congr 2;exact decide_eq_decide.2 (by omega),c0⟩
theorem Fo{l:List Int}(hl:Ints A w a n c l) (f:n≤400):Calls prog 7 #[.slice a n c] w fun e w'=>∃d,e=.returned (.pointer (some ⟨d,0,none⟩))∧w.heap.size≤d∧D3 A w' 55 d∧aT [] w w':=by
 refine enter func7 rfl ntmps7 rfl<|?_;have c0:aT [] w w:=aT.refl _ _;refine gV ?_;refine WP .r (PV.bB (us:=[.slice a n c,.int .i64 0]) acU rfl rfl rfl)<|?_;refine WL.go rfl (OX.box rfl rfl rfl fun b5 w1 b g=>?_);have s1:=b.ext;have h:=b.iI c0;have c1:=c0.trans s1;refine(bz) ?_;exact⟨_,rfl,h,⟨l,a,n,c,0,g,SR.ext hl c1,f,by omega⟩,c1⟩
theorem Fp{m:Int}{d:Nat}(o:D3 A w 55 d) (f:¬A d) (hm:m≤4611686018427387904):Calls prog 22 #[.pointer (some ⟨d,0,none⟩),.int .i64 m] w fun e w'=>∃z:Int,e=.returned (.int .i64 z)∧0≤z∧(1≤m→z<m)∧aT [d] w w'∧D3 A w' 55 d:=by
 obtain⟨l,a,n,c,t,hb,hl,i,p⟩:=o;have hlen:=SR.len hl;refine enter func22 rfl ntmps22 rfl<|?_;have c0:aT [d] w w:=aT.refl _ _;refine ez ?_;refine WC.drawn (m:=9) (C:=aT [] w) (T:=fun _=>aT []) (E:=cB []) (bm (trivial)) mixed (by kernel_rfl) (aT.drew _ _)<|bO ?_;refine DP .r (fun _ b=>PV.fa zo rfl)<|DP .r (fun _ b=>PV.ld1 aP (hb.ext b).range rfl rfl)<|bO ?_;refine DP .r (fun _ b=>PV.fa Kv rfl)<|DP .r (fun _ b=>PV.ld1 O2 (hb.ext b).range rfl rfl)<|DP .r (fun _ b=>PV.ie E0 rfl)<|(cQ)<|?_;rintro w1 s1 _;have c1:=c0.trans s1.nil;have hb:=hb.ext s1;refine(aS) (fun g14=>?_) fun g14=>?_
 ·
  skip
  refine(bz) ?_;exact⟨0,rfl,by omega,fun h=>by omega,c1,l,a,n,c,t,hb,SR.bX hl c1 (by simpa using f) (fun _ _ h=>h),i,p⟩
 simp at g14
 obtain⟨v,x,y,q,_,s,g,u⟩:=SR.at hl (ak (show t<l.length by omega));subst s;refine fL ?_;refine WP .r (PV.fa zo rfl)<|(a7) aP hb.range<|bO ?_;refine WP .r (PV.fa zo rfl)<|?_;refine WL.go rfl (OX.st GS hb rfl rfl (by first | (simp [nth];done) | exact Vr rfl) rfl rfl fun w2 s2 _ hb=>?_);have c2:=c1.trans s2;refine cq ?_;have g:=aW g c2 (by simp;rintro rfl;exact f u);refine WC.drawn (m:=12) (C:=aT [] w2) (T:=fun _=>aT []) (E:=cB []) (bm (trivial)) mixed (by kernel_rfl) (aT.drew _ _)<|bO ?_;refine DP .r (fun _ b=>PV.fa Kv rfl)<|DP .r (fun _ b=>PV.ld1 O2 (hb.ext b).range rfl rfl)<|bO ?_;refine DP .r (fun _ b=>PV.fa zo rfl)<|DP .r (fun _ b=>PV.ld1 aP (hb.ext b).range rfl rfl)<|nx ?_;refine DP .r (fun _ b=>PV.DU E0 (t) q rfl rfl (by omega) (by omega))<|DP .r (fun _ b=>PV.mq aP (aW g b (by simp)) rfl rfl)<|(cQ) ?_;rintro w3 j _;have c3:=c2.trans j.nil;have hb:=hb.ext j;refine(bY) adB (H3 (n:=l[t]) (m:=m) (by omega)) ?_;rintro _ w4 ⟨rfl,k⟩;have c4:=c3.trans k.nil;have hb:=hb.ext k;refine(bz) ?_;refine⟨_,rfl,?_,?_,c4,l,a,n,c,t+1,?_,SR.bX hl c4 (by simpa using f) (fun _ _ h=>h),i,by omega⟩
 ·
  split
  ·
   omega
  exact Int.emod_nonneg _ (by omega)
 ·
  intro h;rw [if_neg (by omega)];exact Int.emod_lt_of_pos _ (by omega)
 exact hb
def words:List ByteArray:=[⟨#[48]⟩,⟨#[49]⟩,⟨#[50]⟩,⟨#[51]⟩,⟨#[55]⟩,⟨#[49,48,48]⟩,⟨#[]⟩,⟨#[120]⟩,⟨#[49,54]⟩,⟨#[49]⟩]
theorem KG:∀s∈words,s.size≤100:=by decide
end Go.Rc

