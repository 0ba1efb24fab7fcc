/- Walks over the program, part WE. Conditions: as each theorem says. -/
import Derived.Test.YtilldnlhckpbjaaGreatDoorQFacts
import Derived.Test.YtilldnlhckpbjaaGreatDoorQWB
import Derived.Test.YtilldnlhckpbjaaGreatDoorQBb
import Derived.Test.YtilldnlhckpbjaaGreatDoorQBd
set_option linter.all false
namespace Go.Rc
open Go Go.Proofs Go.Proofs.Tryz
variable {aa:List aG}{A M Z:Nat→Prop}{a:Option Addr}{r c n:Nat}{w:World}{l:List Rec}{x:Rec}
set_option maxHeartbeats 400000
theorem uh{i:Nat}{x:Ask}{n:Int}(hr:ei A w a r c aa) (hi:i<aa.length):CR prog 50 #[.slice a r c,.int .i64 (i:Int),x.val,.int .i64 n] w (.bool (eS aa i x.cell n)):=by
 have hle:=hr.le;have hlen:=hr.len;have g:=bs hi;refine enter func50 rfl ntmps50 rfl<|?_;have c0:aQ [] w w:=aQ.refl _ _;refine bM ?_;refine WL.go rfl (OX.box rfl rfl rfl fun m w1 h f=>?_);have s1:=h.ext;have o:=h.kz c0;have c1:=c0.trans s1;refine fj ?_;refine WP .r (PV.fa vf rfl)<|(bp) dd f.range<|(aX) (fun g12=>?_) fun g12=>?_
 ·
  refine nx ?_;refine WC.kC (t:=8) (v:=.bool (decide (0≤n) && decide (n≤15))) (fun d=>w1=d) ?_ ?_
  ·
   refine(cO) (fun g15=>?_) (fun g15=>?_)
   ·
    exact(fF) (by simp only [g15];first | rfl | simp) rfl
   exact(fF) (by simp only [g15];first | rfl | simp) rfl
  rintro _ rfl;refine(bB) ?_;exact⟨by unfold eS;rw [if_pos g12],c1⟩
 refine(cJ) Pm (pe (n:=(i:Int)) (hr.ext c1)) ?_;rintro _ w2 ⟨rfl,s2⟩;have c2:=c1.trans s2;have f:=f.ext s2;refine lW ?_;obtain⟨b1,p,r1,j,_,⟨q1,q,s,rfl,_⟩,k,_⟩:=(hr.ext c2).at (ah hi);refine cv ?_;refine WP .r (PV.dR gR j rfl rfl (by omega))<|WP .r (PV.fa iF rfl)<|(bp) dd k<|(aX) (fun e=>?_) fun e=>?_
 ·
  have ht:dT aa i=(block aa i).1:=by unfold dT;rw [g];simp at e;rw [e];rfl
  refine fj ?_;refine WC.kC (t:=8) (v:=.bool (decide (0≤n) && decide (n<dT aa i))) (fun d=>w2=d) ?_ ?_
  ·
   refine(cO) (fun b=>?_) (fun b=>?_)
   ·
    exact(fF) (by simp only [ht,b];first | rfl | simp) rfl
   exact(fF) (by simp only [ht,b];first | rfl | simp) rfl
  rintro _ rfl;refine(bB) ?_;exact⟨by unfold eS;rw [g12];rfl,c2⟩
 have ht:dT aa i=(block aa i).2:=by unfold dT;rw [g];simp at e;rw [e];rfl
 refine cv ?_;refine WC.kC (t:=8) (v:=.bool (decide (0≤n) && decide (n<dT aa i))) (fun d=>w2=d) ?_ ?_
 ·
  refine(cO) (fun b=>?_) (fun b=>?_)
  ·
   exact(fF) (by simp only [ht,b];first | rfl | simp) rfl
  exact(fF) (by simp only [ht,b];first | rfl | simp) rfl
 rintro _ rfl;refine(bB) ?_;exact⟨by unfold eS;rw [g12];rfl,c2⟩
theorem rC{s:ByteArray} :CR prog 179 #[.string s] w (.int .i64 (bR s:Int)):=by
 refine enter func179 rfl ntmps179 rfl<|?_;have c0:aQ [] w w:=aQ.refl _ _;refine(cJ) I1 (l9 (s:=s)) ?_;rintro _ w1 ⟨rfl,s1⟩;have c1:=c0.trans s1;refine dp ?_;refine WC.jF (t:=11) (v:=.bool (decide (cV s<0) || decide (65535<cV s))) (fun d=>w1=d) ?_ ?_
 ·
  refine(cO) (fun g8=>?_) (fun g8=>?_)
  ·
   exact(cp) (by simp only [g8];first | rfl | simp) rfl
  exact(cp) (by simp only [g8];first | rfl | simp) rfl
 rintro _ rfl;refine(aX) (fun g11=>?_) fun g11=>?_
 ·
  simp at g11
  have b:bR s=0:=by unfold bR;rw [if_pos g11]
  refine(bB) ?_;rw [b];exact⟨rfl,c1⟩
 simp at g11
 have b:(bR s:Int)=cV s:=by unfold bR;rw [if_neg (by omega)];omega
 refine(bB) ?_;rw [b];exact⟨rfl,c1⟩
theorem xP{l:List ByteArray}{ring:Bool}{a1:Option Addr}{n1 e1:Nat}{fin:Int}{d:Nat}(hl:Strs A w a r c l) (hc:d≤65535) (J:r≤1000):CR prog 178 #[.agg #[.bool ring,.slice a1 n1 e1,.int .i64 fin,.int .i64 (d:Int)],.slice a r c] w (.int .i64 (cI fin d (l.map bR):Int)):=by
 have hlen:=hl.len
 have k:∀x∈l.map bR,x≤65535:=fun x o=>by obtain⟨s,_,rfl⟩:=List.mem_map.1 o;exact iS s
 have p:∀i,∀x∈(l.map bR).take i,x≤65535:=fun i x o=>k x (List.mem_of_mem_take o);refine enter func178 rfl ntmps178 rfl<|?_;have c0:aQ [] w w:=aQ.refl _ _;refine bM ?_;refine WL.go rfl (OX.box rfl rfl rfl fun b2 w1 u b=>?_);have s1:=u.ext;have K:=u.kz c0;have c1:=c0.trans s1;refine cw ?_;refine WC.drawn (m:=8) (C:=aQ [] w1) (T:=fun _=>aQ []) (E:=cA []) (bz (trivial)) mixed (by kernel_rfl) (aQ.drew _ _)<|?_;refine DP .r (fun _ e=>PV.fa jg rfl)<|DP .r (fun _ e=>PV.ld1 aP (b.ext e).range rfl rfl)<|DP .r (fun _ e=>PV.fa jg rfl)<|DP .r (fun _ e=>PV.ld1 aP (b.ext e).range rfl rfl)<|DP .r (fun _ e=>PV.fa jg rfl)<|DP .r (fun _ e=>PV.ld1 aP (b.ext e).range rfl rfl)<|(cM) ?_;rintro w2 s2 _;have c2:=c1.trans s2;have b:=b.ext s2;refine fb ?_;refine WP .r (PV.gT l7 rfl)<|cw ?_;refine WC.loop (σ:=Nat) (db:=fun i=>[(2,.pointer (some ⟨b2,0,none⟩)),(5,.int .i64 (mZ d ((l.map bR).take i):Int)),(6,.int .i64 (oO d ((l.map bR).take i):Int)),(7,.int .i64 (dE d ((l.map bR).take i):Int)),(17,.slice a r c),(18,.int .i64 (r:Int)),(19,.int .i64 (i:Int))]) (I:=fun i w'=>aQ [] w w'∧bJ w' b2 71 [.bool ring,.slice a1 n1 e1,.int .i64 fin,.int .i64 (d:Int)]∧i≤r) (μ:=fun i=>r - i) 0 Sub.t ⟨c2,b,by omega⟩ ?_;rintro i w3 ⟨c3,b,hi⟩;refine(aX) (fun g20=>?_) fun g20=>?_
 ·
  simp at g20
  have y:i<l.length:=by omega
  have q:i<(l.map bR).length:=by simp;omega
  have z:=pX (c:=d) (p i);have B:=kI hc (p i);have D:=ju hc (p i);have L:=iS l[i]
  have N:((l.map bR).take i).length≤1000:=by rw [List.length_take];omega
  refine dp ?_;obtain⟨b1,O,r1,F,_,rfl,G,_⟩:=(hl.ext c3).at (ah y);refine nx ?_;refine WP .r (PV.dR l7 F rfl rfl (by omega))<|WP .r (PV.ky ff G rfl rfl)<|(cJ) I5 (rC (s:=l[i])) ?_;rintro _ w4 ⟨rfl,v⟩;have c4:=c3.trans v;have b:=b.ext v;refine lW ?_;refine WP .r (PV.Dk rfl rfl)<|bM ?_;refine WP .r (PV.orN rfl rfl (by omega) (by omega))<|kL ?_;refine EX.again (i+1) (Sub.cons rfl<|Sub.ir rfl (by rw [tw q,List.getElem_map];omega)<|Sub.ir rfl (by rw [qn q,List.getElem_map];omega)<|Sub.ir rfl (by rw [qo q,List.getElem_map])<|Sub.k2 rfl rfl<|Sub.ir rfl (by simp)<|Sub.nil) ⟨c4,b,by omega⟩ (by omega)
 simp at g20
 have H:(l.map bR).take i=l.map bR:=List.take_of_length_le (by simp;omega);rw [H];have z:=pX (c:=d) k;have B:=kI hc k;have D:=ju hc k
 have P:(l.map bR).length≤1000:=by rw [List.length_map];omega
 refine gW ?_;refine WP .r (PV.fa mG rfl)<|(bp) aP b.range<|(aX) (fun f=>?_) fun f=>?_
 ·
  simp at f
  refine cv ?_;refine WP .r (PV.rem rfl rfl (by omega))<|(bB) ?_;exact⟨by unfold cI;rw [if_pos f,Int.tmod_eq_emod_of_nonneg (by omega)];rfl,c3⟩
 simp at f
 refine(aX) (fun g=>?_) fun g=>?_
 ·
  simp at g
  refine cv ?_;refine WP .r (PV.quo rfl rfl (by omega) (by rw [Int.tdiv_eq_ediv_of_nonneg (by omega)];omega) (by rw [Int.tdiv_eq_ediv_of_nonneg (by omega)];omega))<|WP .r (PV.rem rfl rfl (by omega))<|(bB) ?_;exact⟨by unfold cI;rw [if_neg f,if_pos g,Int.tdiv_eq_ediv_of_nonneg (by omega),Int.tmod_eq_emod_of_nonneg (by omega)];rfl,c3⟩
 simp at g
 refine(aX) (fun h=>?_) fun h=>?_
 ·
  simp at h
  refine(bB) ?_;exact⟨by unfold cI;rw [if_neg f,if_neg g,if_pos h],c3⟩
 simp at h
 refine(aX) (fun j=>?_) fun j=>?_
 ·
  simp at j
  refine cv ?_;refine WP .r (PV.rem rfl rfl (by omega))<|(bB) ?_;exact⟨by unfold cI;rw [if_neg f,if_neg g,if_neg h,if_pos j,Int.tmod_eq_emod_of_nonneg (by omega)];rfl,c3⟩
 simp at j
 refine(bB) ?_;exact⟨by unfold cI;rw [if_neg f,if_neg g,if_neg h,if_neg j],c3⟩
theorem zZ{k:Key}{ae:List ByteArray}{B C:Nat→Prop}{a2:Option Addr}{r2 e2:Nat}(ht:j5 prog A w) (hr:ei B w a r c aa) (hl:Strs C w a2 r2 e2 ae) (hb:∀x∈aa,0≤x.c∧x.c≤65535∧x.asks.length≤1000):CR prog 129 #[.slice a r c,k.val,.slice a2 r2 e2] w ((bN aa k ae).val):=by
 have hle:=hr.le;have hlen:=hr.len;have rD:=hl.len;refine enter func129 rfl ntmps129 rfl<|?_;have c0:aQ [] w w:=aQ.refl _ _;refine bM ?_;refine WL.go rfl (OX.box rfl rfl rfl fun b4 w1 CX d=>?_);have s1:=CX.ext;have vi:=CX.kz c0;have c1:=c0.trans s1;refine WL.go rfl (OX.alloc nH rfl fun L w2 Lx b=>?_);have s2:=Lx.ext;have N:=Lx.kz c1;have I:b4≠L:=Lx.ne d.lt;have Aa:L≠b4:=Ne.symm I;have c2:=c1.trans s2;have d:=d.ext s2;refine(bP) ak d.range<|(cJ) HI (ia (k:=k)) ?_;rintro _ w3 ⟨rfl,s3⟩;have c3:=c2.trans s3;have d:=d.ext s3;have b:=b.ext s3;refine dp ?_;refine WC.jF (t:=28) (v:=.bool (decide (number k<0) || (decide ((r:Int)≤number k) || decide (aN aa (number k)≠k)))) (aQ [] w3) ?_<|?_
 ·
  refine WC.drawn (m:=13) (C:=aQ [] w3) (T:=fun _=>aQ []) (E:=cA [(11,fun v _=>v=(aN aa (number k)).val)]) (bz (⟨fun _ _ _ _ _ _ _ h=>h,trivial⟩)) mixed (by kernel_rfl) (aQ.drew _ _)<|(pF) (fun g16=>?_) (fun g16=>?_)
  ·
   refine(cM) ?_;rintro w4 u _;have c4:=c3.trans u;have d:=d.ext u;have b:=b.ext u;exact(cp) (by simp only [g16];first | rfl | simp) u
  refine bM ?_;refine DP .r (fun _ D=>PV.gT gR rfl)<|(pF) (fun g22=>?_) (fun g22=>?_)
  ·
   refine(cM) ?_;rintro w4 u _;have c4:=c3.trans u;have d:=d.ext u;have b:=b.ext u;exact(cp) (by simp only [g16,g22];first | rfl | simp) u
  refine bM ?_;refine DW.e rfl rfl rfl rfl rfl (fun wx D hF=>OX.call vg rfl rfl ((fu (n:=number k) (hr.ext (c3.trans D))).mono ?_))<|?_
  ·
   rintro _ wy ⟨rfl,hy⟩;exact⟨_,rfl,D.trans hy,hy,_,rfl,rfl⟩
  rintro _ wz _ rfl;refine DP .r (fun _ D=>PV.Bx ak (d.ext D).range rfl rfl)<|(cM)<|?_;rintro w4 u _;have c4:=c3.trans u;have d:=d.ext u;have b:=b.ext u;refine WP .r (PV.It fP (p:=aN aa (number k)) (q:=k) rfl rfl)<|?_;exact(cp) (by simp only [g16,g22];first | rfl | simp) u
 intro w4 u;have c4:=c3.trans u;have d:=d.ext u;have b:=b.ext u;refine(aX) (fun S=>?_) fun S=>?_
 ·
  simp at S
  have z:=Dn (ae:=ae) (show number k<0∨(aa.length:Int)≤number k∨aN aa (number k)≠k by rw [← hlen];exact S);refine bM ?_;refine WP .r (PV.br (us:=[.bool true,.string ⟨#[]⟩,.int .i64 0,.string ⟨#[]⟩]) ke rfl rfl rfl)<|?_;refine WL.go rfl (OX.oH fc b rfl rfl rfl rfl rfl fun w5 O _ b=>?_);have c5:=c4.own O N;have d:=d.cq O (by simp [I]);refine(kp) gj b.range<|?_;rw [z];exact⟨rfl,c5⟩
 simp at S
 obtain⟨g1,g2,g3⟩:=S;obtain⟨i,BQ⟩:∃i:Nat,number k=i:=⟨(number k).toNat,by omega⟩
 have hi:i<aa.length:=by omega
 obtain⟨Ly,CC,CY⟩:=hb _ (List.getElem_mem hi);obtain⟨U,QC⟩:∃U:Nat,aa[i].c=U:=⟨aa[i].c.toNat,by omega⟩;refine cv ?_;obtain⟨VK,S2,S3,wD,_,⟨q1,q2,q3,rfl,xQ⟩,FY,_⟩:=hr.at (ah hi);have FY:=aV FY c4 (by simp);rw [QC] at FY;have wE:=xQ.len;refine cv ?_;refine WP .r (PV.BD gR (i) wD rfl rfl (by omega) (by omega))<|(bP) uc FY<|nx ?_;refine WP .r (PV.gT l7 rfl)<|?_;refine WL.go rfl (OX.alloc He rfl fun P w5 Nr f=>?_);have O:=Nr.ext;have Lz:=Nr.kz c4;have rE:b4≠P:=Nr.ne d.lt;have LA:P≠b4:=Ne.symm rE;have rF:L≠P:=Nr.ne b.lt;have V:P≠L:=Ne.symm rF;have c5:=c4.trans O;have d:=d.ext O;have b:=b.ext O;refine WL.go rfl (OX.oH Cv f rfl rfl rfl rfl rfl fun w6 s6 _ f=>?_);have W:=c5.own s6 Lz;have d:=d.cq s6 (by simp [rE]);have b:=b.cq s6 (by simp [rF]);refine fb ?_;refine WP .r (PV.fa ov rfl)<|(bp) ja f.range<|?_;refine WP .r (PV.gT sG rfl)<|(aX) (fun F0=>?_) fun F0=>?_
 ·
  simp at F0
  have z:=ik (ae:=ae) BQ hi g3 (by omega);rw [← wE,QC,Int.toNat_natCast] at z;have JO:=lu (kind:=aa[i].final) (c:=U) (l:=(ae.take q2).map bR) (by omega) (fun x hx=>by obtain⟨s,_,rfl⟩:=List.mem_map.1 hx;exact iS s);refine nx ?_;refine WC.drawn (m:=6) (C:=aQ [] w6) (T:=fun _=>aQ []) (E:=cA []) (bz (trivial)) mixed (by kernel_rfl) (aQ.drew _ _)<|?_;refine DP .r (fun _ D=>PV.Bx uc (f.ext D).range rfl rfl)<|nx ?_;refine DP .r (fun _ D=>PV.fa ov rfl)<|DP .r (fun _ D=>PV.ld1 ja (f.ext D).range rfl rfl)<|DP .r (fun _ D=>PV.gT sG rfl)<|DP .r (fun _ D=>PV.nX l7 (hl.ext (W.trans D)) rfl rfl (by omega))<|(cM)<|?_;rintro w7 F _;have c7:=W.trans F;have d:=d.ext F;have b:=b.ext F;have f:=f.ext F;refine(cJ) Qk (xP (SR.take (hl.ext c7) (by omega)) (show U≤65535 by omega) (by omega)) ?_;rintro _ w8 ⟨rfl,G⟩;have Q:=c7.trans G;have d:=d.ext G;have b:=b.ext G;have f:=f.ext G;refine(cJ) HH (jY (ht.ext Q) (by omega) (by omega)) ?_;rintro _ w9 ⟨rfl,y⟩;have c9:=Q.trans y;have d:=d.ext y;have b:=b.ext y;have f:=f.ext y;refine WP .r (PV.br (us:=[.bool true,.string (itoa ((cI aa[i].final U ((ae.take q2).map bR)):Int)),.int .i64 0,.string ⟨#[]⟩]) ke rfl rfl rfl)<|?_;refine WL.go rfl (OX.oH fc b rfl rfl rfl rfl rfl fun lI g _ b=>?_);have H:=c9.own g N;have d:=d.cq g (by simp [I]);have f:=f.cq g (by simp [V]);refine(kp) gj b.range<|?_;rw [z];exact⟨rfl,H⟩
 simp at F0
 have hn:r2<aa[i].asks.length:=by omega
 have z:=gB (ae:=ae) BQ hi g3 (by omega);simp only [← rD] at z;refine cv ?_;obtain⟨VL,VM,VN,yP,_,rfl,Ns,_⟩:=(xQ.ext W).at (ah hn);refine nx ?_;refine WP .r (PV.fa ov rfl)<|(bp) ja f.range<|nx ?_;refine WP .r (PV.dR sG yP rfl rfl (by omega))<|(bP) l6 Ns<|?_;refine WL.go rfl (OX.alloc La rfl fun R w7 X j=>?_);have F:=X.ext;have HL:=X.kz W;have pf:b4≠R:=X.ne d.lt;have I7:R≠b4:=Ne.symm pf;have pg:L≠R:=X.ne b.lt;have jb:R≠L:=Ne.symm pg;have ph:P≠R:=X.ne f.lt;have I8:R≠P:=Ne.symm ph;have c7:=W.trans F;have d:=d.ext F;have b:=b.ext F;have f:=f.ext F;refine WL.go rfl (OX.oH zP j rfl rfl rfl rfl rfl fun w8 G _ j=>?_);have Q:=c7.own G HL;have d:=d.cq G (by simp [pf]);have b:=b.cq G (by simp [pg]);have f:=f.cq G (by simp [ph]);refine cw ?_;refine WP .r (PV.fa zU rfl)<|(bp) aP j.range<|dp ?_;refine WC.jF (t:=72) (v:=.bool (dK aa[i].asks[r2] ae)) (aQ [] w8) ?_<|?_
 ·
  refine nx ?_;refine WP .r (PV.fa rq rfl)<|(bp) dd j.range<|(cO) (fun S4=>?_) (fun S4=>?_)
  ·
   refine(cO) (fun LD=>?_) (fun LD=>?_)
   ·
    have Y:dK aa[i].asks[r2] ae=true:=by unfold dK;rw [S4,← rD];simp at LD;simp [LD]
    exact(cp) (by rw [Y]) (aQ.refl _ _)
   simp at LD
   obtain⟨bx3,ox3,rx3,QD,_,rfl,hr3,_⟩:=(hl.ext Q).at (ah (show r2 - 1<ae.length by omega))
   have Y:dK aa[i].asks[r2] ae=decide ((bR ae[r2 - 1]:Int).tmod 2=0):=by
    unfold dK
    simp only [S4,← rD,Bool.true_and];rw [decide_eq_false (by omega),Bool.false_or,getElem!_pos ae (r2 - 1) (by omega),Int.tmod_eq_emod_of_nonneg (by omega)]
    congr 1
    exact propext ⟨fun h=>by omega,fun h=>by omega⟩
   refine cv ?_;refine WP .r (PV.BD l7 (r2 - 1) QD rfl rfl (by omega) (by omega))<|WP .r (PV.ky ff hr3 rfl rfl)<|(cJ) I5 (rC (s:=ae[r2 - 1])) ?_;rintro _ w9 ⟨rfl,y⟩;have c9:=Q.trans y;have d:=d.ext y;have b:=b.ext y;have f:=f.ext y;have j:=j.ext y;refine WP .r (PV.rem rfl rfl (by omega))<|?_;exact(cp) (by rw [Y]) y
  have Y:dK aa[i].asks[r2] ae=false:=by unfold dK;rw [S4];rfl
  refine aT ?_;exact(cp) (by rw [Y]) (aQ.refl _ _)
 intro w9 y;have c9:=Q.trans y;have d:=d.ext y;have b:=b.ext y;have f:=f.ext y;have j:=j.ext y;refine(aX) (fun VO=>?_) fun VO=>?_
 ·
  have QE:mr aa[i].asks[r2] ae=aa[i].asks[r2].yZ:=by unfold mr;rw [if_pos VO]
  refine nx ?_;refine WP .r (PV.fa ru rfl)<|(bp) aP j.range<|fj ?_;refine WP .r (PV.fa vf rfl)<|(bp) dd j.range<|(aX) (fun J=>?_) fun J=>?_
  ·
   rw [QE,if_pos J] at z;refine(cJ) HF (gH) ?_;rintro _ lI ⟨rfl,g⟩;have H:=c9.trans g;have d:=d.ext g;have b:=b.ext g;have f:=f.ext g;have j:=j.ext g;refine WP .r (PV.br (us:=[.bool false,.string ⟨#[]⟩,.int .i64 (bO _).kind,.string (bO _).text]) ke rfl rfl rfl)<|?_;refine WL.go rfl (OX.oH fc b rfl rfl rfl rfl rfl fun mH o _ b=>?_);have K:=H.own o N;have d:=d.cq o (by simp [I]);have f:=f.cq o (by simp [V]);have j:=j.cq o (by simp [jb]);refine(kp) gj b.range<|?_;rw [z];exact⟨rfl,K⟩
  rw [QE,if_neg (by simp [J])] at z;refine(cJ) vg (fu (hr.ext c9)) ?_;rintro _ lI ⟨rfl,g⟩;have H:=c9.trans g;have d:=d.ext g;have b:=b.ext g;have f:=f.ext g;have j:=j.ext g;refine WP .r (PV.br (us:=[.bool false,.string ⟨#[]⟩,.int .i64 (aN aa _).kind,.string (aN aa _).text]) ke rfl rfl rfl)<|?_;refine WL.go rfl (OX.oH fc b rfl rfl rfl rfl rfl fun mH o _ b=>?_);have K:=H.own o N;have d:=d.cq o (by simp [I]);have f:=f.cq o (by simp [V]);have j:=j.cq o (by simp [jb]);refine(kp) gj b.range<|?_;rw [z];exact⟨rfl,K⟩
 have QE:mr aa[i].asks[r2] ae=aa[i].asks[r2].n:=by unfold mr;rw [if_neg (by simp [VO])]
 refine dp ?_;refine WP .r (PV.fa vf rfl)<|(bp) dd j.range<|(aX) (fun J=>?_) fun J=>?_
 ·
  rw [QE,if_pos J] at z;refine(cJ) HF (gH) ?_;rintro _ lI ⟨rfl,g⟩;have H:=c9.trans g;have d:=d.ext g;have b:=b.ext g;have f:=f.ext g;have j:=j.ext g;refine WP .r (PV.br (us:=[.bool false,.string ⟨#[]⟩,.int .i64 (bO _).kind,.string (bO _).text]) ke rfl rfl rfl)<|?_;refine WL.go rfl (OX.oH fc b rfl rfl rfl rfl rfl fun mH o _ b=>?_);have K:=H.own o N;have d:=d.cq o (by simp [I]);have f:=f.cq o (by simp [V]);have j:=j.cq o (by simp [jb]);refine(kp) gj b.range<|?_;rw [z];exact⟨rfl,K⟩
 rw [QE,if_neg (by simp [J])] at z;refine(cJ) vg (fu (hr.ext c9)) ?_;rintro _ lI ⟨rfl,g⟩;have H:=c9.trans g;have d:=d.ext g;have b:=b.ext g;have f:=f.ext g;have j:=j.ext g;refine WP .r (PV.br (us:=[.bool false,.string ⟨#[]⟩,.int .i64 (aN aa _).kind,.string (aN aa _).text]) ke rfl rfl rfl)<|?_;refine WL.go rfl (OX.oH fc b rfl rfl rfl rfl rfl fun mH o _ b=>?_);have K:=H.own o N;have d:=d.cq o (by simp [I]);have f:=f.cq o (by simp [V]);have j:=j.cq o (by simp [jb]);refine(kp) gj b.range<|?_;rw [z];exact⟨rfl,K⟩
theorem pj(hr:ei A w a r c aa):Calls prog 19 #[.slice a r c] w fun e w'=>∃b:Bool,e=.returned (.bool b)∧(b=true↔ao aa)∧aQ [] w w':=by
 have hle:=hr.le;have hlen:=hr.len;refine enter func19 rfl ntmps19 rfl<|?_;have c0:aQ [] w w:=aQ.refl _ _;refine lW ?_;refine WP .r (PV.gT gR rfl)<|cw ?_;refine WC.loop (σ:=Nat) (db:=fun i=>[(0,.slice a r c),(7,.slice a r c),(8,.int .i64 (r:Int)),(9,.int .i64 (i:Int))]) (I:=fun i w'=>aQ [] w w'∧i≤r∧∀j x,j<i→aa[j]?=some x→jI aa j x) (μ:=fun i=>r - i) 0 Sub.t ⟨c0,by omega,fun j x h=>by omega⟩ ?_;rintro i w1 ⟨c1,hi,W⟩;refine(aX) (fun g10=>?_) fun g10=>?_
 ·
  simp at g10
  have H:i<aa.length:=by omega
  obtain⟨VK,S2,S3,wD,_,⟨q1,K,X,rfl,R⟩,S,_⟩:=hr.at (ah H);have wE:=R.len;have hq:=R.le;refine dp ?_;have S:=aV S c1 (by simp);refine bM ?_;refine WP .r (PV.dR gR wD rfl rfl (by omega))<|(bP) uc S<|?_;refine WL.go rfl (OX.alloc He rfl fun b4 w2 Y s=>?_);have s2:=Y.ext;have vi:=Y.kz c1;have c2:=c1.trans s2;refine nx ?_;refine WL.go rfl (OX.oH Cv s rfl rfl rfl rfl rfl fun w3 s3 _ s=>?_);have c3:=c2.own s3 vi;refine dp ?_;refine WP .r (PV.fa ov rfl)<|(bp) ja s.range<|?_;refine WP .r (PV.gT sG rfl)<|(aX) (fun g17=>?_) fun g17=>?_
  ·
   simp at g17
   refine(bB) ?_;exact⟨false,rfl,⟨fun h=>(by cases h),fun h=>absurd (h.2 i _ (ah H)).1 (by omega)⟩,c3⟩
  simp at g17
  refine dp ?_;refine WP .r (PV.fa ov rfl)<|(bp) ja s.range<|?_;refine WP .r (PV.gT sG rfl)<|cw ?_;refine WC.loop (σ:=Nat) (db:=fun k=>[(0,.slice a r c),(7,.slice a r c),(8,.int .i64 (r:Int)),(9,.int .i64 (i:Int)),(3,.int .i64 (i:Int)),(4,.pointer (some ⟨b4,0,none⟩)),(19,.slice q1 K X),(20,.int .i64 (K:Int)),(21,.int .i64 (k:Int))]) (I:=fun k w'=>aQ [] w w'∧bJ w' b4 71 [.bool aa[i].ring,.slice q1 K X,.int .i64 aa[i].final,.int .i64 aa[i].c]∧k≤K∧∀j x,j<k→aa[i].asks[j]?=some x→dL aa i aa[i].ring j x=true) (μ:=fun k=>K - k) 0 Sub.t ⟨c3,s,by omega,fun j x h=>by omega⟩ ?_;rintro k w4 ⟨c4,s,hk,Q⟩;refine(aX) (fun g22=>?_) fun g22=>?_
  ·
   simp at g22
   have T:k<aa[i].asks.length:=by omega
   obtain⟨VL,VM,VN,yP,_,rfl,Ns,_⟩:=(R.ext c4).at (ah T);refine fb ?_;refine WP .r (PV.dR sG yP rfl rfl (by omega))<|(bP) l6 Ns<|?_;refine WL.go rfl (OX.alloc La rfl fun b6 w5 U E=>?_);have s5:=U.ext;have Ab:=U.kz c4;have rG:b4≠b6:=U.ne s.lt;have Aa:b6≠b4:=Ne.symm rG;have c5:=c4.trans s5;have s:=s.ext s5;refine nx ?_;refine WL.go rfl (OX.oH zP E rfl rfl rfl rfl rfl fun w6 s6 _ E=>?_);have V:=c5.own s6 Ab;have s:=s.cq s6 (by simp [rG]);refine cv ?_;refine WC.jF (t:=63) (v:=.bool (!dL aa i aa[i].ring k aa[i].asks[k])) (aQ [] w6) ?_<|?_
   ·
    refine(bP) l6 E.range<|?_;refine WP .r (PV.fa zU rfl)<|(bp) aP E.range<|(cJ) Pr (uh (x:=aa[i].asks[k]) (n:=aa[i].asks[k].n) (hr.ext V) H) ?_;rintro _ w7 ⟨rfl,G⟩;have L:=V.trans G;have s:=s.ext G;have E:=E.ext G;refine(cO) (fun m=>?_) (fun m=>?_)
    ·
     refine aT ?_;refine aT ?_;exact(cp) (by unfold dL;simp at m;first | (simp [m];done) | (exfalso;simp_all;done) | (simp_all;done) | (simp [m];rw [Bool.eq_iff_iff];simp;done) | (simp [m];rw [Bool.eq_iff_iff];simp;omega) | (simp [m];omega) | (simp_all;omega)) G
    refine WP .r (PV.fa rq rfl)<|(bp) dd E.range<|(cO) (fun p=>?_) (fun p=>?_)
    ·
     refine WP .r (PV.fa iF rfl)<|(bp) dd s.range<|(cO) (fun z=>?_) (fun z=>?_)
     ·
      refine aT ?_;refine aT ?_;exact(cp) (by unfold dL;simp at m p z;first | (simp [m,p,z];done) | (exfalso;simp_all;done) | (simp_all;done) | (simp [m,p,z];rw [Bool.eq_iff_iff];simp;done) | (simp [m,p,z];rw [Bool.eq_iff_iff];simp;omega) | (simp [m,p,z];omega) | (simp_all;omega)) G
     refine(cO) (fun D=>?_) (fun D=>?_)
     ·
      refine aT ?_;exact(cp) (by unfold dL;simp at m p z D;first | (simp [m,p,z,D];done) | (exfalso;simp_all;done) | (simp_all;done) | (simp [m,p,z,D];rw [Bool.eq_iff_iff];simp;done) | (simp [m,p,z,D];rw [Bool.eq_iff_iff];simp;omega) | (simp [m,p,z,D];omega) | (simp_all;omega)) G
     refine(bP) l6 E.range<|?_;refine WP .r (PV.fa ru rfl)<|(bp) aP E.range<|(cJ) Pr (uh (x:=aa[i].asks[k]) (n:=aa[i].asks[k].yZ) (hr.ext L) H) ?_;rintro _ w8 ⟨rfl,J⟩;have c8:=L.trans J;have s:=s.ext J;have E:=E.ext J;refine(cO) (fun F=>?_) (fun F=>?_)
     ·
      exact(cp) (by unfold dL;simp at m p z D F;first | (simp [m,p,z,D,F];done) | (exfalso;simp_all;done) | (simp_all;done) | (simp [m,p,z,D,F];rw [Bool.eq_iff_iff];simp;done) | (simp [m,p,z,D,F];rw [Bool.eq_iff_iff];simp;omega) | (simp [m,p,z,D,F];omega) | (simp_all;omega)) (G.trans J)
     refine WP .r (PV.fa rq rfl)<|(bp) dd E.range<|(cO) (fun B=>?_) (fun B=>?_)
     ·
      refine WP .r (PV.fa ru rfl)<|(bp) aP E.range<|?_;exact(cp) (by unfold dL;simp at m p z D F B;first | (simp [m,p,z,D,F,B];done) | (exfalso;simp_all;done) | (simp_all;done) | (simp [m,p,z,D,F,B];rw [Bool.eq_iff_iff];simp;done) | (simp [m,p,z,D,F,B];rw [Bool.eq_iff_iff];simp;omega) | (simp [m,p,z,D,F,B];omega) | (simp_all;omega)) (G.trans J)
     exact(cp) (by unfold dL;simp at m p z D F B;first | (simp [m,p,z,D,F,B];done) | (exfalso;simp_all;done) | (simp_all;done) | (simp [m,p,z,D,F,B];rw [Bool.eq_iff_iff];simp;done) | (simp [m,p,z,D,F,B];rw [Bool.eq_iff_iff];simp;omega) | (simp [m,p,z,D,F,B];omega) | (simp_all;omega)) (G.trans J)
    refine aT ?_;refine fj ?_;refine WP .r (PV.fa rq rfl)<|(bp) dd E.range<|(cO) (fun B=>?_) (fun B=>?_)
    ·
     refine WP .r (PV.fa ru rfl)<|(bp) aP E.range<|?_;exact(cp) (by unfold dL;simp at m p B;first | (simp [m,p,B];done) | (exfalso;simp_all;done) | (simp_all;done) | (simp [m,p,B];rw [Bool.eq_iff_iff];simp;done) | (simp [m,p,B];rw [Bool.eq_iff_iff];simp;omega) | (simp [m,p,B];omega) | (simp_all;omega)) G
    exact(cp) (by unfold dL;simp at m p B;first | (simp [m,p,B];done) | (exfalso;simp_all;done) | (simp_all;done) | (simp [m,p,B];rw [Bool.eq_iff_iff];simp;done) | (simp [m,p,B];rw [Bool.eq_iff_iff];simp;omega) | (simp [m,p,B];omega) | (simp_all;omega)) G
   intro w7 G;have L:=V.trans G;have s:=s.ext G;have E:=E.ext G;refine(aX) (fun N=>?_) fun N=>?_
   ·
    simp at N
    refine aT ?_;refine(bB) ?_;exact⟨false,rfl,⟨fun h=>(by cases h),fun h=>absurd ((h.2 i _ (ah H)).2.1 k _ (ah T)) (by simp [N])⟩,L⟩
   simp at N
   refine fb ?_;refine EX.again (k+1) (Sub.k4 rfl rfl rfl rfl<|Sub.k4 rfl rfl rfl rfl<|Sub.ir rfl (by simp)<|Sub.nil) ⟨L,s,by omega,cH T Q N⟩ (by omega)
  simp at g22
  have Q:∀j x,aa[i].asks[j]?=some x→dL aa i aa[i].ring j x=true:=fun j x O=>Q j x (by have:=(List.getElem?_eq_some_iff.1 O).1;omega) O;refine fj ?_;refine WC.jF (t:=106) (v:=.bool (!fH aa[i])) (fun wx=>w4=wx) ?_ ?_
  ·
   refine nx ?_;refine WP .r (PV.fa iF rfl)<|(bp) dd s.range<|(cO) (fun d=>?_) (fun d=>?_)
   ·
    refine WP .r (PV.fa mG rfl)<|(bp) aP s.range<|(cO) (fun o=>?_) (fun o=>?_)
    ·
     refine aT ?_;refine aT ?_;exact(cp) (by unfold fH;simp at d o;first | (simp [d,o];done) | (exfalso;simp_all;done) | (simp_all;done) | (simp [d,o];rw [Bool.eq_iff_iff];simp;done) | (simp [d,o];rw [Bool.eq_iff_iff];simp;omega) | (simp [d,o];omega) | (simp_all;omega)) rfl
    refine WP .r (PV.fa jg rfl)<|(bp) aP s.range<|(cO) (fun q=>?_) (fun q=>?_)
    ·
     refine aT ?_;refine aT ?_;exact(cp) (by unfold fH;simp at d o q;first | (simp [d,o,q];done) | (exfalso;simp_all;done) | (simp_all;done) | (simp [d,o,q];rw [Bool.eq_iff_iff];simp;done) | (simp [d,o,q];rw [Bool.eq_iff_iff];simp;omega) | (simp [d,o,q];omega) | (simp_all;omega)) rfl
    refine WP .r (PV.fa jg rfl)<|(bp) aP s.range<|(cO) (fun y=>?_) (fun y=>?_)
    ·
     refine aT ?_;refine aT ?_;exact(cp) (by unfold fH;simp at d o q y;first | (simp [d,o,q,y];done) | (exfalso;simp_all;done) | (simp_all;done) | (simp [d,o,q,y];rw [Bool.eq_iff_iff];simp;done) | (simp [d,o,q,y];rw [Bool.eq_iff_iff];simp;omega) | (simp [d,o,q,y];omega) | (simp_all;omega)) rfl
    refine WP .r (PV.fa iF rfl)<|(bp) dd s.range<|(cO) (fun f=>?_) (fun f=>?_)
    ·
     refine WP .r (PV.fa mG rfl)<|(bp) aP s.range<|(cO) (fun g=>?_) (fun g=>?_)
     ·
      refine aT ?_;exact(cp) (by unfold fH;simp at d o q y f g;first | (simp [d,o,q,y,f,g];done) | (exfalso;simp_all;done) | (simp_all;done) | (simp [d,o,q,y,f,g];rw [Bool.eq_iff_iff];simp;done) | (simp [d,o,q,y,f,g];rw [Bool.eq_iff_iff];simp;omega) | (simp [d,o,q,y,f,g];omega) | (simp_all;omega)) rfl
     refine WP .r (PV.fa mG rfl)<|(bp) aP s.range<|(cO) (fun u=>?_) (fun u=>?_)
     ·
      exact(cp) (by unfold fH;simp at d o q y f g u;first | (simp [d,o,q,y,f,g,u];done) | (exfalso;simp_all;done) | (simp_all;done) | (simp [d,o,q,y,f,g,u];rw [Bool.eq_iff_iff];simp;done) | (simp [d,o,q,y,f,g,u];rw [Bool.eq_iff_iff];simp;omega) | (simp [d,o,q,y,f,g,u];omega) | (simp_all;omega)) rfl
     refine WP .r (PV.fa jg rfl)<|(bp) aP s.range<|(cO) (fun C=>?_) (fun C=>?_)
     ·
      exact(cp) (by unfold fH;simp at d o q y f g u C;first | (simp [d,o,q,y,f,g,u,C];done) | (exfalso;simp_all;done) | (simp_all;done) | (simp [d,o,q,y,f,g,u,C];rw [Bool.eq_iff_iff];simp;done) | (simp [d,o,q,y,f,g,u,C];rw [Bool.eq_iff_iff];simp;omega) | (simp [d,o,q,y,f,g,u,C];omega) | (simp_all;omega)) rfl
     refine WP .r (PV.fa jg rfl)<|(bp) aP s.range<|?_;exact(cp) (by unfold fH;simp at d o q y f g u C;first | (simp [d,o,q,y,f,g,u,C];done) | (exfalso;simp_all;done) | (simp_all;done) | (simp [d,o,q,y,f,g,u,C];rw [Bool.eq_iff_iff];simp;done) | (simp [d,o,q,y,f,g,u,C];rw [Bool.eq_iff_iff];simp;omega) | (simp [d,o,q,y,f,g,u,C];omega) | (simp_all;omega)) rfl
    refine aT ?_;exact(cp) (by unfold fH;simp at d o q y f;first | (simp [d,o,q,y,f];done) | (exfalso;simp_all;done) | (simp_all;done) | (simp [d,o,q,y,f];rw [Bool.eq_iff_iff];simp;done) | (simp [d,o,q,y,f];rw [Bool.eq_iff_iff];simp;omega) | (simp [d,o,q,y,f];omega) | (simp_all;omega)) rfl
   refine aT ?_;refine cv ?_;refine WP .r (PV.fa iF rfl)<|(bp) dd s.range<|(cO) (fun f=>?_) (fun f=>?_)
   ·
    refine WP .r (PV.fa mG rfl)<|(bp) aP s.range<|(cO) (fun g=>?_) (fun g=>?_)
    ·
     refine aT ?_;exact(cp) (by unfold fH;simp at d f g;first | (simp [d,f,g];done) | (exfalso;simp_all;done) | (simp_all;done) | (simp [d,f,g];rw [Bool.eq_iff_iff];simp;done) | (simp [d,f,g];rw [Bool.eq_iff_iff];simp;omega) | (simp [d,f,g];omega) | (simp_all;omega)) rfl
    refine WP .r (PV.fa mG rfl)<|(bp) aP s.range<|(cO) (fun u=>?_) (fun u=>?_)
    ·
     exact(cp) (by unfold fH;simp at d f g u;first | (simp [d,f,g,u];done) | (exfalso;simp_all;done) | (simp_all;done) | (simp [d,f,g,u];rw [Bool.eq_iff_iff];simp;done) | (simp [d,f,g,u];rw [Bool.eq_iff_iff];simp;omega) | (simp [d,f,g,u];omega) | (simp_all;omega)) rfl
    refine WP .r (PV.fa jg rfl)<|(bp) aP s.range<|(cO) (fun C=>?_) (fun C=>?_)
    ·
     exact(cp) (by unfold fH;simp at d f g u C;first | (simp [d,f,g,u,C];done) | (exfalso;simp_all;done) | (simp_all;done) | (simp [d,f,g,u,C];rw [Bool.eq_iff_iff];simp;done) | (simp [d,f,g,u,C];rw [Bool.eq_iff_iff];simp;omega) | (simp [d,f,g,u,C];omega) | (simp_all;omega)) rfl
    refine WP .r (PV.fa jg rfl)<|(bp) aP s.range<|?_;exact(cp) (by unfold fH;simp at d f g u C;first | (simp [d,f,g,u,C];done) | (exfalso;simp_all;done) | (simp_all;done) | (simp [d,f,g,u,C];rw [Bool.eq_iff_iff];simp;done) | (simp [d,f,g,u,C];rw [Bool.eq_iff_iff];simp;omega) | (simp [d,f,g,u,C];omega) | (simp_all;omega)) rfl
   refine aT ?_;exact(cp) (by unfold fH;simp at d f;first | (simp [d,f];done) | (exfalso;simp_all;done) | (simp_all;done) | (simp [d,f];rw [Bool.eq_iff_iff];simp;done) | (simp [d,f];rw [Bool.eq_iff_iff];simp;omega) | (simp [d,f];omega) | (simp_all;omega)) rfl
  rintro _ rfl;refine(aX) (fun P=>?_) fun P=>?_
  ·
   simp at P
   refine(bB) ?_;exact⟨false,rfl,⟨fun h=>(by cases h),fun h=>absurd (h.2 i _ (ah H)).2.2 (by simp [P])⟩,c4⟩
  simp at P
  refine fb ?_;refine EX.again (i+1) (Sub.k2 rfl rfl<|Sub.cons rfl<|Sub.ir rfl (by simp)<|Sub.nil) ⟨c4,by omega,cH H W ⟨by omega,Q,P⟩⟩ (by omega)
 simp at g10
 have lL:∀j x,aa[j]?=some x→jI aa j x:=fun j x O=>W j x (by have:=(List.getElem?_eq_some_iff.1 O).1;omega) O;refine gW ?_;refine WP .r (PV.gT gR rfl)<|(bB) ?_;exact⟨_,rfl,⟨fun h=>⟨by simp at h;omega,lL⟩,fun h=>by have:=h.1;simp;omega⟩,c1⟩
set_option maxHeartbeats 400000
theorem xR :CR prog 5 #[.slice a n c] w (.bool (decide (n≤400))):=by
 refine enter func5 rfl ntmps5 rfl<|?_;have c0:aQ [] w w:=aQ.refl _ _;refine gW ?_;refine WP .r (PV.gT zO rfl)<|(bB) ?_;exact⟨by congr 2;exact decide_eq_decide.2 (by omega),c0⟩
theorem Ac{l:List Int}(hl:Ints A w a n c l) (f:n≤400):Calls prog 7 #[.slice a n c] w fun e w'=>∃d,e=.returned (.pointer (some ⟨d,0,none⟩))∧w.heap.size≤d∧y7 A w' 67 d∧aQ [] w w':=by
 refine enter func7 rfl ntmps7 rfl<|?_;have c0:aQ [] w w:=aQ.refl _ _;refine gW ?_;refine WP .r (PV.br (us:=[.slice a n c,.int .i64 0]) UD rfl rfl rfl)<|?_;refine WL.go rfl (OX.box rfl rfl rfl fun b5 w1 b g=>?_);have s1:=b.ext;have h:=b.kz c0;have c1:=c0.trans s1;refine(bB) ?_;exact⟨_,rfl,h,⟨l,a,n,c,0,g,SR.ext hl c1,f,by omega⟩,c1⟩
theorem Ad{m:Int}{d:Nat}(o:y7 A w 67 d) (f:¬A d) (hm:m≤4611686018427387904):Calls prog 29 #[.pointer (some ⟨d,0,none⟩),.int .i64 m] w fun e w'=>∃z:Int,e=.returned (.int .i64 z)∧0≤z∧(1≤m→z<m)∧aQ [d] w w'∧y7 A w' 67 d:=by
 obtain⟨l,a,n,c,t,hb,hl,i,p⟩:=o;have hlen:=SR.len hl;refine enter func29 rfl ntmps29 rfl<|?_;have c0:aQ [d] w w:=aQ.refl _ _;refine fb ?_;refine WC.drawn (m:=9) (C:=aQ [] w) (T:=fun _=>aQ []) (E:=cA []) (bz (trivial)) mixed (by kernel_rfl) (aQ.drew _ _)<|bM ?_;refine DP .r (fun _ b=>PV.fa ve rfl)<|DP .r (fun _ b=>PV.ld1 aP (hb.ext b).range rfl rfl)<|bM ?_;refine DP .r (fun _ b=>PV.fa EJ rfl)<|DP .r (fun _ b=>PV.ld1 IQ (hb.ext b).range rfl rfl)<|DP .r (fun _ b=>PV.gT zO rfl)<|(cM)<|?_;rintro w1 s1 _;have c1:=c0.trans s1.nil;have hb:=hb.ext s1;refine(aX) (fun g14=>?_) fun g14=>?_
 ·
  skip
  refine(bB) ?_;exact⟨0,rfl,by omega,fun h=>by omega,c1,l,a,n,c,t,hb,SR.cq hl c1 (by simpa using f) (fun _ _ h=>h),i,p⟩
 simp at g14
 obtain⟨v,y,B,q,_,s,g,u⟩:=SR.at hl (ah (show t<l.length by omega));subst s;refine fj ?_;refine WP .r (PV.fa ve rfl)<|(bp) aP hb.range<|bM ?_;refine WP .r (PV.fa ve rfl)<|?_;refine WL.go rfl (OX.st IW hb rfl rfl (by first | (simp [nth];done) | exact SH rfl) rfl rfl fun w2 s2 _ hb=>?_);have c2:=c1.trans s2;refine cv ?_;have g:=aV g c2 (by simp;rintro rfl;exact f u);refine WC.drawn (m:=12) (C:=aQ [] w2) (T:=fun _=>aQ []) (E:=cA []) (bz (trivial)) mixed (by kernel_rfl) (aQ.drew _ _)<|bM ?_;refine DP .r (fun _ b=>PV.fa EJ rfl)<|DP .r (fun _ b=>PV.ld1 IQ (hb.ext b).range rfl rfl)<|bM ?_;refine DP .r (fun _ b=>PV.fa ve rfl)<|DP .r (fun _ b=>PV.ld1 aP (hb.ext b).range rfl rfl)<|nx ?_;refine DP .r (fun _ b=>PV.BD zO (t) q rfl rfl (by omega) (by omega))<|DP .r (fun _ b=>PV.ky aP (aV g b (by simp)) rfl rfl)<|(cM) ?_;rintro w3 j _;have c3:=c2.trans j.nil;have hb:=hb.ext j;refine(cJ) Vh (CB (n:=l[t]) (m:=m) (by omega)) ?_;rintro _ w4 ⟨rfl,k⟩;have c4:=c3.trans k.nil;have hb:=hb.ext k;refine(bB) ?_;refine⟨_,rfl,?_,?_,c4,l,a,n,c,t+1,?_,SR.cq hl c4 (by simpa using f) (fun _ _ h=>h),i,by omega⟩
 ·
  split
  ·
   omega
  exact Int.emod_nonneg _ (by omega)
 ·
  intro h;rw [if_neg (by omega)];exact Int.emod_lt_of_pos _ (by omega)
 exact hb
def words:List ByteArray:=[⟨#[48]⟩,⟨#[49]⟩,⟨#[50]⟩,⟨#[51]⟩,⟨#[55]⟩,⟨#[49,48,48]⟩,⟨#[]⟩,⟨#[120]⟩,⟨#[49,54]⟩,⟨#[49]⟩]
theorem EZ:∀s∈words,s.size≤100:=by decide
set_option maxHeartbeats 400000
theorem sH(j:St w M Z w []) (hk:Rd RR.key 2 Z w a n c x.reads) (o:x.reads.length≤4000):Calls prog 103 #[.agg (x.row a n c).toArray] w fun e w'=>∃d f g,e=.returned (.agg (x.row d f g).toArray)∧St w M Z w' [As.os RR.key 43 2 d f g x.reads]:=by
 have p:=hk.len;refine enter func103 rfl ntmps103 rfl<|?_;have aO:=j;have st1:=aO.fr hk;have st2:=st1.fV RR.key 43 2;refine(dx) st2 fun b1 w1 q s k=>?_;refine(gx) k fun b2 w2 t u b=>?_;refine(bp) fG b.b1<|?_;refine WL.ap rfl rfl b.p2 ((As.gr b.g3)) fun a5 v w3 y z m=>?_;refine nx ?_;refine WL.s1 m.p2 fun w4 _ h=>?_;refine(bP) fI h.b0<|(dZ) mF h.p2 fun w5 B C i=>?_;refine(kp) fI i.b0<|?_;exact⟨_,_,_,rfl,i.p2.k1⟩
theorem xS(C:St w M Z w []) (hl:Rd RR.iV 8 Z w a n c l) (X:l.length≤1000000):Calls prog 62 #[.slice a n c] w fun e w'=>∃p q s Z',e=.returned (.slice p q s)∧fE w.heap.size Z Z'∧St w M Z' w' [As.os RR.iV 50 8 p q s l]:=by
 have hlen:=hl.len;have hle:=hl.le;refine enter func62 rfl ntmps62 rfl<|?_;have aO:=C;have st1:=aO.fr hl;have st2:=st1.fV RR.iV 50 8;refine aT ?_;refine fb ?_;refine WC.nf (σ:=Nat × (Nat→Prop) × (List Rec) × (Option Addr) × Nat × Nat) (db:=fun(i,d,acc,f,b,g)=>[(3,.slice f b g),(6,.slice a n c),(7,.int .i64 (n:Int)),(8,.int .i64 (i:Int))]) (F:=fun(i,d,acc,f,b,g)=>[As.os RR.iV 50 8 f b g (acc)]) (I:=fun(i,d,acc,f,b,g)=>(i≤n)∧(fE w.heap.size Z d)∧(acc=l.take i)∧True) (μ:=fun(i,d,acc,f,b,g)=>n - i) (Zf:=fun(i,d,acc,f,b,g)=>d) (0,Z,[],none,0,0) (st2) Sub.t (⟨by omega,fE.refl _ _,by simp,trivial⟩)<|?_;rintro⟨i,d,acc,f,b,g⟩ w1 h ⟨hi,m,j,_⟩;simp only [CA,NA] at h hi m j ⊢;have Y:=((As.gs h.g0)).len
 have htk:acc.length≤1000000:=by rw [j,List.length_take];omega
 refine(aX) (fun g9=>?_) fun g9=>?_
 ·
  simp at g9
  have u:i<l.length:=by omega
  refine dp ?_;obtain⟨jj,sJ,sK,D,ma,E,G,H⟩:=Rd.at (As.gr h.g1) u;obtain⟨q1,q2,q3,rfl,J,v⟩:=E;have K:=h.fg H G;have y:=K.fr J;refine nx ?_;refine WP .r (PV.dR lM D rfl rfl (by omega))<|(bP) fI (As.nS y.g1)<|(gx) y fun b5 w2 QF QG L=>?_;refine(dZ) mF L fun w3 nT rH z=>?_;refine(bP) fI z.b0<|?_;have k:=z;refine(cJ) Py (sH k.e0 (As.gr k.g1) v) ?_;rintro _ w4 ⟨e1,e2,e3,rfl,B⟩;have N:=St.lr k B;have O:=St.gV B;have hsz:=k.size;have P:=N.eX (by omega);have Q:=m.trans (fE.wt (F:=fun x=>x∈bA e1) O) hsz;refine WL.go rfl (OX.aS (us:=l[i].row e1 e2 e3) Et rfl rfl rfl rfl fun b15 w5 R S=>?_);have o:=P.df R S;refine WL.ap rfl rfl o.p5 (SR.dr (A:=fun _=>True) (x:=l[i]) (As.gb o.g0) trivial rfl (Rec.one _ _ _ _) ⟨e1,e2,e3,rfl,(As.gr o.g1),v⟩) fun T U w6 adM adN V=>?_;refine gW ?_;refine fx (i+1,_,acc++[l[i]],T,(b+1),U) ⟨V.p6.p1.k2,⟨by omega,Q,by rw [j,List.take_succ_eq_append_getElem u],trivial⟩⟩
 simp at g9
 have W:acc=l:=by rw [j];exact List.take_of_length_le (by omega)
 subst W;refine(bB) ?_;exact⟨_,_,_,_,rfl,m,h.p1.drop⟩
theorem vj(hk:Rd RR.key 2 Z w a n c x.reads):CR prog 104 #[.agg (x.row a n c).toArray] w (.bool (dm x)):=by
 have hlen:=SR.len hk;have hle:=SR.le hk;refine enter func104 rfl ntmps104 rfl<|?_;have c0:aQ [] w w:=aQ.refl _ _;refine bM ?_;refine WL.go rfl (OX.box rfl rfl rfl fun b1 w1 J b=>?_);have s1:=J.ext;have Q:=J.kz c0;have c1:=c0.trans s1;refine fj ?_;refine WP .r (PV.fa zR rfl)<|(bp) fG b.range<|?_;refine WP .r (PV.gT ez rfl)<|cw ?_;refine WC.loop (σ:=Nat) (db:=fun i=>[(1,.pointer (some ⟨b1,0,none⟩)),(6,.slice a n c),(7,.int .i64 (n:Int)),(8,.int .i64 (i:Int))]) (I:=fun i w'=>aQ [] w w'∧bJ w' b1 50 (x.row a n c)∧i≤n∧∀j y,j<i→x.reads[j]?=some y→ek y=true) (μ:=fun i=>n - i) 0 Sub.t ⟨c1,b,by omega,fun j y h=>by omega⟩ ?_;rintro i w2 ⟨c2,b,hi,K⟩;refine(aX) (fun g9=>?_) fun g9=>?_
 ·
  simp at g9
  have C:i<x.reads.length:=by omega
  refine dp ?_;obtain⟨R,S,T,N,_,D,E,_⟩:=SR.at hk (ah C);have D:=RR.bt D;subst D;have E:=aV E c2 (by simp);refine nx ?_;refine WP .r (PV.dR ez N rfl rfl (by omega))<|(bP) ak E<|?_;refine WL.go rfl (OX.alloc ED rfl fun b4 w3 F u=>?_);have d:=F.ext;have O:=F.kz c2;have L:b1≠b4:=F.ne b.lt;have U:b4≠b1:=Ne.symm L;have c3:=c2.trans d;have b:=b.ext d;refine WL.go rfl (OX.oH gk u rfl rfl rfl rfl rfl fun w4 e _ u=>?_);have c4:=c3.own e O;have b:=b.cq e (by simp [L]);refine(bP) ak u.range<|(cJ) EL (gl (k:=x.reads[i])) ?_;rintro _ w5 ⟨rfl,p⟩;have c5:=c4.trans p;have b:=b.ext p;have u:=u.ext p;refine(aX) (fun g14=>?_) fun g14=>?_
  ·
   simp at g14
   have G:dm x=false:=by unfold dm;rw [Bool.and_eq_false_iff];left;rw [List.all_eq_false];exact⟨_,List.getElem_mem C,by simp [g14]⟩
   refine(bB) ?_;exact⟨by rw [G],c5⟩
  simp at g14
  refine fb ?_;refine EX.again (i+1) (Sub.k2 rfl rfl<|Sub.cons rfl<|Sub.ir rfl (by simp)<|Sub.nil) ⟨c5,b,by omega,cH C K g14⟩ (by omega)
 simp at g9
 have G:dm x=eK x:=by
  unfold dm
  rw [show x.reads.all ek=true from List.all_eq_true.2 fun y hy=>by obtain⟨j,P,rfl⟩:=List.mem_iff_getElem.1 hy;exact K j _ (by omega) (ah P)]
  rfl
 refine fj ?_;refine WC.kC (t:=2) (v:=.bool (eK x)) (aQ [] w2) ?_<|?_
 ·
  refine nx ?_;refine WP .r (PV.fa ou rfl)<|(ko) ak b.range<|(cJ) EL (gl (k:=x.key)) ?_;rintro _ w3 ⟨rfl,d⟩;have c3:=c2.trans d;have b:=b.ext d;refine(cO) (fun g19=>?_) (fun g19=>?_)
  ·
   refine WP .r (PV.fa ou rfl)<|(ko) ak b.range<|(cJ) HE (dP (k:=x.key)) ?_;rintro _ w4 ⟨rfl,e⟩;have c4:=c3.trans e;have b:=b.ext e;refine(cO) (fun f=>?_) (fun f=>?_)
   ·
    refine WP .r (PV.fa EG rfl)<|(bp) ff b.range<|?_;refine WP .r (PV.uu rj rfl)<|(cO) (fun g=>?_) (fun g=>?_)
    ·
     refine WP .r (PV.fa zR rfl)<|(bp) fG b.range<|?_;refine WP .r (PV.gT ez rfl)<|(cO) (fun m=>?_) (fun m=>?_)
     ·
      refine WP .r (PV.fa zS rfl)<|(bp) aP b.range<|(cO) (fun o=>?_) (fun o=>?_)
      ·
       refine WP .r (PV.fa zS rfl)<|(bp) aP b.range<|?_;refine WP .r (PV.fa vd rfl)<|(bp) aP b.range<|(cO) (fun q=>?_) (fun q=>?_)
       ·
        refine WP .r (PV.fa vd rfl)<|(bp) aP b.range<|(cO) (fun s=>?_) (fun s=>?_)
        ·
         refine WP .r (PV.fa zT rfl)<|(bp) aP b.range<|(cO) (fun z=>?_) (fun z=>?_)
         ·
          refine WP .r (PV.fa zT rfl)<|(bp) aP b.range<|(cO) (fun B=>?_) (fun B=>?_)
          ·
           refine WP .r (PV.fa EH rfl)<|(bp) dd b.range<|(cO) (fun H=>?_) (fun H=>?_)
           ·
            exact(fF) (by unfold eK;simp only [g19,f,g,m,o,q,s,z,B,H,← hlen];first | rfl | simp) (d.trans e)
           refine WP .r (PV.fa ou rfl)<|(ko) ak b.range<|(cJ) Lq (ib (k:=x.key)) ?_;rintro _ w5 ⟨rfl,p⟩;have c5:=c4.trans p;have b:=b.ext p;exact(fF) (by unfold eK;simp only [g19,f,g,m,o,q,s,z,B,H,← hlen];first | rfl | simp) ((d.trans e).trans p)
          exact(fF) (by unfold eK;simp only [g19,f,g,m,o,q,s,z,B,← hlen];first | rfl | simp) (d.trans e)
         refine aT ?_;exact(fF) (by unfold eK;simp only [g19,f,g,m,o,q,s,z,← hlen];first | rfl | simp) (d.trans e)
        refine aT ?_;exact(fF) (by unfold eK;simp only [g19,f,g,m,o,q,s,← hlen];first | rfl | simp) (d.trans e)
       refine aT ?_;refine aT ?_;exact(fF) (by unfold eK;simp only [g19,f,g,m,o,q,← hlen];first | rfl | simp) (d.trans e)
      refine aT ?_;refine aT ?_;exact(fF) (by unfold eK;simp only [g19,f,g,m,o,← hlen];first | rfl | simp) (d.trans e)
     refine aT ?_;refine aT ?_;refine aT ?_;exact(fF) (by unfold eK;simp only [g19,f,g,m,← hlen];first | rfl | simp) (d.trans e)
    refine aT ?_;refine aT ?_;refine aT ?_;exact(fF) (by unfold eK;simp only [g19,f,g,← hlen];first | rfl | simp) (d.trans e)
   refine aT ?_;refine aT ?_;refine aT ?_;refine aT ?_;exact(fF) (by unfold eK;simp only [g19,f,← hlen];first | rfl | simp) (d.trans e)
  refine aT ?_;refine aT ?_;refine aT ?_;refine aT ?_;exact(fF) (by unfold eK;simp only [g19,← hlen];first | rfl | simp) d
 intro w3 d;have c3:=c2.trans d;have b:=b.ext d;refine(bB) ?_;exact⟨by rw [G],c3⟩
theorem pO(hl:Rd RR.iV 8 Z w a n c l):Calls prog 63 #[.slice a n c] w fun e w'=>∃b:Bool,e=.returned (.bool b)∧(b=true↔kJ l)∧aQ [] w w':=by
 have hlen:=SR.len hl;have hle:=SR.le hl;refine enter func63 rfl ntmps63 rfl<|?_;have c0:aQ [] w w:=aQ.refl _ _;refine lW ?_;refine WP .r (PV.gT lM rfl)<|cw ?_;refine WC.loop (σ:=Nat) (db:=fun i=>[(0,.slice a n c),(5,.slice a n c),(6,.int .i64 (n:Int)),(7,.int .i64 (i:Int))]) (I:=fun i w'=>aQ [] w w'∧i≤n∧∀j y,j<i→l[j]?=some y→nb l j y) (μ:=fun i=>n - i) 0 Sub.t ⟨c0,by omega,fun j y h=>by omega⟩ ?_;rintro i w1 ⟨c1,hi,u⟩;refine(aX) (fun g8=>?_) fun g8=>?_
 ·
  simp at g8
  have p:i<l.length:=by omega
  have d:=getElem!_pos l i p;obtain⟨Q,R,S,K,_,⟨q1,U,V,rfl,L,W⟩,z,_⟩:=SR.at hl (ah p);refine dp ?_;have z:=aV z c1 (by simp);refine bM ?_;refine WP .r (PV.dR lM K rfl rfl (by omega))<|(bP) fI z<|?_;refine WL.go rfl (OX.alloc EE rfl fun b4 w2 G f=>?_);have s2:=G.ext;have N:=G.kz c1;have c2:=c1.trans s2;refine nx ?_;refine WL.go rfl (OX.oH mF f rfl rfl rfl rfl rfl fun w3 O _ f=>?_);have c3:=c2.own O N;refine cv ?_;refine WC.jF (t:=30) (v:=.bool (nY l i)) (aQ [] w3) ?_<|?_
  ·
   refine WC.drawn (m:=15) (C:=aQ [] w3) (T:=fun _=>aQ []) (E:=cA [(1,fun v _=>v=.bool (dm l[i]))]) (bz (⟨fun _ _ _ _ _ _ _ h=>h,trivial⟩)) mixed (by kernel_rfl) (aQ.drew _ _)<|?_;refine DP .r (fun _ o=>PV.Bx fI (f.ext o).range rfl rfl)<|?_;refine DW.e rfl rfl rfl rfl rfl (fun X o Y=>OX.call Pz rfl rfl ((vj (L.ext (c3.trans o))).mono ?_))<|?_
   ·
    rintro _ wy ⟨rfl,hy⟩;exact⟨_,rfl,o.trans hy,hy,_,rfl,rfl⟩
   rintro _ wz _ rfl;refine(pF) (fun g15=>?_) (fun g15=>?_)
   ·
    refine(cM) ?_;rintro w4 g _;have c4:=c3.trans g;have f:=f.ext g;exact(cp) (by unfold nY;first | (simp only [d,s,g15];done) | (simp only [d,s,g15];rfl) | (simp only [d,g15];rfl) | (simp only [d];rw [Bool.not_eq_true'] at g15;simp [g15]) | (simp only [d];simp at g15 g18;simp [g15,g18])) g
   refine(pF) (fun g18=>?_) (fun g18=>?_)
   ·
    have H:i - 1<l.length:=by omega
    have s:=getElem!_pos l (i - 1) H;have VP:=of_decide_eq_true g18;obtain⟨VL,VM,VN,P,_,⟨p1,p2,p3,rfl,_,_⟩,B,_⟩:=SR.at hl (ah H);have B:=aV B c3 (by simp);refine cv ?_;refine DP .r (fun _ o=>PV.BD lM (i - 1) P rfl rfl (by omega) (by omega))<|DP .r (fun _ o=>PV.fa ou rfl)<|DP .r (fun _ o=>PV.wK ak (aV B o (by simp)) rfl rfl)<|DP .r (fun _ o=>PV.fa ou rfl)<|DP .r (fun _ o=>PV.wK ak (f.ext o).range rfl rfl)<|(cM)<|?_;rintro w4 g _;have c4:=c3.trans g;have f:=f.ext g;refine(cJ) Ll (lH (k:=l[i - 1].key) (q:=l[i].key)) ?_;rintro _ w5 ⟨rfl,D⟩;have c5:=c4.trans D;have f:=f.ext D;exact(cp) (by unfold nY;first | (simp only [d,s,g15,g18];done) | (simp only [d,s,g15,g18];rfl) | (simp only [d,g15,g18];rfl) | (simp only [d];rw [Bool.not_eq_true'] at g15;simp [g15]) | (simp only [d];simp at g15 g18;simp [g15,g18])) (g.trans D)
   refine(cM) ?_;rintro w4 g _;have c4:=c3.trans g;have f:=f.ext g;exact(cp) (by unfold nY;first | (simp only [d,s,g15,g18];done) | (simp only [d,s,g15,g18];rfl) | (simp only [d,g15,g18];rfl) | (simp only [d];rw [Bool.not_eq_true'] at g15;simp [g15]) | (simp only [d];simp at g15 g18;simp [g15,g18])) g
  intro w4 g;have c4:=c3.trans g;have f:=f.ext g;refine(aX) (fun F=>?_) fun F=>?_
  ·
   skip
   refine(bB) ?_;exact⟨false,rfl,⟨fun h=>(by cases h),fun h=>absurd ((nc p).2 (h.2 i _ (ah p))) (by simp [F])⟩,c4⟩
  refine fb ?_;refine EX.again (i+1) (Sub.k2 rfl rfl<|Sub.cons rfl<|Sub.ir rfl (by simp)<|Sub.nil) ⟨c4,by omega,cH p u ((nc p).1 F)⟩ (by omega)
 ·
  simp at g8
  have u:∀j y,l[j]?=some y→nb l j y:=fun j x J=>u j x (by have:=(List.getElem?_eq_some_iff.1 J).1;omega) J;refine gW ?_;refine WP .r (PV.gT lM rfl)<|(bB) ?_;exact⟨_,rfl,⟨fun h=>⟨by simp at h;omega,u⟩,fun h=>by have:=h.1;simp;omega⟩,c1⟩
 -- kX eH G17.T
end Go.Rc

