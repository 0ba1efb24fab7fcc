/- Walks over the program, part WO. Conditions: as each theorem says. -/
import Derived.Test.YtpoiojafnnaccaaGreatDoorUFacts
import Derived.Test.YtpoiojafnnaccaaGreatDoorUWLibE
import Derived.Test.YtpoiojafnnaccaaGreatDoorUBe
import Derived.Test.YtpoiojafnnaccaaGreatDoorUBd
import Derived.Test.YtpoiojafnnaccaaGreatDoorUWF
set_option linter.all false
namespace Go.Rc
open Go Go.Proofs Go.Proofs.Tryz
variable {n r c i r2 e2 n1 e1 n2:Nat}{w:World}{ab:List aJ}{A B C M Z:Nat→Prop}{a a2 a1:Option Addr}{k:Key}{s:ByteArray}{l:List Rec}{ao:List ByteArray}{x:Rec}{f:FuncId}{cap fv:Value}
set_option maxHeartbeats 400000
theorem yA{n:Int} :CR prog 228 #[.int .i64 n] w ((eL n).val):=by
 refine enter func228 rfl ntmps228 rfl<|?_;have aW:=St.s0 w;refine(fT) aW fun b2 w1 lB eZ st1=>?_;refine dF ?_;refine WC.fQ (t:=8) (v:=.bool (decide (n<0) || decide (99<n))) st1 ?_<|?_
 ·
  refine(dT) (fun g5=>?_) (fun g5=>?_)
  ·
   exact(dx) (by simp only [g5];first | rfl | simp) (st1)
  exact(dx) (by simp only [g5];first | rfl | simp) (st1)
 intro w2 st2;refine(bp) (fun g8=>?_) fun g8=>?_
 ·
  have hk:eL n=fW:=by unfold eL;rw [if_pos (by simp at g8;omega)]
  refine(dB) jH st2 fun w3 jC jI aP=>?_;refine(mI) av aP.b0<|?_;rw [hk];exact⟨rfl,(St.cg aP)⟩
 simp at g8
 have hk:eL n=⟨30,itoa n⟩:=by unfold eL;rw [if_neg (by omega)]
 refine(gw) (lP (n:=n) (by omega) (by omega) w2) st2 fun w3 s3 aP=>?_;refine WP .r (PV.cD (us:=[.int .i64 30,.string (itoa n)]) HW rfl rfl rfl)<|(dB) jH aP fun w4 r7 mR aV=>?_;refine(mI) av aV.b0<|?_;rw [hk];exact⟨rfl,(St.cg aV)⟩
theorem FO{n:Int}(hr:iW A w a r c ab):CR prog 185 #[.slice a r c,.int .i64 n] w (.tuple #[.int .i64 (block ab n).1,.int .i64 (block ab n).2]):=by
 have hle:=hr.le;have hlen:=hr.len;refine enter func185 rfl ntmps185 rfl<|?_;have aW:=St.s0 w;refine kJ ?_;refine WC.fQ (t:=15) (v:=.bool (decide (n<0) || decide ((r:Int)≤n))) aW ?_<|?_
 ·
  refine(dT) (fun g10=>?_) (fun g10=>?_)
  ·
   exact(dx) (by simp only [g10];first | rfl | simp) (aW)
  exact(dx) (by simp only [g10];first | rfl | simp) (aW)
 intro w1 st1;refine(bp) (fun g15=>?_) fun g15=>?_
 ·
  have hb:=Dt ab n (by simp at g15;omega);refine(GH) ?_;exact⟨by rw [hb],(St.cg st1)⟩
 obtain⟨nn,rfl⟩:∃i:Nat,n=i:=⟨n.toNat,by simp at g15;omega⟩
 have l3:nn<ab.length:=by simp at g15;omega
 have LF:block ab nn=if aI ab nn then ((cz ab nn:Int),(fw ab (nn+1):Int)) else ((nn:Int),(nn:Int)+1):=by
  unfold block;rw [if_neg (by omega)];rfl
 refine bC ?_;refine nx ?_;obtain⟨Ul,Um,Un,mg,_,⟨q1,q2,q3,rfl,_⟩,oT,_⟩:=(hr.ext (St.cg st1)).at (aq l3);refine dw ?_;refine WP .r (PV.fm lO mg rfl rfl (by omega))<|nx ?_;refine WP .r (PV.ld1 (j:=0) fG oT rfl rfl)<|(bp) (fun g24=>?_) fun g24=>?_
 ·
  simp at g24
  have hb:block ab nn=((nn:Int),(nn:Int)+1):=by rw [LF,if_neg (by rw [da l3,g24];simp)]
  refine(GH) ?_;exact⟨by rw [hb],(St.cg st1)⟩
 simp at g24
 rw [if_pos (by rw [da l3];exact g24)] at LF;refine dF ?_;refine WC.bQ (σ:=Nat) (eI:=fun k=>[(0,.slice a r c),(6,.int .i64 (k:Int)),(7,.int .i64 ((nn:Int)+1))]) (F:=fun k=>[]) (I:=fun k=>(k≤nn)∧(cz ab k=cz ab nn)∧True) (μ:=fun k=>k) (nn) (st1) Sub.t (⟨Nat.le_refl _,rfl,trivial⟩)<|?_;rintro k w2 st2 ⟨hk,Jo,_⟩;simp only [CA,NA] at st2 hk Jo ⊢;refine db ?_;refine WC.fQ (t:=36) (v:=.bool (decide ((0:Int)<k) && aI ab (k - 1))) st2 ?_<|?_
 ·
  refine(dT) (fun oq=>?_) (fun oq=>?_)
  ·
   simp at oq
   obtain⟨b_y,o_y,r_y,BQ,_,⟨q4,q5,q6,rfl,_⟩,xF,_⟩:=(hr.ext (St.cg st2)).at (aq (show k - 1<ab.length by omega));have tD:ab[k-1].ring=aI ab (k-1):=(da (by omega)).symm;refine dw ?_;refine WP .r (PV.Ls lO (i:=k - 1) BQ rfl rfl (by omega) (by omega))<|nx ?_;refine WP .r (PV.ld1 (j:=0) fG xF rfl rfl)<|?_;exact(dx) (by simp [*]) (st2)
  simp at oq
  have Og:¬(0<k):=by omega
  exact(dx) (by simp [*]) (st2)
 intro w3 aP;refine(bp) (fun ir=>?_) fun ir=>?_
 ·
  simp at ir
  obtain⟨g1,g2⟩:=ir;obtain⟨j,rfl⟩:∃j,k=j+1:=⟨k - 1,by omega⟩;refine qC ?_;refine fx (j) ⟨aP,⟨by omega,by rw [← Jo,ve (by simpa using g2)],trivial⟩⟩
 simp at ir
 have YM:(block ab nn).1=k:=by
  rw [LF]
  show(cz ab nn:Int)=k
  rw [← Jo,xO]
  by_cases h0:k=0
  ·
   exact .inl h0
  exact .inr (ir (by omega))
 refine gp ?_;refine WC.bQ (σ:=Nat) (eI:=fun m=>[(0,.slice a r c),(6,.int .i64 (k:Int)),(7,.int .i64 (m:Int))]) (F:=fun m=>[]) (I:=fun m=>(nn+1≤m)∧(m≤r)∧(fw ab m=fw ab (nn+1))∧True) (μ:=fun m=>r - m) (nn+1) (aP) Sub.t (⟨Nat.le_refl _,by omega,rfl,trivial⟩)<|?_;rintro m w4 aV ⟨Cp,jg,Xf,_⟩;simp only [CA,NA] at aV Cp jg Xf ⊢;refine db ?_;refine WC.fQ (t:=49) (v:=.bool (decide ((m:Int)<r) && aI ab m)) aV ?_<|?_
 ·
  refine(dT) (fun oh=>?_) (fun oh=>?_)
  ·
   simp at oh
   obtain⟨b_z,o_z,r_z,ZI,_,⟨q4,q5,q6,rfl,_⟩,ZJ,_⟩:=(hr.ext (St.cg aV)).at (aq (show m<ab.length by omega));have nQ:ab[m].ring=aI ab m:=(da (by omega)).symm
   have NQ:decide ((m:Int)<r)=true:=by simp;omega
   refine db ?_;refine WP .r (PV.fm lO ZI rfl rfl (by omega))<|nx ?_;refine WP .r (PV.ld1 (j:=0) fG ZJ rfl rfl)<|?_;exact(dx) (by first | (rw [nQ,NQ];rfl) | simp [*]) (aV)
  simp at oh
  have Og:¬(m<ab.length):=by omega
  exact(dx) (by first | (rw [nQ,NQ];rfl) | simp [*]) (aV)
 intro w5 bf;refine(bp) (fun wC=>?_) fun wC=>?_
 ·
  simp at wC
  obtain⟨g3,g4⟩:=wC;refine qC ?_;refine fx (m+1) ⟨bf,⟨by omega,by omega,by rw [← Xf,← xN g4],trivial⟩⟩
 simp at wC
 have YN:(block ab nn).2=m:=by
  rw [LF]
  show(fw ab (nn+1):Int)=m
  rw [← Xf,zO]
  rcases Nat.lt_or_ge m r with h0 | h0
  ·
   exact wC (by omega)
  exact pQ (by omega)
 refine bC ?_;refine(GH) ?_;exact⟨by rw [YM,YN],(St.cg bf)⟩
theorem uQ{cell:Bool}{n:Int}(hr:iW A w a r c ab) (hi:i<ab.length):CR prog 166 #[.slice a r c,.int .i64 (i:Int),.bool cell,.int .i64 n] w (.bool (iX ab i cell n)):=by
 have hle:=hr.le;have hlen:=hr.len;have lL:=da hi;have hbw:=JT hi
 have ht:il ab i=if ab[i].ring=true then (block ab (i:Int)).2 else (block ab (i:Int)).1:=by unfold il;rw [lL]
 refine enter func166 rfl ntmps166 rfl<|?_;have aW:=St.s0 w;refine(bp) (fun g11=>?_) fun g11=>?_
 ·
  refine nx ?_;refine WC.mw (t:=8) (v:=.bool (decide (0≤n) && decide (n≤15))) aW ?_<|?_
  ·
   refine(dT) (fun g14=>?_) (fun g14=>?_)
   ·
    exact(iw) (by simp only [g14];first | rfl | simp) (aW)
   exact(iw) (by simp only [g14];first | rfl | simp) (aW)
  intro w1 st1;refine(cm) ?_;exact⟨by unfold iX;rw [if_pos g11],(St.cg st1)⟩
 refine(gw) (FO (n:=(i:Int)) (hr.ext (St.cg aW))) aW fun w1 s1 st1=>?_;refine kJ ?_;obtain⟨Ul,Um,Un,mg,_,⟨q1,q2,q3,rfl,_⟩,oT,_⟩:=(hr.ext (St.cg st1)).at (aq hi);refine WC.mw (t:=8) (v:=.bool (decide (0≤n) && decide (n<il ab i))) st1 ?_<|?_
 ·
  refine(dT) (fun kX=>?_) (fun kX=>?_)
  ·
   refine(dT) (fun l9=>?_) (fun l9=>?_)
   ·
    refine bC ?_;exact(iw) (by rw [ht];first | (simp [kX,l9];done) | (simp at kX l9;simp [kX,l9];done) | (simp at kX l9 ⊢;split <;> omega) | (simp at kX l9;simp [kX,l9];omega)) (st1)
   refine db ?_;refine WP .r (PV.fm lO mg rfl rfl (by omega))<|nx ?_;refine WP .r (PV.ld1 (j:=0) fG oT rfl rfl)<|(dT) (fun ir=>?_) (fun ir=>?_)
   ·
    exact(iw) (by rw [ht];first | (simp [kX,l9,ir];done) | (simp at kX l9 ir;simp [kX,l9,ir];done) | (simp at kX l9 ir ⊢;split <;> omega) | (simp at kX l9 ir;simp [kX,l9,ir];omega)) (st1)
   exact(iw) (by rw [ht];first | (simp [kX,l9,ir];done) | (simp at kX l9 ir;simp [kX,l9,ir];done) | (simp at kX l9 ir ⊢;split <;> omega) | (simp at kX l9 ir;simp [kX,l9,ir];omega)) (st1)
  refine bC ?_;exact(iw) (by rw [ht];first | (simp [kX];done) | (simp at kX;simp [kX];done) | (simp at kX ⊢;split <;> omega) | (simp at kX;simp [kX];omega)) (st1)
 intro w2 st2;refine(cm) ?_;exact⟨by unfold iX;rw [g11];rfl,(St.cg st2)⟩
theorem vS{k:Nat}{x:Ask}(hr:iW A w a r c ab) (hi:i<ab.length):CR prog 131 #[.slice a r c,.int .i64 (i:Int),x.val,.bool (decide ((k:Int)=0))] w (.bool (gV ab i ab[i].ring k x)):=by
 have hle:=hr.le;have hlen:=hr.len;obtain⟨Ul,Um,Un,mg,_,⟨q1,q2,q3,rfl,_⟩,oT,_⟩:=hr.at (aq hi);have Oi:(gV ab i ab[i].ring k x)=(iX ab i x.cell x.n && (if x.pick then !ab[i].ring && decide (k≠0) && iX ab i x.cell x.JF else decide (x.JF=0))):=rfl;rw [Oi]
 clear Oi
 have Ot:decide ((k:Int)=0)=decide (k=0):=by simp
 refine enter func131 rfl ntmps131 rfl<|?_;have aW:=St.s0 w;refine(eD) aW fun b6 w1 mV eM st1=>?_;refine eA ?_;refine WC.fQ (t:=30) (v:=.bool ((x.pick && (ab[i].ring || decide (k=0))) || !iX ab i x.cell x.n)) st1 ?_<|?_
 ·
  refine(bN) fG st1.b0<|(dT) (fun g11=>?_) (fun g11=>?_)
  ·
   refine db ?_;refine WP .r (PV.fm lO mg rfl rfl (by omega))<|nx ?_;refine WP .r (PV.ld1 (j:=0) fG (bE oT (St.cg st1) (by simp)) rfl rfl)<|(dT) (fun g17=>?_) (fun g17=>?_)
   ·
    refine bC ?_;exact(dx) (by first | (simp only [g11,g17,← Ot];rfl) | (simp [g11,g17,Ot];done) | (simp at g11 g17;simp [g11,g17,Ot];done) | (simp at g11 g17;simp_all;done)) (st1)
   refine(dT) (fun g21=>?_) (fun g21=>?_)
   ·
    exact(dx) (by first | (simp only [g11,g17,g21,← Ot];rfl) | (simp [g11,g17,g21,Ot];done) | (simp at g11 g17 g21;simp [g11,g17,g21,Ot];done) | (simp at g11 g17 g21;simp_all;done)) (st1)
   refine(bN) fG st1.b0<|(bN) aX st1.b0<|(gw) (uQ (cell:=x.cell) (n:=x.n) (hr.ext (St.cg st1)) hi) st1 fun w2 s2 st2=>?_;exact(dx) (by first | (simp only [g11,g17,g21,← Ot];rfl) | (simp [g11,g17,g21,Ot];done) | (simp at g11 g17 g21;simp [g11,g17,g21,Ot];done) | (simp at g11 g17 g21;simp_all;done)) (st2)
  refine bC ?_;refine(bN) fG st1.b0<|(bN) aX st1.b0<|(gw) (uQ (cell:=x.cell) (n:=x.n) (hr.ext (St.cg st1)) hi) st1 fun w2 s2 st2=>?_;exact(dx) (by first | (simp only [g11,← Ot];rfl) | (simp [g11,Ot];done) | (simp at g11;simp [g11,Ot];done) | (simp at g11;simp_all;done)) (st2)
 intro w2 st2;refine(bp) (fun l9=>?_) fun l9=>?_
 ·
  refine(cm) ?_;exact⟨by cases hm:iX ab i x.cell x.n <;> cases hp:x.pick <;> cases hg:ab[i].ring <;> by_cases h0:k=0 <;> simp_all,(St.cg st2)⟩
 refine(bN) fG st2.b0<|(bp) (fun jX=>?_) fun jX=>?_
 ·
  simp at jX
  refine(bN) aX st2.b0<|(cm) ?_;exact⟨by cases hm:iX ab i x.cell x.n <;> simp_all,(St.cg st2)⟩
 simp at jX
 refine(bN) fG st2.b0<|(bN) aX st2.b0<|(gw) (uQ (cell:=x.cell) (n:=x.JF) (hr.ext (St.cg st2)) hi) st2 fun w3 s3 aP=>?_;refine(cm) ?_;exact⟨by cases hm:iX ab i x.cell x.n <;> cases hg:ab[i].ring <;> by_cases h0:k=0 <;> simp_all,(St.cg aP)⟩
theorem sg(hr:iW A w a r c ab) (hR:ay ab):CR prog 86 #[.slice a r c] w (.bool true):=by
 have hle:=hr.le;have hlen:=hr.len;have pY:=hR.1;refine enter func86 rfl ntmps86 rfl<|?_;have aW:=St.s0 w;refine bC ?_;refine(bp) (fun g12=>?_) fun g12=>?_
 ·
  exact gM g12
 ·
  refine qT ?_;refine WC.bQ (σ:=Nat) (eI:=fun i=>[(0,.slice a r c),(13,.slice a r c),(14,.int .i64 (r:Int)),(15,.int .i64 (i:Int))]) (F:=fun i=>[]) (I:=fun i=>(i≤r)∧True) (μ:=fun i=>r - i) (0) (aW) Sub.t (⟨by omega,trivial⟩)<|?_;rintro i w1 st1 ⟨hi,_⟩;simp only [CA,NA] at st1 hi ⊢;refine(bp) (fun g16=>?_) fun g16=>?_
  ·
   simp at g16
   have cV:i<ab.length:=by omega
   obtain⟨alz,Uo,N2⟩:=hR.2 i _ (aq cV)
   unfold jV at N2
   obtain⟨Ul,Um,Un,mg,_,⟨q1,q2,q3,rfl,py⟩,oT,_⟩:=hr.at (aq cV);have tC:=py.len;refine gp ?_;refine WP .r (PV.fm lO mg rfl rfl (by omega))<|(bz) yl (bE oT (St.cg st1) (by simp))<|(fT) st1 fun b4 w2 jS bL st2=>?_;refine(dB) Kw st2 fun w3 jC jI aP=>?_;refine bC ?_;refine(bN) fG aP.b0<|(bp) (fun g21=>?_) fun g21=>?_
   ·
    rw [if_pos g21] at N2
    simp at N2
    refine kJ ?_;refine WC.fQ (t:=48) (v:=.bool false) aP ?_<|?_
    ·
     refine(bN) nF aP.b0<|(dT) (fun kX=>?_) (fun kX=>?_)
     ·
      refine bC ?_;exact(dx) (tG kX) (aP)
     refine(bN) aX aP.b0<|(dT) (fun uV=>?_) (fun uV=>?_)
     ·
      refine bC ?_;exact(dx) (tG (aj kX uV)) (aP)
     refine(bN) aX aP.b0<|(dT) (fun uP=>?_) (fun uP=>?_)
     ·
      exact(dx) (tG (aj kX<|aj uV uP)) (aP)
     refine(bN) aX aP.b0<|(dT) (fun oh=>?_) (fun oh=>?_)
     ·
      exact(dx) (tG (aj kX<|aj uV<|aj uP oh)) (aP)
     refine(bN) aX aP.b0<|?_;exact(dx) (tG (aj kX<|aj uV<|aj uP oh)) (aP)
    intro w4 aV;refine(bp) (fun oO=>?_) fun oO=>?_
    ·
     exact gM oO
    refine(bN) nF aV.b0<|eA ?_;refine WC.bQ (σ:=Nat) (eI:=fun k=>[(0,.slice a r c),(3,.int .i64 (i:Int)),(13,.slice a r c),(14,.int .i64 (r:Int)),(15,.int .i64 (i:Int)),(50,.slice q1 q2 q3),(51,.int .i64 (q2:Int)),(52,.int .i64 (k:Int))]) (F:=fun k=>[]) (I:=fun k=>(k≤q2)∧True) (μ:=fun k=>q2 - k) (0) (aV) Sub.t (⟨by omega,trivial⟩)<|?_;rintro k w5 bf ⟨hk,_⟩;simp only [CA,NA] at bf hk ⊢;refine(bp) (fun xC=>?_) fun xC=>?_
    ·
     simp at xC
     have nQ:k<ab[i].asks.length:=by omega
     obtain⟨b_y,o_y,r_y,BQ,_,rfl,xF,_⟩:=(py.ext (St.cg bf)).at (aq nQ);refine gp ?_;refine WP .r (PV.fm CI BQ rfl rfl (by omega))<|(bz) oG xF<|(fT) bf fun b9 w6 QE Bw br=>?_;refine(dB) AX br fun w7 r7 mR bP=>?_;refine(bz) oG bP.b0<|db ?_;refine WL.c1 (u:=.bool true) (vS (k:=k) (x:=ab[i].asks[k]) (hr.ext (St.cg bP)) cV) (by rw [show gV ab i ab[i].ring k ab[i].asks[k]=true from Uo k _ (aq nQ)]) bP fun w8 s8 bS=>?_;refine dw ?_;refine WC.iu rfl<|gp ?_;refine fx (k+1) ⟨bS.drop,⟨by omega,trivial⟩⟩
    simp at xC
    refine nj ?_;refine fx (i+1) ⟨bf.drop,⟨by omega,trivial⟩⟩
   rw [if_neg (by simp [g21])] at N2
   simp at N2
   refine dF ?_;refine WC.fQ (t:=48) (v:=.bool false) aP ?_<|?_
   ·
    refine(bN) nF aP.b0<|(dT) (fun kX=>?_) (fun kX=>?_)
    ·
     refine bC ?_;exact(dx) (tG kX) (aP)
    refine(bN) aX aP.b0<|(dT) (fun uV=>?_) (fun uV=>?_)
    ·
     refine bC ?_;exact(dx) (tG (aj kX uV)) (aP)
    refine(bN) aX aP.b0<|(dT) (fun uP=>?_) (fun uP=>?_)
    ·
     exact(dx) (tG (aj kX<|aj uV uP)) (aP)
    refine(bN) aX aP.b0<|(dT) (fun oh=>?_) (fun oh=>?_)
    ·
     exact(dx) (tG (aj kX<|aj uV<|aj uP oh)) (aP)
    refine(bN) aX aP.b0<|?_;exact(dx) (tG (aj kX<|aj uV<|aj uP oh)) (aP)
   intro w4 aV;refine(bp) (fun oO=>?_) fun oO=>?_
   ·
    exact gM oO
   refine(bN) nF aV.b0<|eA ?_;refine WC.bQ (σ:=Nat) (eI:=fun k=>[(0,.slice a r c),(3,.int .i64 (i:Int)),(13,.slice a r c),(14,.int .i64 (r:Int)),(15,.int .i64 (i:Int)),(50,.slice q1 q2 q3),(51,.int .i64 (q2:Int)),(52,.int .i64 (k:Int))]) (F:=fun k=>[]) (I:=fun k=>(k≤q2)∧True) (μ:=fun k=>q2 - k) (0) (aV) Sub.t (⟨by omega,trivial⟩)<|?_;rintro k w5 bf ⟨hk,_⟩;simp only [CA,NA] at bf hk ⊢;refine(bp) (fun xC=>?_) fun xC=>?_
   ·
    simp at xC
    have nQ:k<ab[i].asks.length:=by omega
    obtain⟨b_y,o_y,r_y,BQ,_,rfl,xF,_⟩:=(py.ext (St.cg bf)).at (aq nQ);refine gp ?_;refine WP .r (PV.fm CI BQ rfl rfl (by omega))<|(bz) oG xF<|(fT) bf fun b9 w6 QE Bw br=>?_;refine(dB) AX br fun w7 Ej td bP=>?_;refine(bz) oG bP.b0<|db ?_;refine WL.c1 (u:=.bool true) (vS (k:=k) (x:=ab[i].asks[k]) (hr.ext (St.cg bP)) cV) (by rw [show gV ab i ab[i].ring k ab[i].asks[k]=true from Uo k _ (aq nQ)]) bP fun w8 s8 bS=>?_;refine dw ?_;refine WC.iu rfl<|gp ?_;refine fx (k+1) ⟨bS.drop,⟨by omega,trivial⟩⟩
   simp at xC
   refine nj ?_;refine fx (i+1) ⟨bf.drop,⟨by omega,trivial⟩⟩
  simp at g16
  refine(cm) ?_;exact⟨rfl,(St.cg st1)⟩
 -- xz ky C63
theorem FP(ht:oy prog A w) (hn:n≤65535):CR prog 227 #[.string (itoa (n:Int))] w (.int .i64 (n:Int)):=by
 refine enter func227 rfl ntmps227 rfl<|?_;have aW:=St.s0 w;refine(gw) (H4 (n:=n) (by omega) w) aW fun w1 s1 st1=>?_;refine qC ?_;refine WC.fQ (t:=25) (v:=.bool false) st1 ?_<|?_
 ·
  refine db ?_;refine WP .r (PV.Xb Fm rfl)<|nx ?_;refine WL.iB (t:=12) rfl (fun g12=>?_) (fun g12=>?_)
  ·
   refine bC ?_;exact(dx) (tG g12) (st1)
  refine dF ?_;refine WL.iB (t:=16) rfl (fun g16=>?_) (fun g16=>?_)
  ·
   exact(dx) (tG (aj g12 g16)) (st1)
  refine dF ?_;refine WL.iB (t:=20) rfl (fun g20=>?_) (fun g20=>?_)
  ·
   exact(dx) (tG (aj g12<|aj g16 g20)) (st1)
  refine(gw) (qm (n:=(n:Int)) (ht.ext (St.cg st1)) (by omega) (by omega)) st1 fun w2 s2 st2=>?_;exact(dx) (tG (aj g12<|aj g16 g20)) (st2)
 intro w2 st2;refine(bp) (fun fB=>?_) fun fB=>?_
 ·
  exact gM fB
 refine(cm) ?_;exact⟨rfl,(St.cg st2)⟩
theorem FQ(ht:oy prog A w) (hs:s.size≤1000) (gh:∀n:Nat,n≤65535→s≠itoa (n:Int)):CR prog 227 #[.string s] w (.int .i64 0):=by
 refine enter func227 rfl ntmps227 rfl<|?_;have aW:=St.s0 w;refine(df) VN (Q0 (s:=s) (ht.ext (St.cg aW)) hs) ?_;rintro _ w1 ⟨v,ok,ev,rfl,hv,eO,s1⟩;have st1:=aW.step s1;refine qC ?_;refine WC.fQ (t:=25) (v:=.bool true) st1 ?_<|?_
 ·
  refine db ?_;refine WP .r (PV.ach Fm rfl eO)<|(dT) (fun g12=>?_) (fun g12=>?_)
  ·
   refine bC ?_;exact(dx) (by first | (simp [g12];done) | (simp at g12 ⊢;intro e;exact gh v.toNat (by omega) (by rw [show((v.toNat:Nat):Int)=v by omega];exact e.symm))) (st1)
  refine(dT) (fun g16=>?_) (fun g16=>?_)
  ·
   exact(dx) (by first | (simp [g12,g16];done) | (simp at g12 g16 ⊢;intro e;exact gh v.toNat (by omega) (by rw [show((v.toNat:Nat):Int)=v by omega];exact e.symm))) (st1)
  refine(dT) (fun g20=>?_) (fun g20=>?_)
  ·
   exact(dx) (by first | (simp [g12,g16,g20];done) | (simp at g12 g16 g20 ⊢;intro e;exact gh v.toNat (by omega) (by rw [show((v.toNat:Nat):Int)=v by omega];exact e.symm))) (st1)
  refine(gw) (qm (n:=v) (ht.ext (St.cg st1)) (by omega) (by omega)) st1 fun w2 s2 st2=>?_;exact(dx) (by first | (simp [g12,g16,g20];done) | (simp at g12 g16 g20 ⊢;intro e;exact gh v.toNat (by omega) (by rw [show((v.toNat:Nat):Int)=v by omega];exact e.symm))) (st2)
 intro w2 st2;refine(bp) (fun fB=>?_) fun fB=>?_
 ·
  refine(cm) ?_;exact⟨rfl,(St.cg st2)⟩
 exact gM fB
theorem yB(ht:oy prog A w) (hs:s.size≤1000):CR prog 227 #[.string s] w (.int .i64 (eh s:Int)):=by
 by_cases h:∃n:Nat,n≤65535∧s=itoa (n:Int)
 ·
  obtain⟨n,hn,rfl⟩:=h;rw [gR hn];exact FP ht hn
 have h0:∀n:Nat,n≤65535→s≠itoa (n:Int):=fun n hn e=>h ⟨n,hn,e⟩;rw [MY h0];exact FQ ht hs h0
theorem CU{kd:Int}{l:List Nat}(hl:Ints A w a r c (l.map fun x:Nat=>(x:Int))) (Fw:∀x∈l,x≤65535) (hr:r≤1000):CR prog 229 #[.int .i64 kd,.slice a r c] w (.int .i64 (gi kd 0 l:Int)):=by
 have hle:=SR.le hl;have hlen:=SR.len hl;rw [List.length_map] at hlen;have CK:∀i,∀x∈l.take i,x≤65535:=fun i x hx=>Fw x (List.mem_of_mem_take hx);refine enter func229 rfl ntmps229 rfl<|?_;have aW:=St.s0 w;refine bC ?_;refine qC ?_;refine WC.bQ (σ:=Nat) (eI:=fun i=>[(0,.int .i64 kd),(5,.int .i64 (zQ 0 (l.take i):Int)),(6,.int .i64 (xQ 0 (l.take i):Int)),(7,.int .i64 (gK 0 (l.take i):Int)),(10,.slice a r c),(11,.int .i64 (r:Int)),(12,.int .i64 (i:Int))]) (F:=fun i=>[]) (I:=fun i=>(i≤r)∧True) (μ:=fun i=>r - i) (0) (aW) Sub.t (⟨by omega,trivial⟩)<|?_;rintro i w1 st1 ⟨hi,_⟩;simp only [CA,NA] at st1 hi ⊢;refine(bp) (fun g13=>?_) fun g13=>?_
 ·
  simp at g13
  have cV:i<l.length:=by omega
  have yo:i<(l.map fun x:Nat=>(x:Int)).length:=by simpa using cV
  have mR:=zh (c:=0) (CK i);have td:=rA (c:=0) (by omega) (CK i);have wX:=pc (c:=0) (by omega) (CK i);have hvi:=Fw l[i] (List.getElem_mem cV)
  have ed:(l.take i).length≤1000:=by rw [List.length_take];omega
  have e1:=Dv (c:=0) cV;have e2:=zR (c:=0) cV;have e3:=zS (c:=0) cV;refine eA ?_;obtain⟨Ul,Um,Un,mg,_,rfl,oT,_⟩:=(SR.ext hl (St.cg st1)).at (aq yo);rw [List.getElem_map] at oT;refine nx ?_;refine WP .r (PV.fm Kv mg rfl rfl (by omega))<|WP .r (PV.pM aX oT rfl rfl)<|qC ?_;refine WP .r (PV.OW rfl rfl)<|db ?_;refine WP .r (PV.orN rfl rfl (by omega) (by omega))<|nj ?_;refine fx (i+1) ⟨st1,⟨by omega,trivial⟩⟩
 simp at g13
 have cy:l.take i=l:=List.take_of_length_le (by omega);rw [cy];have mR:=zh (c:=0) Fw;have td:=rA (c:=0) (by omega) Fw;have wX:=pc (c:=0) (by omega) Fw
 have hll:l.length≤1000:=by omega
 refine bC ?_;refine(bp) (fun Cq=>?_) fun Cq=>?_
 ·
  simp at Cq
  refine(cm) ?_;exact⟨by unfold gi;rw [if_pos Cq,Int.tmod_eq_emod_of_nonneg (by omega)];rfl,(St.cg st1)⟩
 simp at Cq
 refine(bp) (fun px=>?_) fun px=>?_
 ·
  simp at px
  refine dw ?_;refine WP .r (PV.quo rfl rfl (by omega) (by rw [Int.tdiv_eq_ediv_of_nonneg (by omega)];omega) (by rw [Int.tdiv_eq_ediv_of_nonneg (by omega)];omega))<|(cm) ?_;exact⟨by unfold gi;rw [if_neg Cq,if_pos px,Int.tdiv_eq_ediv_of_nonneg (by omega),Int.tmod_eq_emod_of_nonneg (by omega)];rfl,(St.cg st1)⟩
 simp at px
 refine(bp) (fun ir=>?_) fun ir=>?_
 ·
  simp at ir
  refine(cm) ?_;exact⟨by unfold gi;rw [if_neg Cq,if_neg px,if_pos ir],(St.cg st1)⟩
 simp at ir
 refine(bp) (fun om=>?_) fun om=>?_
 ·
  simp at om
  refine(cm) ?_;exact⟨by unfold gi;rw [if_neg Cq,if_neg px,if_neg ir,if_pos om,Int.tmod_eq_emod_of_nonneg (by omega)];rfl,(St.cg st1)⟩
 simp at om
 refine(cm) ?_;exact⟨by unfold gi;rw [if_neg Cq,if_neg px,if_neg ir,if_neg om],(St.cg st1)⟩
set_option maxHeartbeats 1600000 in
theorem ID(ht:oy prog A w) (hR:ay ab) (hi:i<ab.length) (hr:iW B w a r c ab) (hl:Strs C w a2 r2 e2 ao) (hsz:∀s∈ao,s.size≤1000):CR prog 183 #[.slice a r c,(aQ ab (i:Int)).val,.slice a2 r2 e2] w ((dP ab (aQ ab (i:Int)) ao).val):=by
 have pY:=hR.len
 have mn:i≤99:=by omega
 have hle:=hr.le;have hlen:=hr.len;have Bm:=hl.len;have fU:=hl.le
 obtain⟨kd,PW,hk⟩:∃kd:Int,(kd=31∨kd=32)∧aQ ab (i:Int)=⟨kd,itoa i⟩:=by
  unfold aQ
  rw [if_neg (by omega)]
  cases h:aI ab i
  ·
   exact⟨31,.inl rfl,by simp [h]⟩
  exact⟨32,.inr rfl,by simp [h]⟩
 have ZK:=dK hi mn;obtain⟨alz,Uo,N2⟩:=hR.2 i _ (aq hi);have hcb:=ay.hb hR _ (List.getElem_mem hi);obtain⟨cc,hcc⟩:∃cc:Nat,ab[i].c=cc:=⟨ab[i].c.toNat,by omega⟩;obtain⟨Ul,Um,Un,mg,_,⟨q1,q2,q3,rfl,py⟩,oT,_⟩:=hr.at (aq hi);rw [hcc] at oT;have tC:=py.len;rw [hk] at ZK ⊢;refine enter func183 rfl ntmps183 rfl<|?_;have aW:=St.s0 w;refine(eD) aW fun b4 w1 jS bL st1=>?_;refine(fT) st1 fun b6 w2 mV eM st2=>?_;refine(bz) av st2.b1<|(gw) (oS (k:=(⟨kd,itoa i⟩:Key)) ⟨by simp only [];omega,by simp only [];omega⟩ rfl mn) st2 fun w3 s3 aP=>?_;refine eA ?_;refine WC.fQ (t:=30) (v:=.bool false) aP ?_<|?_
 ·
  have QI:=aP.dc;refine WC.fc (m:=12) (E:=dy [(10,fun v _=>v=(aQ ab (i:Int)).val)]) aP (bT (⟨fun _ _ _ _ _ _ _ h=>h,trivial⟩)) mixed (by kernel_rfl)<|dw ?_;refine DW.iB (t:=19) rfl (fun g19=>?_) (fun g19=>?_)
  ·
   refine(ey) ?_;rintro w4 ⟨pC,aV⟩ _;exact(dx) (by first | rfl | (simp [g19,hk];done) | (simp [g19,hk];omega) | (simp only [g19];done) | (simp only [g19];rfl) | (simp [g19];done) | (simp;done) | (simp at g19 ⊢ <;> omega) | (simp <;> omega) | (simp [g19] <;> omega) | (simp at g19 <;> omega)) (aV)
  refine(lF) aX St.g1<|dw ?_;refine DW.iB (t:=24) rfl (fun g24=>?_) (fun g24=>?_)
  ·
   refine(ey) ?_;rintro w4 ⟨pC,aV⟩ _;exact(dx) (by first | rfl | (simp [g19,g24,hk];done) | (simp [g19,g24,hk];omega) | (simp only [g19,g24];done) | (simp only [g19,g24];rfl) | (simp [g19,g24];done) | (simp;done) | (simp at g19 g24 ⊢ <;> omega) | (simp <;> omega) | (simp [g19,g24] <;> omega) | (simp at g19 g24 <;> omega)) (aV)
  refine db ?_;refine DW.c0 (fun wx hC hF=>sY (n:=(i:Int)) (hr.ext (St.cg hC.2)))<|(jA) av St.g1<|(ey)<|?_;rintro w4 ⟨pC,aV⟩ ⟨_,_⟩;refine WP .r (PV.OT gB (p:=aQ ab (i:Int)) (q:=(⟨kd,itoa i⟩:Key)) rfl rfl)<|?_;exact(dx) (by first | rfl | (simp [g19,g24,hk];done) | (simp [g19,g24,hk];omega) | (simp only [g19,g24];done) | (simp only [g19,g24];rfl) | (simp [g19,g24];done) | (simp;done) | (simp at g19 g24 ⊢ <;> omega) | (simp <;> omega) | (simp [g19,g24] <;> omega) | (simp at g19 g24 <;> omega)) (aV)
 intro w4 aV;refine(bp) (fun l9=>?_) fun l9=>?_
 ·
  exact gM l9
 refine jo ?_;refine WP .r (PV.Ls lO (i:=i) mg rfl rfl (by omega) (by omega))<|(bz) yl (bE oT (St.cg aV) (by simp))<|(fT) aV fun b8 w5 Bn jm bf=>?_;refine(dB) Kw bf fun w6 jC jI br=>?_;refine bC ?_;refine(bN) nF br.b0<|(bp) (fun kE=>?_) fun kE=>?_
 ·
  simp at kE
  have hn:r2<ab[i].asks.length:=by omega
  have hv:=wM (ao:=ao) ZK hi (by rw [ZK];exact hk) (show ao.length<ab[i].asks.length by omega);simp only [← Bm] at hv
  have ZL:r2=0→ab[i].asks[r2].pick=false:=fun h0=>by
   have:=Uo r2 _ (aq hn)
   cases hp:ab[i].asks[r2].pick
   ·
    rfl
   unfold gV at this
   rw [hp] at this
   simp [h0] at this
  refine nx ?_;obtain⟨b_y,o_y,r_y,BQ,_,rfl,xF,_⟩:=(py.ext (St.cg br)).at (aq hn);refine(bN) nF br.b0<|nx ?_;refine WP .r (PV.fm CI BQ rfl rfl (by omega))<|(bz) oG xF<|(fT) br fun jd w7 ma fP bP=>?_;refine(dB) AX bP fun w8 r7 mR bS=>?_;refine(bN) aX bS.b0<|eA ?_;refine WC.fQ (t:=65) (v:=.bool (gU ab[i].asks[r2] ao)) bS ?_<|?_
  ·
   refine(bN) fG bS.b0<|nx ?_;refine WL.iB (t:=52) rfl (fun V6=>?_) (fun V6=>?_)
   ·
    refine dF ?_;refine WL.iB (t:=56) rfl (fun FR=>?_) (fun FR=>?_)
    ·
     simp at FR
     obtain⟨b_z,o_z,r_z,ZI,_,rfl,ZJ,_⟩:=(hl.ext (St.cg bS)).at (aq (show r2 - 1<ao.length by omega))
     have jg:gU ab[i].asks[r2] ao=decide ((eh ao[r2 - 1]:Int).tmod 2=0):=by
      unfold gU
      simp only [V6,← Bm,Bool.true_and];rw [decide_eq_false (by omega),Bool.false_or,getElem!_pos ao (r2 - 1) (by omega),Int.tmod_eq_emod_of_nonneg (by omega)]
      congr 1
      exact propext ⟨fun h=>by omega,fun h=>by omega⟩
     refine dw ?_;refine WP .r (PV.Ls CJ (i:=r2 - 1) ZI rfl rfl (by omega) (by omega))<|WP .r (PV.pM iq ZJ rfl rfl)<|(gw) (yB (s:=ao[r2 - 1]) (ht.ext (St.cg bS)) (hsz _ (List.getElem_mem _))) bS fun w9 s9 bX=>?_;exact(dx) (by rw [jg]) (bX)
    exact absurd (ZL (by simp at FR;omega)) (by simp [V6])
   have jg:gU ab[i].asks[r2] ao=false:=by unfold gU;rw [V6];rfl
   refine bC ?_;exact(dx) (by rw [jg]) (bS)
  intro w9 bX;refine(bp) (fun Fz=>?_) fun Fz=>?_
  ·
   have Eh:tZ ab[i].asks[r2] ao=ab[i].asks[r2].JF:=by unfold tZ;rw [if_pos Fz]
   refine(bN) aX bX.b0<|(bN) fG bX.b0<|(bp) (fun ZM=>?_) fun ZM=>?_
   ·
    rw [Eh,if_pos ZM] at hv;refine(gw) (yA) bX fun kM pz aM=>?_;refine WP .r (PV.cD (us:=[.bool false,.string ⟨#[]⟩,.int .i64 (eL _).kind,.string (eL _).text]) qK rfl rfl rfl)<|(dB) jk aM.p2 fun kN Ej td aT=>?_;refine(mI) kW aT.b0<|?_;rw [hv];exact⟨rfl,(St.cg aT)⟩
   rw [Eh,if_neg (by simp [ZM])] at hv;refine(gw) (sY (hr.ext (St.cg bX))) bX fun kM pz aM=>?_;refine WP .r (PV.cD (us:=[.bool false,.string ⟨#[]⟩,.int .i64 (aQ ab _).kind,.string (aQ ab _).text]) qK rfl rfl rfl)<|(dB) jk aM.p2 fun kN RZ wX aT=>?_;refine(mI) kW aT.b0<|?_;rw [hv];exact⟨rfl,(St.cg aT)⟩
  have Eh:tZ ab[i].asks[r2] ao=ab[i].asks[r2].n:=by unfold tZ;rw [if_neg (by simp [Fz])]
  refine(bN) fG bX.b0<|(bp) (fun ZM=>?_) fun ZM=>?_
  ·
   rw [Eh,if_pos ZM] at hv;refine(gw) (yA) bX fun kM pz aM=>?_;refine WP .r (PV.cD (us:=[.bool false,.string ⟨#[]⟩,.int .i64 (eL _).kind,.string (eL _).text]) qK rfl rfl rfl)<|(dB) jk aM.p2 fun kN R6 Hf aT=>?_;refine(mI) kW aT.b0<|?_;rw [hv];exact⟨rfl,(St.cg aT)⟩
  rw [Eh,if_neg (by simp [ZM])] at hv;refine(gw) (sY (hr.ext (St.cg bX))) bX fun kM pz aM=>?_;refine WP .r (PV.cD (us:=[.bool false,.string ⟨#[]⟩,.int .i64 (aQ ab _).kind,.string (aQ ab _).text]) qK rfl rfl rfl)<|(dB) jk aM.p2 fun kN VW VX aT=>?_;refine(mI) kW aT.b0<|?_;rw [hv];exact⟨rfl,(St.cg aT)⟩
 simp at kE
 have hv:=sK (ao:=ao) ZK hi (by rw [ZK];exact hk) (show ab[i].asks.length≤ao.length by omega);rw [← tC,hcc,Int.toNat_natCast] at hv
 have Fw:∀x∈(ao.take q2).map eh,x≤65535:=fun x hx=>by obtain⟨s,_,rfl⟩:=List.mem_map.1 hx;exact n9 s
 have hfl:=sJ (kind:=ab[i].final) (c:=cc) (l:=(ao.take q2).map eh) (by omega) Fw
 have hll:((ao.take q2).map eh).length=q2:=by rw [List.length_map,List.length_take];omega
 refine(bN) aX br.b0<|?_;refine WL.go rfl (OX.bA (us:=[.int .i64 (cc:Int)]) Ks rfl rfl rfl rfl fun b79 w7 afr alA=>?_);have bP:=St.wR (R:=RR.int) (E:=3) (k:=1) (a:=some ⟨b79,0,none⟩) (n:=1) (c:=1) (xs:=[(cc:Int)]) br afr.ext (OR.eP alA (Nat.zero_le _) rfl (by simp [Value.oneCell']) rfl) (fun x hx=>by simp [aL] at hx;subst hx;exact afr.ge);refine(bN) nF bP.b1<|nx ?_;refine WP .r (PV.zM CJ (hl.ext (St.cg bP)) rfl rfl (by omega))<|eA ?_;refine WC.bQ (σ:=Nat × (Option Addr) × Nat × Nat) (eI:=fun(j,N3,IE,N4)=>[(6,.pointer (some ⟨b6,0,none⟩)),(8,.pointer (some ⟨b8,0,none⟩)),(12,.slice N3 IE N4),(84,.slice a2 q2 e2),(85,.int .i64 (q2:Int)),(86,.int .i64 (j:Int))]) (F:=fun(j,N3,IE,N4)=>[As.os RR.int 3 1 N3 IE N4 ((((cc::((ao.take q2).map eh).take j)).map fun x:Nat=>(x:Int)))]) (I:=fun(j,N3,IE,N4)=>(j≤q2)∧True) (μ:=fun(j,N3,IE,N4)=>q2 - j) (0,(some ⟨b79,0,none⟩),1,1) (bP) Sub.t (⟨by omega,trivial⟩)<|?_;rintro⟨j,N3,IE,N4⟩ w8 bS ⟨hj,_⟩;simp only [CA,NA] at bS hj ⊢;have l3:=((As.gs bS.g0)).len
 have KX:IE≤1+j:=by have h0:=l3;simp at h0;omega
 refine(bp) (fun QX=>?_) fun QX=>?_
 ·
  simp at QX
  have kL:j<ao.length:=by omega
  obtain⟨b_u,o_u,r_u,alB,_,rfl,alC,_⟩:=(hl.ext (St.cg bS)).at (aq kL);refine jo ?_;refine WP .r (PV.fm CJ alB rfl rfl (by omega))<|WP .r (PV.pM iq alC rfl rfl)<|(gw) (yB (s:=ao[j]) (ht.ext (St.cg bS)) (hsz _ (List.getElem_mem _))) bS fun w9 s9 bX=>?_;refine WL.go rfl (OX.bA (us:=[.int .i64 (eh ao[j]:Int)]) Ks rfl rfl rfl rfl fun b93 kM ZN ZO=>?_);have aM:=bX.eW ZN ZO;refine WL.ap rfl rfl aM.p1 (SR.eP (A:=fun _=>True) (x:=((eh ao[j]:Nat):Int)) (As.gb aM.g0) trivial rfl (by simp [Value.oneCell']) rfl) fun a94 alD kN asM asN aT=>?_;refine db ?_;have aY:=aT.WZ (show(((((cc::((ao.take q2).map eh).take j)).map fun x:Nat=>(x:Int)))++[((eh ao[j]:Nat):Int)])=(((cc::((ao.take q2).map eh).take (j+1))).map fun x:Nat=>(x:Int)) by rw [List.take_succ_eq_append_getElem (by omega),← List.cons_append,List.map_append,List.getElem_map,List.getElem_take];rfl);refine jo ?_;refine fx (j+1,a94,(IE+1),alD) ⟨aY.p1.drop,⟨by omega,trivial⟩⟩
 simp at QX
 have hje:((ao.take q2).map eh).take j=(ao.take q2).map eh:=List.take_of_length_le (by omega);have bX:=bS.WZ (show(((cc::((ao.take q2).map eh).take j)).map fun x:Nat=>(x:Int))=(((cc::(ao.take q2).map eh)).map fun x:Nat=>(x:Int)) by rw [hje]);refine(bN) aX bX.b1<|nx ?_;refine WL.c1 (u:=.int .i64 ((gi ab[i].final cc ((ao.take q2).map eh)):Int)) (CU (kd:=ab[i].final) (l:=cc::(ao.take q2).map eh) (Ow.rd (As.gs bX.g0) (by simp;omega)) (fun x hx=>by rcases List.mem_cons.1 hx with rfl | hx;omega;exact Fw x hx) (by omega)) (by rw [Hq]) bX fun w9 s9 aM=>?_;refine(gw) (qm (n:=((gi ab[i].final cc ((ao.take q2).map eh)):Int)) (ht.ext (St.cg aM)) (by omega) (by omega)) aM fun kM pz aT=>?_;refine WP .r (PV.cD (us:=[.bool true,.string (itoa ((gi ab[i].final cc ((ao.take q2).map eh)):Int)),.int .i64 0,.string ⟨#[]⟩]) qK rfl rfl rfl)<|(dB) jk aT.p2 fun kN Zo Zp aY=>?_;refine(mI) kW aY.b0<|?_;rw [hv];exact⟨rfl,(St.cg aY)⟩
theorem tN(ht:oy prog A w) (hR:ay ab) (hi:i<ab.length) (hr:iW B w a r c ab) (hl:Strs C w a2 r2 e2 ao) (hsz:∀s∈ao,s.size≤1000):CR prog 165 #[.slice a r c,(aQ ab (i:Int)).val,.slice a2 r2 e2] w ((dP ab (aQ ab (i:Int)) ao).val):=by
 have pY:=hR.len;have PW:=fX hi (by omega);refine enter func165 rfl ntmps165 rfl<|?_;have aW:=St.s0 w;refine(eD) aW fun b4 w1 jS bL st1=>?_;refine(fT) st1 fun b6 w2 mV eM st2=>?_;refine(bz) av st2.b1<|?_;refine WL.c1 (u:=.bool true) (yz (k:=aQ ab (i:Int))) (by rw [show(decide ((aQ ab (i:Int)).kind=31) || decide ((aQ ab (i:Int)).kind=32))=true by(rw [PW];split <;> simp)]) st2 fun w3 s3 aP=>?_;refine dw ?_;refine WC.zw rfl<|(bz) av aP.b1<|(gw) (ID (ht.ext (St.cg aP)) hR hi (hr.ext (St.cg aP)) (hl.ext (St.cg aP)) hsz) aP fun w4 s4 aV=>?_;refine(dB) jk aV fun w5 jC jI bf=>?_;refine(mI) kW bf.b0<|?_;exact⟨rfl,(St.cg bf)⟩
theorem vT(hk:k.kind=32):CR prog 163 #[k.val] w (.string ⟨#[48]⟩):=by
 refine enter func163 rfl ntmps163 rfl<|?_;have aW:=St.s0 w;refine(eD) aW fun b1 w1 pK dQ st1=>?_;refine(bN) aX st1.b0<|(bp) (fun g3=>?_) fun g3=>?_
 ·
  skip
  refine(cm) ?_;exact⟨rfl,(St.cg st1)⟩
 exact absurd g3 (by simp [hk])
theorem CV(hi:i<ab.length) (mn:i≤99) (hr:iW B w a r c ab):CR prog 90 #[.slice a r c,(aQ ab (i:Int)).val] w (.bool true):=by
 have PW:=fX hi mn
 have hkt:(aQ ab (i:Int)).text=itoa i:=by unfold aQ;rw [if_neg (by omega)]
 have xY:30≤(aQ ab (i:Int)).kind∧(aQ ab (i:Int)).kind≤32:=by rw [PW];split <;> omega
 refine enter func90 rfl ntmps90 rfl<|?_;have aW:=St.s0 w;refine(eD) aW fun b3 w1 ic dA st1=>?_;refine dF ?_;have zq:=st1.dc;refine WC.fc (m:=12) (E:=dy [(1,fun v _=>v=.bool true),(4,fun v _=>v=.bool true),(9,fun v _=>v=.int .i64 (i:Int)),(10,fun v _=>v=(aQ ab (i:Int)).val)]) st1 (bT (⟨fun _ _ _ _ _ _ _ h=>h,⟨fun _ _ _ _ _ _ _ h=>h,⟨fun _ _ _ _ _ _ _ h=>h,⟨fun _ _ _ _ _ _ _ h=>h,trivial⟩⟩⟩⟩)) mixed (by kernel_rfl)<|(jA) av St.g0<|?_;refine DW.c0 (fun wx hC hF=>lW (k:=aQ ab (i:Int)) xY hkt mn)<|(jA) av St.g0<|?_;refine DW.c1 (u:=.bool true) (fun wx hC hF=>yz (k:=aQ ab (i:Int))) (by rw [show(decide ((aQ ab (i:Int)).kind=31) || decide ((aQ ab (i:Int)).kind=32))=true by(rw [PW];split <;> simp)])<|(jA) av St.g0<|?_;refine DW.c0 (fun wx hC hF=>oS (k:=aQ ab (i:Int)) xY hkt mn)<|?_;refine DW.c0 (fun wx hC hF=>sY (n:=(i:Int)) (hr.ext (St.cg hC.2)))<|(jA) av St.g0<|(ey)<|?_;rintro w2 ⟨fj,st2⟩ ⟨_,⟨_,⟨_,⟨_,_⟩⟩⟩⟩;refine WP .r (PV.G3 gB (p:=aQ ab (i:Int)) (q:=aQ ab (i:Int)) rfl rfl)<|(cm) ?_;exact⟨by simp,(St.cg st2)⟩
set_option maxHeartbeats 400000
theorem tO{xs:List Key}(bF:St w M Z w []) (hl:Rd RR.key 2 Z w a n c xs) (h6:xs.length≤1000000):Calls prog 162 #[.slice a n c] w fun e w'=>∃a' n' c',e=.returned (.slice a' n' c')∧St w M Z w' [As.os RR.key 58 2 a' n' c' xs]:=by
 have hlen:=hl.len;refine enter func162 rfl ntmps162 rfl<|?_;have aW:=bF;have st1:=aW.fr hl;refine(bp) (fun g4=>?_) fun g4=>?_
 ·
  simp at g4
  subst g4;have hx:=hl.zY;subst hx;have st2:=st1.eX RR.key 58 2;refine(cm) ?_;exact⟨none,0,0,rfl,st2.p1.drop⟩
 refine dF ?_;refine WL.go rfl (OX.EM Vq aji rfl fun b5 w1 nH gI=>?_);have st2:=St.wR (R:=RR.key) (E:=58) (k:=2) (a:=some ⟨b5,0,none⟩) (n:=0) (c:=0) (xs:=[]) st1 nH.ext (OR.Xd gI (Nat.zero_le _)) (fun x hx=>by simp [aL] at hx;subst hx;exact nH.ge);refine nx ?_;refine WL.ap rfl rfl st2 ((As.gr st2.g1)) fun a7 c'7 w2 hf7 hn7 aP=>?_;refine(cm) ?_;exact⟨_,_,_,rfl,aP.p1.drop⟩
theorem tP{xs:List Rec}(bF:St w M Z w []) (hl:Rd RR.fl 8 Z w a n c xs) (h6:xs.length≤1000000):Calls prog 97 #[.slice a n c] w fun e w'=>∃a' n' c',e=.returned (.slice a' n' c')∧St w M Z w' [As.os RR.fl 60 8 a' n' c' xs]:=by
 have hlen:=hl.len;refine enter func97 rfl ntmps97 rfl<|?_;have aW:=bF;have st1:=aW.fr hl;refine(bp) (fun g4=>?_) fun g4=>?_
 ·
  simp at g4
  subst g4;have hx:=hl.zY;subst hx;have st2:=st1.eX RR.fl 60 8;refine(cm) ?_;exact⟨none,0,0,rfl,st2.p1.drop⟩
 refine dF ?_;refine WL.go rfl (OX.EM Qa ajj rfl fun b5 w1 nH gI=>?_);have st2:=St.wR (R:=RR.fl) (E:=60) (k:=8) (a:=some ⟨b5,0,none⟩) (n:=0) (c:=0) (xs:=[]) st1 nH.ext (OR.Xd gI (Nat.zero_le _)) (fun x hx=>by simp [aL] at hx;subst hx;exact nH.ge);refine nx ?_;refine WL.ap rfl rfl st2 ((As.gr st2.g1)) fun a7 c'7 w2 hf7 hn7 aP=>?_;refine(cm) ?_;exact⟨_,_,_,rfl,aP.p1.drop⟩
theorem CW{xs:List dE}(bF:St w M Z w []) (hl:Rd RR.aH 4 Z w a n c xs) (h6:xs.length≤1000000):Calls prog 142 #[.slice a n c] w fun e w'=>∃a' n' c',e=.returned (.slice a' n' c')∧St w M Z w' [As.os RR.aH 83 4 a' n' c' xs]:=by
 have hlen:=hl.len;refine enter func142 rfl ntmps142 rfl<|?_;have aW:=bF;have st1:=aW.fr hl;refine(bp) (fun g4=>?_) fun g4=>?_
 ·
  simp at g4
  subst g4;have hx:=hl.zY;subst hx;have st2:=st1.eX RR.aH 83 4;refine(cm) ?_;exact⟨none,0,0,rfl,st2.p1.drop⟩
 refine dF ?_;refine WL.go rfl (OX.EM Vp ajk rfl fun b5 w1 nH gI=>?_);have st2:=St.wR (R:=RR.aH) (E:=83) (k:=4) (a:=some ⟨b5,0,none⟩) (n:=0) (c:=0) (xs:=[]) st1 nH.ext (OR.Xd gI (Nat.zero_le _)) (fun x hx=>by simp [aL] at hx;subst hx;exact nH.ge);refine nx ?_;refine WL.ap rfl rfl st2 ((As.gr st2.g1)) fun a7 c'7 w2 hf7 hn7 aP=>?_;refine(cm) ?_;exact⟨_,_,_,rfl,aP.p1.drop⟩
theorem BR(bF:St w M Z w []) (hk:Rd RR.key 2 Z w a n c x.reads) (h4:x.reads.length≤4000):Calls prog 128 #[.agg (x.row a n c).toArray] w fun e w'=>∃a' n' c',e=.returned (.agg (x.row a' n' c').toArray)∧St w M Z w' [As.os RR.key 58 2 a' n' c' x.reads]:=by
 refine enter func128 rfl ntmps128 rfl<|?_;have aW:=bF;have st1:=aW.fr hk;refine(eD) st1 fun b1 w1 pK dQ st2=>?_;refine(fT) st2 fun b2 w2 lB eZ aP=>?_;refine(bN) fE aP.b1<|?_;have aV:=aP;refine(df) VK (tO aV.e0 (As.gr aV.g2) (by omega)) ?_;rintro _ w3 ⟨f1,f2,f3,rfl,eG⟩;have bf:=St.lr aV eG;refine nx ?_;refine WL.s1 bf.p2 fun w4 _ br=>?_;refine(bz) dm br.b0<|(dB) gC br.p2 fun w5 jC jI bP=>?_;refine(mI) dm bP.b0<|?_;exact⟨_,_,_,rfl,bP.p2.k1⟩
theorem oU{p:Rec→Bool}(zk:CF prog f) (hl:Rd RR.fl 8 Z w a n c l) (hp:∀w1,bj [] w w1→∀x∈l,∀a n c,Rd RR.key 2 Z w1 a n c x.reads→Calls prog f #[.agg (x.row a n c).toArray,cap] w1 fun e w'=>e=.returned (.bool (p x))∧bj [] w1 w'):Calls prog 126 #[.slice a n c,.func (.func f) #[] #[cap]] w fun e w'=>∃j:Int,e=.returned (.int .i64 j)∧DI l p j∧bj [] w w':=by
 have hlen:=hl.len;have hle:=hl.le;refine enter func126 rfl ntmps126 rfl<|?_;have aW:=St.s0 w;refine bC ?_;refine db ?_;refine WC.bQ (σ:=Nat) (eI:=fun i=>[(0,.slice a n c),(1,.func (.func f) #[] #[cap]),(7,.int .i64 (n:Int)),(8,.int .i64 (i:Int))]) (F:=fun i=>[]) (I:=fun i=>(i≤n)∧(∀j x,j<i→l[j]?=some x→p x=false)∧True) (μ:=fun i=>n - i) (0) (aW) Sub.t (⟨by omega,fun j x h=>by omega,trivial⟩)<|?_;rintro i w1 st1 ⟨hi,gh,_⟩;simp only [CA,NA] at st1 hi gh ⊢;refine(bp) (fun g9=>?_) fun g9=>?_
 ·
  simp at g9
  have cV:i<l.length:=by omega
  refine qT ?_;obtain⟨gE,js,iT,aS,fi,bq,bY,di⟩:=Rd.at hl cV;obtain⟨q1,q2,q3,rfl,pA,oM⟩:=bq;refine dF ?_;refine WP .r (PV.fm iF aS rfl rfl (by omega))<|(bz) dm (bE bY (St.cg st1) (by simp))<|?_;refine WL.go rfl (OX.qA zk rfl rfl rfl ((Calls.cap (hp _ (St.cg st1) l[i] (List.getElem_mem cV) _ _ _ (pA.ext (St.cg st1)))).mono ?_));rintro _ w2 ⟨rfl,s2⟩;refine⟨_,rfl,?_⟩;have st2:=st1.step s2;refine(bp) (fun g16=>?_) fun g16=>?_
  ·
   refine(cm) ?_;exact⟨_,rfl,.inl ⟨i,_,aq cV,g16,gh,rfl⟩,(St.cg st2)⟩
  have g16:p l[i]=false:=by simpa using g16
  refine gp ?_;refine fx (i+1) ⟨st2,⟨by omega,dJ cV gh (by simpa using g16),trivial⟩⟩
 simp at g9
 have cy:∀x∈l,p x=false:=fun x hx=>by obtain⟨j,hj,rfl⟩:=List.getElem_of_mem hx;exact gh j _ (by omega) (aq hj)
 refine(cm) ?_;exact⟨_,rfl,.inr ⟨cy,rfl⟩,(St.cg st1)⟩
theorem xG{p:Rec→Bool}(zk:CF prog f) (hl:Rd RR.fl 8 Z w a n c l) (hp:∀w1,bj [] w w1→∀x∈l,∀a n c,Rd RR.key 2 Z w1 a n c x.reads→Calls prog f #[.agg (x.row a n c).toArray,cap] w1 fun e w'=>e=.returned (.bool (p x))∧bj [] w1 w') (gh:∀x∈l,p x=false):CR prog 135 #[.slice a n c,.func (.func f) #[] #[cap]] w (.bool false):=by
 refine enter func135 rfl ntmps135 rfl<|?_;have aW:=St.s0 w;refine(df) Qj (oU (w:=w) zk (hl.ext (St.cg aW)) (fun w1 h1=>hp w1 (bj.trans (St.cg aW) h1))) ?_;rintro _ w1 ⟨j,rfl,hj,s1⟩;have st1:=aW.step s1
 have Vg:j = -1:=by rcases hj with⟨i,x,h1,h2,_⟩ | ⟨_,h2⟩;exact absurd h2 (by simp [gh x (List.mem_of_getElem? h1)]);exact h2
 subst Vg;refine(cm) ?_;exact⟨by simp,(St.cg st1)⟩
theorem BU :CR prog 137 #[.slice a 0 c,fv] w (.int .i64 (-1)):=by
 refine enter func137 rfl ntmps137 rfl<|?_;have aW:=St.s0 w;refine bC ?_;refine db ?_;refine WC.bQ (σ:=Nat) (eI:=fun i=>[(0,.slice a 0 c),(1,fv),(7,.int .i64 ((0:Nat):Int)),(8,.int .i64 (i:Int))]) (F:=fun i=>[]) (I:=fun i=>True) (μ:=fun i=>0) (0) (aW) Sub.t (trivial)<|?_;rintro i w1 st1 _;simp only [CA,NA] at st1 ⊢;refine(bp) (fun g9=>?_) fun g9=>?_
 ·
  exact gM g9
 refine(cm) ?_;exact⟨rfl,(St.cg st1)⟩
theorem vU :CR prog 88 #[.slice a 0 c,fv] w (.bool false):=by
 refine enter func88 rfl ntmps88 rfl<|?_;have aW:=St.s0 w;refine(gw) (BU) aW fun w1 s1 st1=>?_;refine(cm) ?_;exact⟨by simp,(St.cg st1)⟩
theorem CX{l:List Key}(hl:Rd RR.key 2 Z w a n c l):Calls prog 148 #[.slice a n c,k.val] w fun e w'=>((k∈l∧∃i:Nat,e=.returned (.int .i64 (i:Int)))∨(k∉l∧e=.returned (.int .i64 (-1))))∧bj [] w w':=by
 have hlen:=hl.len;have hle:=hl.le;refine enter func148 rfl ntmps148 rfl<|?_;have aW:=St.s0 w;refine(eD) aW fun b3 w1 ic dA st1=>?_;refine bC ?_;refine WC.bQ (σ:=Nat) (eI:=fun i=>[(0,.slice a n c),(3,.pointer (some ⟨b3,0,none⟩)),(7,.int .i64 (n:Int)),(8,.int .i64 (i:Int))]) (F:=fun i=>[]) (I:=fun i=>(i≤n)∧(∀j x,j<i→l[j]?=some x→x≠k)∧True) (μ:=fun i=>n - i) (0) (st1) Sub.t (⟨by omega,fun j x h=>by omega,trivial⟩)<|?_;rintro i w2 st2 ⟨hi,gh,_⟩;simp only [CA,NA] at st2 hi gh ⊢;refine(bp) (fun g9=>?_) fun g9=>?_
 ·
  simp at g9
  have cV:i<l.length:=by omega
  refine qT ?_;obtain⟨gE,js,iT,aS,fi,bq,bY,di⟩:=Rd.at hl cV;have bq:=RR.cH bq;subst bq;have V2:=st2.dc;refine WC.dS (m:=5) st2 mixed<|(jA) av St.g0<|db ?_;refine DP .r (fun _ hC=>PV.fm fL aS rfl rfl (by omega))<|DP .r (fun _ hC=>VA av (bE bY (St.cg hC.2) (by simp)) .r)<|(ey)<|?_;rintro w3 ⟨lR,aP⟩ _;refine WP .r (PV.G3 gB (p:=k) (q:=l[i]) rfl rfl)<|(bp) (fun g16=>?_) fun g16=>?_
  ·
   simp at g16
   refine(cm) ?_;exact⟨.inl ⟨g16 ▸ List.getElem_mem cV,i,rfl⟩,(St.cg aP)⟩
  simp at g16
  refine gp ?_;refine fx (i+1) ⟨aP,⟨by omega,dJ cV gh (fun e=>g16 e.symm),trivial⟩⟩
 simp at g9
 have cy:k∉l:=fun hm=>by obtain⟨j,hj,h⟩:=List.getElem_of_mem hm;exact gh j _ (by omega) (aq hj) h
 refine(cm) ?_;exact⟨.inr ⟨cy,rfl⟩,(St.cg st2)⟩
theorem pF{l:List Key}(hl:Rd RR.key 2 Z w a n c l):CR prog 99 #[.slice a n c,k.val] w (.bool (decide (k∈l))):=by
 refine enter func99 rfl ntmps99 rfl<|?_;have aW:=St.s0 w;refine(eD) aW fun b3 w1 ic dA st1=>?_;refine(bz) av st1.b0<|(df) aeg ((CX (k:=k) (w:=w1) (hl.ext (St.cg st1))).mono (fun e wq h=>show ∃j:Int,e=.returned (.int .i64 j)∧decide (0≤j)=decide (k∈l)∧bj [] w1 wq from by rcases h.1 with⟨h1,i,h2⟩ | ⟨h1,h2⟩;exact⟨i,h2,by simp [h1],h.2⟩;exact⟨-1,h2,by simp [h1],h.2⟩)) ?_;rintro _ w2 ⟨j,rfl,hj,s2⟩;have st2:=st1.step s2;refine(cm) ?_;exact⟨by rw [hj],(St.cg st2)⟩
theorem FT{bk:Nat}(hb:cJ w bk 58 k.cells):CR prog 127 #[.agg (x.row a n c).toArray,.pointer (some ⟨bk,0,none⟩)] w (.bool (decide (x.key=k))):=by
 refine enter func127 rfl ntmps127 rfl<|?_;have aW:=St.s0 w;refine(eD) aW fun b2 w1 lB eZ st1=>?_;refine(kl) av st1.b0<|(bz) av (cJ.range (hb.ext (St.cg st1)))<|?_;refine WP .r (PV.G3 gB (p:=x.key) (q:=k) rfl rfl)<|(cm) ?_;exact⟨rfl,(St.cg st1)⟩
theorem vV(bF:St w M Z w []) (hl:Rd RR.fl 8 Z w a n c l):Calls prog 83 #[.slice a n c,k.val] w fun e w'=>∃a' n' c',e=.returned (.tuple #[.agg ((aG l k).row a' n' c').toArray,.bool (aD l k).isSome])∧(aG l k).reads.length≤4000∧St w M Z w' [As.os RR.key 58 2 a' n' c' (aG l k).reads]:=by
 have hlen:=hl.len;have hle:=hl.le;refine enter func83 rfl ntmps83 rfl<|?_;have aW:=bF;have st1:=aW.fr hl;refine(eD) st1 fun b3 w1 ic dA st2=>?_;refine(fT) st2 fun b4 w2 jS bL aP=>?_;refine jo ?_;refine WP .r (PV.func (us:=[]) (vs:=[.pointer (some ⟨b3,0,none⟩)]) rfl rfl)<|(df) Qj (oU (p:=fun x=>decide (x.key=k)) adZ (As.gr aP.g2) (fun w1 h1 x _ a n c _=>FT ((As.gb aP.g1).ext h1))) ?_;rintro _ w3 ⟨j,rfl,hj,s3⟩;have aV:=aP.step s3;refine(bp) (fun g11=>?_) fun g11=>?_
 ·
  simp at g11
  have cy:∀x∈l,(decide (x.key=k))=false:=by rcases hj with⟨i,x,_,_,_,h⟩ | ⟨h,_⟩;omega;exact h
  have hf:aD l k=none:=rB (i:=l.length) (Nat.le_refl _) (fun j x _ hx=>by simpa using cy x (List.mem_of_getElem? hx))
  have Ei:aG l k=pd:=by unfold aG;rw [hf];rfl
  have bf:=aV.eX RR.key 58 2;refine(dB) gC bf.p1 fun w4 jC jI br=>?_;refine eA ?_;refine EX.je rfl (RS.cell dm rfl br.b0 rfl<|RS.tmp rfl<|RS.nil) rfl<|?_;exact⟨none,0,0,by rw [hf,Ei];rfl,by rw [Ei];simp [pd],by rw [Ei];exact br.p1.k1⟩
 simp at g11
 obtain⟨i,x,hx,hp,gh,rfl⟩:∃i:Nat,∃x,l[i]?=some x∧decide (x.key=k)=true∧(∀j x,j<i→l[j]?=some x→(x.key == k)=false)∧j=i:=by
  rcases hj with⟨i,x,h1,h2,h3,h4⟩ | ⟨_,h⟩
  ·
   exact⟨i,x,h1,h2,fun j x hj hx=>by simpa using h3 j x hj hx,h4⟩
  omega
 obtain⟨cV,rfl⟩:=List.getElem?_eq_some_iff.1 hx;have hf:aD l k=some l[i]:=ki cV gh (by simpa using hp)
 have Ei:aG l k=l[i]:=by unfold aG;rw [hf];rfl
 refine dw ?_;obtain⟨gE,js,iT,aS,fi,bq,bY,di⟩:=Rd.at (As.gr aV.g2) cV;obtain⟨q1,q2,q3,rfl,pA,oM⟩:=bq;have bf:=aV.fg di bY;have br:=bf.fr pA;refine dw ?_;refine WP .r (PV.fm iF aS rfl rfl (by omega))<|(bz) dm (As.nh br.g1)<|?_;have bP:=br;refine(df) VH (BR bP.e0 (As.gr bP.g0) oM) ?_;rintro _ w4 ⟨e1,e2,e3,rfl,fN⟩;have bS:=St.lr bP fN;refine(dB) gC bS.p3 fun w5 r7 mR bX=>?_;refine dF ?_;refine EX.je rfl (RS.cell dm rfl bX.b0 rfl<|RS.tmp rfl<|RS.nil) rfl<|?_;exact⟨e1,e2,e3,by rw [hf,Ei];rfl,by rw [Ei];exact oM,by rw [Ei];exact bX.p1.k1⟩
theorem FU(bF:St w M Z w []) (hl:Rd RR.fl 8 Z w a n c l) (h6:l.length≤1000000):Calls prog 143 #[.slice a n c] w fun e w'=>∃a' n' c' Z',e=.returned (.slice a' n' c')∧cQ w.heap.size Z Z'∧St w M Z' w' [As.os RR.fl 60 8 a' n' c' l]:=by
 have hlen:=hl.len;have hle:=hl.le;refine enter func143 rfl ntmps143 rfl<|?_;have aW:=bF;have st1:=aW.fr hl;refine kJ ?_;have st2:=st1;refine(df) adQ (tP st2.e0 (As.gr st2.g0) h6) ?_;rintro _ w1 ⟨f1,f2,f3,rfl,BV⟩;have aP:=St.lr st2 BV;have Nr:=((As.gs aP.g0)).len;refine bC ?_;refine WC.kj (σ:=Nat × (Nat→Prop)) (eI:=fun(i,Z1)=>[(3,.slice f1 f2 f3),(8,.slice f1 f2 f3),(9,.int .i64 (f2:Int)),(10,.int .i64 (i:Int))]) (F:=fun(i,Z1)=>[As.os RR.fl 60 8 f1 f2 f3 l]) (I:=fun(i,Z1)=>(i≤f2)∧(cQ w.heap.size Z Z1)∧True) (μ:=fun(i,Z1)=>f2 - i) (Zf:=fun(i,Z1)=>Z1) (0,Z) (aP) Sub.t (⟨by omega,cQ.refl _ _,trivial⟩)<|?_;rintro⟨i,Z1⟩ w2 aV ⟨hi,hZ,_⟩;simp only [CA,NA] at aV hi hZ ⊢;refine(bp) (fun g11=>?_) fun g11=>?_
 ·
  simp at g11
  have cV:i<l.length:=by omega
  refine eA ?_;obtain⟨gE,iT,aS,fi,bq,bY⟩:=Ow.at (As.gs aV.g0) (by omega) (aq cV);obtain⟨q1,q2,q3,rfl,pA,oM⟩:=bq;have bf:=aV.fr (pA);refine db ?_;refine WP .r (PV.fm iF aS rfl rfl (by omega))<|(bz) dm bY<|(fT) bf fun b5 w3 nH gI br=>?_;refine(dB) gC br fun w4 jC jI bP=>?_;refine(bz) dm bP.b0<|?_;have bS:=bP;refine(df) VH (BR bS.e0 (As.gr bS.g1) oM) ?_;rintro _ w5 ⟨e1,e2,e3,rfl,ja⟩;have bX:=St.lr bS ja;have rp:=St.cK ja;have hsz:=bS.size;have aM:=bX.bV (by omega);have kZ:=hZ.trans (cQ.fo (F:=fun x=>x∈aL e1) rp) hsz;refine WP .r (PV.fm iF aS rfl rfl (by omega))<|?_;refine WL.go rfl (OX.W2 (i:=i) gC (As.gs aM.g3) aS cV rfl rfl rfl (Rec.one _ _ _ _) l[i] ⟨e1,e2,e3,rfl,(As.gr aM.g0),oM⟩ fun w6 s8 h8=>?_);have aT:=aM.p3.iY s8 h8 (fun x h=>.inl h);have aY:=aT.WZ (List.set_getElem_self cV);refine gp ?_;refine fx (i+1,_) ⟨aY.p4.p1.k2,⟨by omega,kZ,trivial⟩⟩
 refine(cm) ?_;exact⟨_,_,_,_,rfl,hZ,aV.p1.drop⟩
theorem si{x:dV}(bF:St w M Z w []) (hi:Rd RR.aH 4 Z w a1 n1 e1 x.ah) (hr:Rd RR.fl 8 Z w a2 n2 e2 x.ak) (h6:x.ak.length≤1000000) (h7:x.ah.length≤1000000):Calls prog 91 #[.agg (x.row a1 n1 e1 a2 n2 e2).toArray] w fun e w'=>∃Qx Qy Qz QA QB QC Z',e=.returned (.agg (x.row Qx Qy Qz QA QB QC).toArray)∧cQ w.heap.size Z Z'∧St w M Z' w' [As.os RR.aH 83 4 Qx Qy Qz x.ah,As.os RR.fl 60 8 QA QB QC x.ak]:=by
 refine enter func91 rfl ntmps91 rfl<|?_;have aW:=bF;have st1:=aW.fr hi;have st2:=st1.fr hr;refine(eD) st2 fun b1 w1 pK dQ aP=>?_;refine(fT) aP fun b2 w2 lB eZ aV=>?_;refine dw ?_;refine WC.dq (m:=7) [] [2,5] [0,1,2,3,4,5,6] [] aV (ax.k4 M0 M1 M2 M3<|ax.nil) mixed (by kernel_rfl) (by kernel_rfl) rfl<|(wS) pw SV.g1<|(jD) (fun w3 Q1 BW bf sj=>?_);simp only [CA,NA] at bf;have br:=bf;refine OX.call aea rfl rfl ((CW br.e0 (As.gr br.g3) h7).mono ?_);rintro _ w4 ⟨f1,f2,f3,rfl,fN⟩;have bP:=St.lr br fN;refine⟨_,rfl,fN.cX.size,_,rfl,_,_,_,bP,aC.k4<|aC.cons<|aC.nil,ax.k4 M1 M2 M3 M4<|ax.nil,?_⟩;refine(wS) ez SV.g1<|(jD) (fun w5 R7 CY bS qO=>?_);simp only [CA,NA] at bS;have bX:=bS;refine OX.call aeb rfl rfl ((FU bX.e0 (As.gr bX.g3) h6).mono ?_);rintro _ w6 ⟨f4,f5,f6,Z1,rfl,gP,nL⟩;have aM:=St.lv bX nL gP;have oN:=gP.le bX.size;refine⟨_,rfl,nL.cX.size,_,rfl,_,_,_,aM,aC.k4<|aC.k2<|aC.nil,ax.k4 M2 M3 M4 M5<|ax.nil,?_⟩;refine(oa) ?_;intro w7 fj aT;simp only [CM,NM,CA,NA,lA.it] at aT;refine WL.s1 aT.p3 fun w8 _ aY=>?_;refine nx ?_;refine WL.s1 aY fun w9 _ bG=>?_;refine WL.nil (EX.np ?_);refine(bz) aN bG.b0<|(dB) gg bG.p3 fun kM jC jI bB=>?_;refine(mI) aN bB.b0<|?_;exact⟨_,_,_,_,_,_,_,rfl,oN,bB.p2.p3.k2⟩
theorem xH{r:Rec}{x:dV}{bb:Nat}(hb:cJ w bb 31 (x.row a1 n1 e1 a2 n2 e2)):CR prog 136 #[.agg (r.row a n c).toArray,.pointer (some ⟨bb,0,none⟩)] w (.bool (decide (x.ae<r.az))):=by
 refine enter func136 rfl ntmps136 rfl<|?_;have aW:=St.s0 w;refine(eD) aW fun b2 w1 lB eZ st1=>?_;refine(bN) aX st1.b0<|(bN) aX (cJ.range (hb.ext (St.cg st1)))<|(cm) ?_;exact⟨rfl,(St.cg st1)⟩
end Go.Rc

