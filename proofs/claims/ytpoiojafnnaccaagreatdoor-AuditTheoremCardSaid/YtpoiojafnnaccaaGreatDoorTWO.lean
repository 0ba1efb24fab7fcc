/- Walks over the program, part WO. Conditions: as each theorem says. -/
import Derived.Test.YtpoiojafnnaccaaGreatDoorTFacts
import Derived.Test.YtpoiojafnnaccaaGreatDoorTWLibE
import Derived.Test.YtpoiojafnnaccaaGreatDoorTBe
import Derived.Test.YtpoiojafnnaccaaGreatDoorTBd
import Derived.Test.YtpoiojafnnaccaaGreatDoorTWF
set_option linter.all false
namespace Go.Rc
open Go Go.Proofs Go.Proofs.Tryz
variable {n r c i r2 e2 n1 e1 n2:Nat}{w:World}{ab:List aJ}{A B C M Z:Nat→Prop}{a a2 a1:Option Addr}{k:Key}{s:ByteArray}{l:List Rec}{ak:List ByteArray}{x:Rec}{f:FuncId}{cap fv:Value}
set_option maxHeartbeats 400000
theorem yP{n:Int} :CR prog 228 #[.int .i64 n] w ((dQ n).val):=by
 refine enter func228 rfl ntmps228 rfl<|?_;have aW:=St.s0 w;refine(fU) aW fun b2 w1 lA eZ st1=>?_;refine dC ?_;refine WC.fF (t:=8) (v:=.bool (decide (n<0) || decide (99<n))) st1 ?_<|?_
 ·
  refine(dW) (fun g5=>?_) (fun g5=>?_)
  ·
   exact(dq) (by simp only [g5];first | rfl | simp) (st1)
  exact(dq) (by simp only [g5];first | rfl | simp) (st1)
 intro w2 st2;refine(br) (fun g8=>?_) fun g8=>?_
 ·
  have hk:dQ n=fW:=by unfold dQ;rw [if_pos (by simp at g8;omega)]
  refine(dA) jT st2 fun w3 jv jC aP=>?_;refine(mU) av aP.b0<|?_;rw [hk];exact⟨rfl,(St.cg aP)⟩
 simp at g8
 have hk:dQ n=⟨30,itoa n⟩:=by unfold dQ;rw [if_neg (by omega)]
 refine(gg) (lT (n:=n) (by omega) (by omega) w2) st2 fun w3 s3 aP=>?_;refine WP .r (PV.cD (us:=[.int .i64 30,.string (itoa n)]) Ic rfl rfl rfl)<|(dA) jT aP fun w4 sr nc aU=>?_;refine(mU) av aU.b0<|?_;rw [hk];exact⟨rfl,(St.cg aU)⟩
theorem F6{n:Int}(hr:iB A w a r c ab):CR prog 185 #[.slice a r c,.int .i64 n] w (.tuple #[.int .i64 (block ab n).1,.int .i64 (block ab n).2]):=by
 have hle:=hr.le;have hlen:=hr.len;refine enter func185 rfl ntmps185 rfl<|?_;have aW:=St.s0 w;refine kE ?_;refine WC.fF (t:=15) (v:=.bool (decide (n<0) || decide ((r:Int)≤n))) aW ?_<|?_
 ·
  refine(dW) (fun g10=>?_) (fun g10=>?_)
  ·
   exact(dq) (by simp only [g10];first | rfl | simp) (aW)
  exact(dq) (by simp only [g10];first | rfl | simp) (aW)
 intro w1 st1;refine(br) (fun g15=>?_) fun g15=>?_
 ·
  have hb:=DO ab n (by simp at g15;omega);refine(CH) ?_;exact⟨by rw [hb],(St.cg st1)⟩
 obtain⟨nn,rfl⟩:∃i:Nat,n=i:=⟨n.toNat,by simp at g15;omega⟩
 have l8:nn<ab.length:=by simp at g15;omega
 have LZ:block ab nn=if aI ab nn then ((cz ab nn:Int),(fq ab (nn+1):Int)) else ((nn:Int),(nn:Int)+1):=by
  unfold block;rw [if_neg (by omega)];rfl
 refine bC ?_;refine nx ?_;obtain⟨UB,UC,UD,mn,_,⟨q1,q2,q3,rfl,_⟩,pc,_⟩:=(hr.ext (St.cg st1)).at (aq l8);refine dy ?_;refine WP .r (PV.fC lS mn rfl rfl (by omega))<|nx ?_;refine WP .r (PV.ld1 (j:=0) fH pc rfl rfl)<|(br) (fun g24=>?_) fun g24=>?_
 ·
  simp at g24
  have hb:block ab nn=((nn:Int),(nn:Int)+1):=by rw [LZ,if_neg (by rw [da l8,g24];simp)]
  refine(CH) ?_;exact⟨by rw [hb],(St.cg st1)⟩
 simp at g24
 rw [if_pos (by rw [da l8];exact g24)] at LZ;refine dC ?_;refine WC.bU (σ:=Nat) (eI:=fun k=>[(0,.slice a r c),(6,.int .i64 (k:Int)),(7,.int .i64 ((nn:Int)+1))]) (F:=fun k=>[]) (I:=fun k=>(k≤nn)∧(cz ab k=cz ab nn)∧True) (μ:=fun k=>k) (nn) (st1) Sub.t (⟨Nat.le_refl _,rfl,trivial⟩)<|?_;rintro k w2 st2 ⟨hk,JF,_⟩;simp only [CA,NA] at st2 hk JF ⊢;refine cV ?_;refine WC.fF (t:=36) (v:=.bool (decide ((0:Int)<k) && aI ab (k - 1))) st2 ?_<|?_
 ·
  refine(dW) (fun n0=>?_) (fun n0=>?_)
  ·
   simp at n0
   obtain⟨b_y,o_y,r_y,B8,_,⟨q4,q5,q6,rfl,_⟩,xV,_⟩:=(hr.ext (St.cg st2)).at (aq (show k - 1<ab.length by omega));have tL:ab[k-1].ring=aI ab (k-1):=(da (by omega)).symm;refine dy ?_;refine WP .r (PV.LQ lS (i:=k - 1) B8 rfl rfl (by omega) (by omega))<|nx ?_;refine WP .r (PV.ld1 (j:=0) fH xV rfl rfl)<|?_;exact(dq) (by simp [*]) (st2)
  simp at n0
  have OH:¬(0<k):=by omega
  exact(dq) (by simp [*]) (st2)
 intro w3 aP;refine(br) (fun ir=>?_) fun ir=>?_
 ·
  simp at ir
  obtain⟨g1,g2⟩:=ir;obtain⟨j,rfl⟩:∃j,k=j+1:=⟨k - 1,by omega⟩;refine pQ ?_;refine fx (j) ⟨aP,⟨by omega,by rw [← JF,vl (by simpa using g2)],trivial⟩⟩
 simp at ir
 have YZ:(block ab nn).1=k:=by
  rw [LZ]
  show(cz ab nn:Int)=k
  rw [← JF,yb]
  by_cases h0:k=0
  ·
   exact .inl h0
  exact .inr (ir (by omega))
 refine gp ?_;refine WC.bU (σ:=Nat) (eI:=fun m=>[(0,.slice a r c),(6,.int .i64 (k:Int)),(7,.int .i64 (m:Int))]) (F:=fun m=>[]) (I:=fun m=>(nn+1≤m)∧(m≤r)∧(fq ab m=fq ab (nn+1))∧True) (μ:=fun m=>r - m) (nn+1) (aP) Sub.t (⟨Nat.le_refl _,by omega,rfl,trivial⟩)<|?_;rintro m w4 aU ⟨CK,jf,Xr,_⟩;simp only [CA,NA] at aU CK jf Xr ⊢;refine cV ?_;refine WC.fF (t:=49) (v:=.bool (decide ((m:Int)<r) && aI ab m)) aU ?_<|?_
 ·
  refine(dW) (fun oE=>?_) (fun oE=>?_)
  ·
   simp at oE
   obtain⟨b_z,o_z,r_z,ZZ,_,⟨q4,q5,q6,rfl,_⟩,Z0,_⟩:=(hr.ext (St.cg aU)).at (aq (show m<ab.length by omega));have og:ab[m].ring=aI ab m:=(da (by omega)).symm
   have Ob:decide ((m:Int)<r)=true:=by simp;omega
   refine cV ?_;refine WP .r (PV.fC lS ZZ rfl rfl (by omega))<|nx ?_;refine WP .r (PV.ld1 (j:=0) fH Z0 rfl rfl)<|?_;exact(dq) (by first | (rw [og,Ob];rfl) | simp [*]) (aU)
  simp at oE
  have OH:¬(m<ab.length):=by omega
  exact(dq) (by first | (rw [og,Ob];rfl) | simp [*]) (aU)
 intro w5 aY;refine(br) (fun wQ=>?_) fun wQ=>?_
 ·
  simp at wQ
  obtain⟨g3,g4⟩:=wQ;refine pQ ?_;refine fx (m+1) ⟨aY,⟨by omega,by omega,by rw [← Xr,← ya g4],trivial⟩⟩
 simp at wQ
 have Y0:(block ab nn).2=m:=by
  rw [LZ]
  show(fq ab (nn+1):Int)=m
  rw [← Xr,Ah]
  rcases Nat.lt_or_ge m r with h0 | h0
  ·
   exact wQ (by omega)
  exact pX (by omega)
 refine bC ?_;refine(CH) ?_;exact⟨by rw [YZ,Y0],(St.cg aY)⟩
theorem uZ{cell:Bool}{n:Int}(hr:iB A w a r c ab) (hi:i<ab.length):CR prog 166 #[.slice a r c,.int .i64 (i:Int),.bool cell,.int .i64 n] w (.bool (iX ab i cell n)):=by
 have hle:=hr.le;have hlen:=hr.len;have lP:=da hi;have hbw:=Ke hi
 have ht:ik ab i=if ab[i].ring=true then (block ab (i:Int)).2 else (block ab (i:Int)).1:=by unfold ik;rw [lP]
 refine enter func166 rfl ntmps166 rfl<|?_;have aW:=St.s0 w;refine(br) (fun g11=>?_) fun g11=>?_
 ·
  refine nx ?_;refine WC.mC (t:=8) (v:=.bool (decide (0≤n) && decide (n≤15))) aW ?_<|?_
  ·
   refine(dW) (fun g14=>?_) (fun g14=>?_)
   ·
    exact(iu) (by simp only [g14];first | rfl | simp) (aW)
   exact(iu) (by simp only [g14];first | rfl | simp) (aW)
  intro w1 st1;refine(cj) ?_;exact⟨by unfold iX;rw [if_pos g11],(St.cg st1)⟩
 refine(gg) (F6 (n:=(i:Int)) (hr.ext (St.cg aW))) aW fun w1 s1 st1=>?_;refine kE ?_;obtain⟨UB,UC,UD,mn,_,⟨q1,q2,q3,rfl,_⟩,pc,_⟩:=(hr.ext (St.cg st1)).at (aq hi);refine WC.mC (t:=8) (v:=.bool (decide (0≤n) && decide (n<ik ab i))) st1 ?_<|?_
 ·
  refine(dW) (fun kX=>?_) (fun kX=>?_)
  ·
   refine(dW) (fun me=>?_) (fun me=>?_)
   ·
    refine bC ?_;exact(iu) (by rw [ht];first | (simp [kX,me];done) | (simp at kX me;simp [kX,me];done) | (simp at kX me ⊢;split <;> omega) | (simp at kX me;simp [kX,me];omega)) (st1)
   refine cV ?_;refine WP .r (PV.fC lS mn rfl rfl (by omega))<|nx ?_;refine WP .r (PV.ld1 (j:=0) fH pc rfl rfl)<|(dW) (fun ir=>?_) (fun ir=>?_)
   ·
    exact(iu) (by rw [ht];first | (simp [kX,me,ir];done) | (simp at kX me ir;simp [kX,me,ir];done) | (simp at kX me ir ⊢;split <;> omega) | (simp at kX me ir;simp [kX,me,ir];omega)) (st1)
   exact(iu) (by rw [ht];first | (simp [kX,me,ir];done) | (simp at kX me ir;simp [kX,me,ir];done) | (simp at kX me ir ⊢;split <;> omega) | (simp at kX me ir;simp [kX,me,ir];omega)) (st1)
  refine bC ?_;exact(iu) (by rw [ht];first | (simp [kX];done) | (simp at kX;simp [kX];done) | (simp at kX ⊢;split <;> omega) | (simp at kX;simp [kX];omega)) (st1)
 intro w2 st2;refine(cj) ?_;exact⟨by unfold iX;rw [g11];rfl,(St.cg st2)⟩
theorem wi{k:Nat}{x:Ask}(hr:iB A w a r c ab) (hi:i<ab.length):CR prog 131 #[.slice a r c,.int .i64 (i:Int),x.val,.bool (decide ((k:Int)=0))] w (.bool (gV ab i ab[i].ring k x)):=by
 have hle:=hr.le;have hlen:=hr.len;obtain⟨UB,UC,UD,mn,_,⟨q1,q2,q3,rfl,_⟩,pc,_⟩:=hr.at (aq hi);have OJ:(gV ab i ab[i].ring k x)=(iX ab i x.cell x.n && (if x.pick then !ab[i].ring && decide (k≠0) && iX ab i x.cell x.JX else decide (x.JX=0))):=rfl;rw [OJ]
 clear OJ
 have OU:decide ((k:Int)=0)=decide (k=0):=by simp
 refine enter func131 rfl ntmps131 rfl<|?_;have aW:=St.s0 w;refine(ef) aW fun b6 w1 mY eO st1=>?_;refine ew ?_;refine WC.fF (t:=30) (v:=.bool ((x.pick && (ab[i].ring || decide (k=0))) || !iX ab i x.cell x.n)) st1 ?_<|?_
 ·
  refine(bO) fH st1.b0<|(dW) (fun g11=>?_) (fun g11=>?_)
  ·
   refine cV ?_;refine WP .r (PV.fC lS mn rfl rfl (by omega))<|nx ?_;refine WP .r (PV.ld1 (j:=0) fH (bG pc (St.cg st1) (by simp)) rfl rfl)<|(dW) (fun g17=>?_) (fun g17=>?_)
   ·
    refine bC ?_;exact(dq) (by first | (simp only [g11,g17,← OU];rfl) | (simp [g11,g17,OU];done) | (simp at g11 g17;simp [g11,g17,OU];done) | (simp at g11 g17;simp_all;done)) (st1)
   refine(dW) (fun g21=>?_) (fun g21=>?_)
   ·
    exact(dq) (by first | (simp only [g11,g17,g21,← OU];rfl) | (simp [g11,g17,g21,OU];done) | (simp at g11 g17 g21;simp [g11,g17,g21,OU];done) | (simp at g11 g17 g21;simp_all;done)) (st1)
   refine(bO) fH st1.b0<|(bO) aZ st1.b0<|(gg) (uZ (cell:=x.cell) (n:=x.n) (hr.ext (St.cg st1)) hi) st1 fun w2 s2 st2=>?_;exact(dq) (by first | (simp only [g11,g17,g21,← OU];rfl) | (simp [g11,g17,g21,OU];done) | (simp at g11 g17 g21;simp [g11,g17,g21,OU];done) | (simp at g11 g17 g21;simp_all;done)) (st2)
  refine bC ?_;refine(bO) fH st1.b0<|(bO) aZ st1.b0<|(gg) (uZ (cell:=x.cell) (n:=x.n) (hr.ext (St.cg st1)) hi) st1 fun w2 s2 st2=>?_;exact(dq) (by first | (simp only [g11,← OU];rfl) | (simp [g11,OU];done) | (simp at g11;simp [g11,OU];done) | (simp at g11;simp_all;done)) (st2)
 intro w2 st2;refine(br) (fun me=>?_) fun me=>?_
 ·
  refine(cj) ?_;exact⟨by cases hm:iX ab i x.cell x.n <;> cases hp:x.pick <;> cases hg:ab[i].ring <;> by_cases h0:k=0 <;> simp_all,(St.cg st2)⟩
 refine(bO) fH st2.b0<|(br) (fun j3=>?_) fun j3=>?_
 ·
  simp at j3
  refine(bO) aZ st2.b0<|(cj) ?_;exact⟨by cases hm:iX ab i x.cell x.n <;> simp_all,(St.cg st2)⟩
 simp at j3
 refine(bO) fH st2.b0<|(bO) aZ st2.b0<|(gg) (uZ (cell:=x.cell) (n:=x.JX) (hr.ext (St.cg st2)) hi) st2 fun w3 s3 aP=>?_;refine(cj) ?_;exact⟨by cases hm:iX ab i x.cell x.n <;> cases hg:ab[i].ring <;> by_cases h0:k=0 <;> simp_all,(St.cg aP)⟩
theorem n9(hr:iB A w a r c ab) (hR:ay ab):CR prog 86 #[.slice a r c] w (.bool true):=by
 have hle:=hr.le;have hlen:=hr.len;have qf:=hR.1;refine enter func86 rfl ntmps86 rfl<|?_;have aW:=St.s0 w;refine bC ?_;refine(br) (fun g12=>?_) fun g12=>?_
 ·
  exact gw g12
 ·
  refine rT ?_;refine WC.bU (σ:=Nat) (eI:=fun i=>[(0,.slice a r c),(13,.slice a r c),(14,.int .i64 (r:Int)),(15,.int .i64 (i:Int))]) (F:=fun i=>[]) (I:=fun i=>(i≤r)∧True) (μ:=fun i=>r - i) (0) (aW) Sub.t (⟨by omega,trivial⟩)<|?_;rintro i w1 st1 ⟨hi,_⟩;simp only [CA,NA] at st1 hi ⊢;refine(br) (fun g16=>?_) fun g16=>?_
  ·
   simp at g16
   have cX:i<ab.length:=by omega
   obtain⟨al2,UE,Om⟩:=hR.2 i _ (aq cX)
   unfold jX at Om
   obtain⟨UB,UC,UD,mn,_,⟨q1,q2,q3,rfl,pH⟩,pc,_⟩:=hr.at (aq cX);have uq:=pH.len;refine gp ?_;refine WP .r (PV.fC lS mn rfl rfl (by omega))<|(bA) yC (bG pc (St.cg st1) (by simp))<|(fU) st1 fun b4 w2 jE bM st2=>?_;refine(dA) KU st2 fun w3 jv jC aP=>?_;refine bC ?_;refine(bO) fH aP.b0<|(br) (fun g21=>?_) fun g21=>?_
   ·
    rw [if_pos g21] at Om
    simp at Om
    refine kE ?_;refine WC.fF (t:=48) (v:=.bool false) aP ?_<|?_
    ·
     refine(bO) nS aP.b0<|(dW) (fun kX=>?_) (fun kX=>?_)
     ·
      refine bC ?_;exact(dq) (tG kX) (aP)
     refine(bO) aZ aP.b0<|(dW) (fun u9=>?_) (fun u9=>?_)
     ·
      refine bC ?_;exact(dq) (tG (aj kX u9)) (aP)
     refine(bO) aZ aP.b0<|(dW) (fun qC=>?_) (fun qC=>?_)
     ·
      exact(dq) (tG (aj kX<|aj u9 qC)) (aP)
     refine(bO) aZ aP.b0<|(dW) (fun oE=>?_) (fun oE=>?_)
     ·
      exact(dq) (tG (aj kX<|aj u9<|aj qC oE)) (aP)
     refine(bO) aZ aP.b0<|?_;exact(dq) (tG (aj kX<|aj u9<|aj qC oE)) (aP)
    intro w4 aU;refine(br) (fun o0=>?_) fun o0=>?_
    ·
     exact gw o0
    refine(bO) nS aU.b0<|ew ?_;refine WC.bU (σ:=Nat) (eI:=fun k=>[(0,.slice a r c),(3,.int .i64 (i:Int)),(13,.slice a r c),(14,.int .i64 (r:Int)),(15,.int .i64 (i:Int)),(50,.slice q1 q2 q3),(51,.int .i64 (q2:Int)),(52,.int .i64 (k:Int))]) (F:=fun k=>[]) (I:=fun k=>(k≤q2)∧True) (μ:=fun k=>q2 - k) (0) (aU) Sub.t (⟨by omega,trivial⟩)<|?_;rintro k w5 aY ⟨hk,_⟩;simp only [CA,NA] at aY hk ⊢;refine(br) (fun xR=>?_) fun xR=>?_
    ·
     simp at xR
     have og:k<ab[i].asks.length:=by omega
     obtain⟨b_y,o_y,r_y,B8,_,rfl,xV,_⟩:=(pH.ext (St.cg aY)).at (aq og);refine gp ?_;refine WP .r (PV.fC C2 B8 rfl rfl (by omega))<|(bA) oT xV<|(fU) aY fun b9 w6 QT BP bj=>?_;refine(dA) Br bj fun w7 sr nc bP=>?_;refine(bA) oT bP.b0<|cV ?_;refine WL.c1 (u:=.bool true) (wi (k:=k) (x:=ab[i].asks[k]) (hr.ext (St.cg bP)) cX) (by rw [show gV ab i ab[i].ring k ab[i].asks[k]=true from UE k _ (aq og)]) bP fun w8 s8 bQ=>?_;refine dy ?_;refine WC.gT rfl<|gp ?_;refine fx (k+1) ⟨bQ.drop,⟨by omega,trivial⟩⟩
    simp at xR
    refine mT ?_;refine fx (i+1) ⟨aY.drop,⟨by omega,trivial⟩⟩
   rw [if_neg (by simp [g21])] at Om
   simp at Om
   refine dC ?_;refine WC.fF (t:=48) (v:=.bool false) aP ?_<|?_
   ·
    refine(bO) nS aP.b0<|(dW) (fun kX=>?_) (fun kX=>?_)
    ·
     refine bC ?_;exact(dq) (tG kX) (aP)
    refine(bO) aZ aP.b0<|(dW) (fun u9=>?_) (fun u9=>?_)
    ·
     refine bC ?_;exact(dq) (tG (aj kX u9)) (aP)
    refine(bO) aZ aP.b0<|(dW) (fun qC=>?_) (fun qC=>?_)
    ·
     exact(dq) (tG (aj kX<|aj u9 qC)) (aP)
    refine(bO) aZ aP.b0<|(dW) (fun oE=>?_) (fun oE=>?_)
    ·
     exact(dq) (tG (aj kX<|aj u9<|aj qC oE)) (aP)
    refine(bO) aZ aP.b0<|?_;exact(dq) (tG (aj kX<|aj u9<|aj qC oE)) (aP)
   intro w4 aU;refine(br) (fun o0=>?_) fun o0=>?_
   ·
    exact gw o0
   refine(bO) nS aU.b0<|ew ?_;refine WC.bU (σ:=Nat) (eI:=fun k=>[(0,.slice a r c),(3,.int .i64 (i:Int)),(13,.slice a r c),(14,.int .i64 (r:Int)),(15,.int .i64 (i:Int)),(50,.slice q1 q2 q3),(51,.int .i64 (q2:Int)),(52,.int .i64 (k:Int))]) (F:=fun k=>[]) (I:=fun k=>(k≤q2)∧True) (μ:=fun k=>q2 - k) (0) (aU) Sub.t (⟨by omega,trivial⟩)<|?_;rintro k w5 aY ⟨hk,_⟩;simp only [CA,NA] at aY hk ⊢;refine(br) (fun xR=>?_) fun xR=>?_
   ·
    simp at xR
    have og:k<ab[i].asks.length:=by omega
    obtain⟨b_y,o_y,r_y,B8,_,rfl,xV,_⟩:=(pH.ext (St.cg aY)).at (aq og);refine gp ?_;refine WP .r (PV.fC C2 B8 rfl rfl (by omega))<|(bA) oT xV<|(fU) aY fun b9 w6 QT BP bj=>?_;refine(dA) Br bj fun w7 ED tj bP=>?_;refine(bA) oT bP.b0<|cV ?_;refine WL.c1 (u:=.bool true) (wi (k:=k) (x:=ab[i].asks[k]) (hr.ext (St.cg bP)) cX) (by rw [show gV ab i ab[i].ring k ab[i].asks[k]=true from UE k _ (aq og)]) bP fun w8 s8 bQ=>?_;refine dy ?_;refine WC.gT rfl<|gp ?_;refine fx (k+1) ⟨bQ.drop,⟨by omega,trivial⟩⟩
   simp at xR
   refine mT ?_;refine fx (i+1) ⟨aY.drop,⟨by omega,trivial⟩⟩
  simp at g16
  refine(cj) ?_;exact⟨rfl,(St.cg st1)⟩
 -- xO kC C63
theorem F7(ht:oj prog A w) (hn:n≤65535):CR prog 227 #[.string (itoa (n:Int))] w (.int .i64 (n:Int)):=by
 refine enter func227 rfl ntmps227 rfl<|?_;have aW:=St.s0 w;refine(gg) (Il (n:=n) (by omega) w) aW fun w1 s1 st1=>?_;refine pQ ?_;refine WC.fF (t:=25) (v:=.bool false) st1 ?_<|?_
 ·
  refine cV ?_;refine WP .r (PV.Xn FD rfl)<|nx ?_;refine WL.gi (t:=12) rfl (fun g12=>?_) (fun g12=>?_)
  ·
   refine bC ?_;exact(dq) (tG g12) (st1)
  refine dC ?_;refine WL.gi (t:=16) rfl (fun g16=>?_) (fun g16=>?_)
  ·
   exact(dq) (tG (aj g12 g16)) (st1)
  refine dC ?_;refine WL.gi (t:=20) rfl (fun g20=>?_) (fun g20=>?_)
  ·
   exact(dq) (tG (aj g12<|aj g16 g20)) (st1)
  refine(gg) (qv (n:=(n:Int)) (ht.ext (St.cg st1)) (by omega) (by omega)) st1 fun w2 s2 st2=>?_;exact(dq) (tG (aj g12<|aj g16 g20)) (st2)
 intro w2 st2;refine(br) (fun fy=>?_) fun fy=>?_
 ·
  exact gw fy
 refine(cj) ?_;exact⟨rfl,(St.cg st2)⟩
theorem F8(ht:oj prog A w) (hs:s.size≤1000) (gh:∀n:Nat,n≤65535→s≠itoa (n:Int)):CR prog 227 #[.string s] w (.int .i64 0):=by
 refine enter func227 rfl ntmps227 rfl<|?_;have aW:=St.s0 w;refine(cW) V3 (Rk (s:=s) (ht.ext (St.cg aW)) hs) ?_;rintro _ w1 ⟨v,ok,ev,rfl,hv,eL,s1⟩;have st1:=aW.step s1;refine pQ ?_;refine WC.fF (t:=25) (v:=.bool true) st1 ?_<|?_
 ·
  refine cV ?_;refine WP .r (PV.acv FD rfl eL)<|(dW) (fun g12=>?_) (fun g12=>?_)
  ·
   refine bC ?_;exact(dq) (by first | (simp [g12];done) | (simp at g12 ⊢;intro e;exact gh v.toNat (by omega) (by rw [show((v.toNat:Nat):Int)=v by omega];exact e.symm))) (st1)
  refine(dW) (fun g16=>?_) (fun g16=>?_)
  ·
   exact(dq) (by first | (simp [g12,g16];done) | (simp at g12 g16 ⊢;intro e;exact gh v.toNat (by omega) (by rw [show((v.toNat:Nat):Int)=v by omega];exact e.symm))) (st1)
  refine(dW) (fun g20=>?_) (fun g20=>?_)
  ·
   exact(dq) (by first | (simp [g12,g16,g20];done) | (simp at g12 g16 g20 ⊢;intro e;exact gh v.toNat (by omega) (by rw [show((v.toNat:Nat):Int)=v by omega];exact e.symm))) (st1)
  refine(gg) (qv (n:=v) (ht.ext (St.cg st1)) (by omega) (by omega)) st1 fun w2 s2 st2=>?_;exact(dq) (by first | (simp [g12,g16,g20];done) | (simp at g12 g16 g20 ⊢;intro e;exact gh v.toNat (by omega) (by rw [show((v.toNat:Nat):Int)=v by omega];exact e.symm))) (st2)
 intro w2 st2;refine(br) (fun fy=>?_) fun fy=>?_
 ·
  refine(cj) ?_;exact⟨rfl,(St.cg st2)⟩
 exact gw fy
theorem yQ(ht:oj prog A w) (hs:s.size≤1000):CR prog 227 #[.string s] w (.int .i64 (eh s:Int)):=by
 by_cases h:∃n:Nat,n≤65535∧s=itoa (n:Int)
 ·
  obtain⟨n,hn,rfl⟩:=h;rw [gR hn];exact F7 ht hn
 have h0:∀n:Nat,n≤65535→s≠itoa (n:Int):=fun n hn e=>h ⟨n,hn,e⟩;rw [Nr h0];exact F8 ht hs h0
theorem De{kd:Int}{l:List Nat}(hl:Ints A w a r c (l.map fun x:Nat=>(x:Int))) (FO:∀x∈l,x≤65535) (hr:r≤1000):CR prog 229 #[.int .i64 kd,.slice a r c] w (.int .i64 (gj kd 0 l:Int)):=by
 have hle:=SR.le hl;have hlen:=SR.len hl;rw [List.length_map] at hlen;have C5:∀i,∀x∈l.take i,x≤65535:=fun i x hx=>FO x (List.mem_of_mem_take hx);refine enter func229 rfl ntmps229 rfl<|?_;have aW:=St.s0 w;refine bC ?_;refine pQ ?_;refine WC.bU (σ:=Nat) (eI:=fun i=>[(0,.int .i64 kd),(5,.int .i64 (Aj 0 (l.take i):Int)),(6,.int .i64 (ye 0 (l.take i):Int)),(7,.int .i64 (gL 0 (l.take i):Int)),(10,.slice a r c),(11,.int .i64 (r:Int)),(12,.int .i64 (i:Int))]) (F:=fun i=>[]) (I:=fun i=>(i≤r)∧True) (μ:=fun i=>r - i) (0) (aW) Sub.t (⟨by omega,trivial⟩)<|?_;rintro i w1 st1 ⟨hi,_⟩;simp only [CA,NA] at st1 hi ⊢;refine(br) (fun g13=>?_) fun g13=>?_
 ·
  simp at g13
  have cX:i<l.length:=by omega
  have yF:i<(l.map fun x:Nat=>(x:Int)).length:=by simpa using cX
  have nc:=zD (c:=0) (C5 i);have tj:=rP (c:=0) (by omega) (C5 i);have xt:=pr (c:=0) (by omega) (C5 i);have hvi:=FO l[i] (List.getElem_mem cX)
  have ee:(l.take i).length≤1000:=by rw [List.length_take];omega
  have e1:=DS (c:=0) cX;have e2:=Ak (c:=0) cX;have e3:=Al (c:=0) cX;refine ew ?_;obtain⟨UB,UC,UD,mn,_,rfl,pc,_⟩:=(SR.ext hl (St.cg st1)).at (aq yF);rw [List.getElem_map] at pc;refine nx ?_;refine WP .r (PV.fC KT mn rfl rfl (by omega))<|WP .r (PV.pT aZ pc rfl rfl)<|pQ ?_;refine WP .r (PV.Pm rfl rfl)<|cV ?_;refine WP .r (PV.orN rfl rfl (by omega) (by omega))<|mT ?_;refine fx (i+1) ⟨st1,⟨by omega,trivial⟩⟩
 simp at g13
 have cx:l.take i=l:=List.take_of_length_le (by omega);rw [cx];have nc:=zD (c:=0) FO;have tj:=rP (c:=0) (by omega) FO;have xt:=pr (c:=0) (by omega) FO
 have hll:l.length≤1000:=by omega
 refine bC ?_;refine(br) (fun CL=>?_) fun CL=>?_
 ·
  simp at CL
  refine(cj) ?_;exact⟨by unfold gj;rw [if_pos CL,Int.tmod_eq_emod_of_nonneg (by omega)];rfl,(St.cg st1)⟩
 simp at CL
 refine(br) (fun pF=>?_) fun pF=>?_
 ·
  simp at pF
  refine dy ?_;refine WP .r (PV.quo rfl rfl (by omega) (by rw [Int.tdiv_eq_ediv_of_nonneg (by omega)];omega) (by rw [Int.tdiv_eq_ediv_of_nonneg (by omega)];omega))<|(cj) ?_;exact⟨by unfold gj;rw [if_neg CL,if_pos pF,Int.tdiv_eq_ediv_of_nonneg (by omega),Int.tmod_eq_emod_of_nonneg (by omega)];rfl,(St.cg st1)⟩
 simp at pF
 refine(br) (fun ir=>?_) fun ir=>?_
 ·
  simp at ir
  refine(cj) ?_;exact⟨by unfold gj;rw [if_neg CL,if_neg pF,if_pos ir],(St.cg st1)⟩
 simp at ir
 refine(br) (fun oH=>?_) fun oH=>?_
 ·
  simp at oH
  refine(cj) ?_;exact⟨by unfold gj;rw [if_neg CL,if_neg pF,if_neg ir,if_pos oH,Int.tmod_eq_emod_of_nonneg (by omega)];rfl,(St.cg st1)⟩
 simp at oH
 refine(cj) ?_;exact⟨by unfold gj;rw [if_neg CL,if_neg pF,if_neg ir,if_neg oH],(St.cg st1)⟩
set_option maxHeartbeats 1600000 in
theorem I0(ht:oj prog A w) (hR:ay ab) (hi:i<ab.length) (hr:iB B w a r c ab) (hl:Strs C w a2 r2 e2 ak) (hsz:∀s∈ak,s.size≤1000):CR prog 183 #[.slice a r c,(aS ab (i:Int)).val,.slice a2 r2 e2] w ((dN ab (aS ab (i:Int)) ak).val):=by
 have qf:=hR.len
 have lZ:i≤99:=by omega
 have hle:=hr.le;have hlen:=hr.len;have BE:=hl.len;have fT:=hl.le
 obtain⟨kd,NV,hk⟩:∃kd:Int,(kd=31∨kd=32)∧aS ab (i:Int)=⟨kd,itoa i⟩:=by
  unfold aS
  rw [if_neg (by omega)]
  cases h:aI ab i
  ·
   exact⟨31,.inl rfl,by simp [h]⟩
  exact⟨32,.inr rfl,by simp [h]⟩
 have hnk:=dK hi lZ;obtain⟨al2,UE,Om⟩:=hR.2 i _ (aq hi);have hcb:=ay.hb hR _ (List.getElem_mem hi);obtain⟨cc,hcc⟩:∃cc:Nat,ab[i].c=cc:=⟨ab[i].c.toNat,by omega⟩;obtain⟨UB,UC,UD,mn,_,⟨q1,q2,q3,rfl,pH⟩,pc,_⟩:=hr.at (aq hi);rw [hcc] at pc;have uq:=pH.len;rw [hk] at hnk ⊢;refine enter func183 rfl ntmps183 rfl<|?_;have aW:=St.s0 w;refine(ef) aW fun b4 w1 jE bM st1=>?_;refine(fU) st1 fun b6 w2 mY eO st2=>?_;refine(bA) av st2.b1<|(gg) (pa (k:=(⟨kd,itoa i⟩:Key)) ⟨by simp only [];omega,by simp only [];omega⟩ rfl lZ) st2 fun w3 s3 aP=>?_;refine ew ?_;refine WC.fF (t:=30) (v:=.bool false) aP ?_<|?_
 ·
  have QX:=aP.dc;refine WC.eU (m:=12) (E:=dx [(10,fun v _=>v=(aS ab (i:Int)).val)]) aP (bS (⟨fun _ _ _ _ _ _ _ h=>h,trivial⟩)) mixed (by kernel_rfl)<|dy ?_;refine DW.gi (t:=19) rfl (fun g19=>?_) (fun g19=>?_)
  ·
   refine(eu) ?_;rintro w4 ⟨pK,aU⟩ _;exact(dq) (by first | rfl | (simp [g19,hk];done) | (simp [g19,hk];omega) | (simp only [g19];done) | (simp only [g19];rfl) | (simp [g19];done) | (simp;done) | (simp at g19 ⊢ <;> omega) | (simp <;> omega) | (simp [g19] <;> omega) | (simp at g19 <;> omega)) (aU)
  refine(lX) aZ St.g1<|dy ?_;refine DW.gi (t:=24) rfl (fun g24=>?_) (fun g24=>?_)
  ·
   refine(eu) ?_;rintro w4 ⟨pK,aU⟩ _;exact(dq) (by first | rfl | (simp [g19,g24,hk];done) | (simp [g19,g24,hk];omega) | (simp only [g19,g24];done) | (simp only [g19,g24];rfl) | (simp [g19,g24];done) | (simp;done) | (simp at g19 g24 ⊢ <;> omega) | (simp <;> omega) | (simp [g19,g24] <;> omega) | (simp at g19 g24 <;> omega)) (aU)
  refine cV ?_;refine DW.c0 (fun wx hC hF=>th (n:=(i:Int)) (hr.ext (St.cg hC.2)))<|(ju) av St.g1<|(eu)<|?_;rintro w4 ⟨pK,aU⟩ ⟨_,_⟩;refine WP .r (PV.R0 im (p:=aS ab (i:Int)) (q:=(⟨kd,itoa i⟩:Key)) rfl rfl)<|?_;exact(dq) (by first | rfl | (simp [g19,g24,hk];done) | (simp [g19,g24,hk];omega) | (simp only [g19,g24];done) | (simp only [g19,g24];rfl) | (simp [g19,g24];done) | (simp;done) | (simp at g19 g24 ⊢ <;> omega) | (simp <;> omega) | (simp [g19,g24] <;> omega) | (simp at g19 g24 <;> omega)) (aU)
 intro w4 aU;refine(br) (fun me=>?_) fun me=>?_
 ·
  exact gw me
 refine jx ?_;refine WP .r (PV.LQ lS (i:=i) mn rfl rfl (by omega) (by omega))<|(bA) yC (bG pc (St.cg aU) (by simp))<|(fU) aU fun b8 w5 zM jm aY=>?_;refine(dA) KU aY fun w6 jv jC bj=>?_;refine bC ?_;refine(bO) nS bj.b0<|(br) (fun jP=>?_) fun jP=>?_
 ·
  simp at jP
  have hn:r2<ab[i].asks.length:=by omega
  have hv:=wZ (ak:=ak) hnk hi (by rw [hnk];exact hk) (show ak.length<ab[i].asks.length by omega);simp only [← BE] at hv
  have hp0:r2=0→ab[i].asks[r2].pick=false:=fun h0=>by
   have:=UE r2 _ (aq hn)
   cases hp:ab[i].asks[r2].pick
   ·
    rfl
   unfold gV at this
   rw [hp] at this
   simp [h0] at this
  refine nx ?_;obtain⟨b_y,o_y,r_y,B8,_,rfl,xV,_⟩:=(pH.ext (St.cg bj)).at (aq hn);refine(bO) nS bj.b0<|nx ?_;refine WP .r (PV.fC C2 B8 rfl rfl (by omega))<|(bA) oT xV<|(fU) bj fun iI w7 lV fN bP=>?_;refine(dA) Br bP fun w8 sr nc bQ=>?_;refine(bO) aZ bQ.b0<|ew ?_;refine WC.fF (t:=65) (v:=.bool (gU ab[i].asks[r2] ak)) bQ ?_<|?_
  ·
   refine(bO) fH bQ.b0<|nx ?_;refine WL.gi (t:=52) rfl (fun Wi=>?_) (fun Wi=>?_)
   ·
    refine dC ?_;refine WL.gi (t:=56) rfl (fun JM=>?_) (fun JM=>?_)
    ·
     simp at JM
     obtain⟨b_z,o_z,r_z,ZZ,_,rfl,Z0,_⟩:=(hl.ext (St.cg bQ)).at (aq (show r2 - 1<ak.length by omega))
     have jf:gU ab[i].asks[r2] ak=decide ((eh ak[r2 - 1]:Int).tmod 2=0):=by
      unfold gU
      simp only [Wi,← BE,Bool.true_and];rw [decide_eq_false (by omega),Bool.false_or,getElem!_pos ak (r2 - 1) (by omega),Int.tmod_eq_emod_of_nonneg (by omega)]
      congr 1
      exact propext ⟨fun h=>by omega,fun h=>by omega⟩
     refine dy ?_;refine WP .r (PV.LQ C3 (i:=r2 - 1) ZZ rfl rfl (by omega) (by omega))<|WP .r (PV.pT iq Z0 rfl rfl)<|(gg) (yQ (s:=ak[r2 - 1]) (ht.ext (St.cg bQ)) (hsz _ (List.getElem_mem _))) bQ fun w9 s9 bV=>?_;exact(dq) (by rw [jf]) (bV)
    exact absurd (hp0 (by simp at JM;omega)) (by simp [Wi])
   have jf:gU ab[i].asks[r2] ak=false:=by unfold gU;rw [Wi];rfl
   refine bC ?_;exact(dq) (by rw [jf]) (bQ)
  intro w9 bV;refine(br) (fun FR=>?_) fun FR=>?_
  ·
   have BH:ui ab[i].asks[r2] ak=ab[i].asks[r2].JX:=by unfold ui;rw [if_pos FR]
   refine(bO) aZ bV.b0<|(bO) fH bV.b0<|(br) (fun g69=>?_) fun g69=>?_
   ·
    rw [BH,if_pos g69] at hv;refine(gg) (yP) bV fun kN pI aL=>?_;refine WP .r (PV.cD (us:=[.bool false,.string ⟨#[]⟩,.int .i64 (dQ _).kind,.string (dQ _).text]) qV rfl rfl rfl)<|(dA) jn aL.p2 fun kO ED tj aQ=>?_;refine(mU) kW aQ.b0<|?_;rw [hv];exact⟨rfl,(St.cg aQ)⟩
   rw [BH,if_neg (by simp [g69])] at hv;refine(gg) (th (hr.ext (St.cg bV))) bV fun kN pI aL=>?_;refine WP .r (PV.cD (us:=[.bool false,.string ⟨#[]⟩,.int .i64 (aS ab _).kind,.string (aS ab _).text]) qV rfl rfl rfl)<|(dA) jn aL.p2 fun kO Sj xt aQ=>?_;refine(mU) kW aQ.b0<|?_;rw [hv];exact⟨rfl,(St.cg aQ)⟩
  have BH:ui ab[i].asks[r2] ak=ab[i].asks[r2].n:=by unfold ui;rw [if_neg (by simp [FR])]
  refine(bO) fH bV.b0<|(br) (fun g69=>?_) fun g69=>?_
  ·
   rw [BH,if_pos g69] at hv;refine(gg) (yP) bV fun kN pI aL=>?_;refine WP .r (PV.cD (us:=[.bool false,.string ⟨#[]⟩,.int .i64 (dQ _).kind,.string (dQ _).text]) qV rfl rfl rfl)<|(dA) jn aL.p2 fun kO Sn Hr aQ=>?_;refine(mU) kW aQ.b0<|?_;rw [hv];exact⟨rfl,(St.cg aQ)⟩
  rw [BH,if_neg (by simp [g69])] at hv;refine(gg) (th (hr.ext (St.cg bV))) bV fun kN pI aL=>?_;refine WP .r (PV.cD (us:=[.bool false,.string ⟨#[]⟩,.int .i64 (aS ab _).kind,.string (aS ab _).text]) qV rfl rfl rfl)<|(dA) jn aL.p2 fun kO Wb Wc aQ=>?_;refine(mU) kW aQ.b0<|?_;rw [hv];exact⟨rfl,(St.cg aQ)⟩
 simp at jP
 have hv:=sT (ak:=ak) hnk hi (by rw [hnk];exact hk) (show ab[i].asks.length≤ak.length by omega);rw [← uq,hcc,Int.toNat_natCast] at hv
 have FO:∀x∈(ak.take q2).map eh,x≤65535:=fun x hx=>by obtain⟨s,_,rfl⟩:=List.mem_map.1 hx;exact oz s
 have hfl:=sS (kind:=ab[i].final) (c:=cc) (l:=(ak.take q2).map eh) (by omega) FO
 have hll:((ak.take q2).map eh).length=q2:=by rw [List.length_map,List.length_take];omega
 refine(bO) aZ bj.b0<|?_;refine WL.go rfl (OX.bB (us:=[.int .i64 (cc:Int)]) KO rfl rfl rfl rfl fun b79 w7 afN al3=>?_);have bP:=St.xf (R:=RR.int) (E:=3) (k:=1) (a:=some ⟨b79,0,none⟩) (n:=1) (c:=1) (xs:=[(cc:Int)]) bj afN.ext (OR.eP al3 (Nat.zero_le _) rfl (by simp [Value.oneCell']) rfl) (fun x hx=>by simp [aO] at hx;subst hx;exact afN.ge);refine(bO) nS bP.b1<|nx ?_;refine WP .r (PV.Af C3 (hl.ext (St.cg bP)) rfl rfl (by omega))<|ew ?_;refine WC.bU (σ:=Nat × (Option Addr) × Nat × Nat) (eI:=fun(j,On,I1,Oo)=>[(6,.pointer (some ⟨b6,0,none⟩)),(8,.pointer (some ⟨b8,0,none⟩)),(12,.slice On I1 Oo),(84,.slice a2 q2 e2),(85,.int .i64 (q2:Int)),(86,.int .i64 (j:Int))]) (F:=fun(j,On,I1,Oo)=>[As.os RR.int 3 1 On I1 Oo ((((cc::((ak.take q2).map eh).take j)).map fun x:Nat=>(x:Int)))]) (I:=fun(j,On,I1,Oo)=>(j≤q2)∧True) (μ:=fun(j,On,I1,Oo)=>q2 - j) (0,(some ⟨b79,0,none⟩),1,1) (bP) Sub.t (⟨by omega,trivial⟩)<|?_;rintro⟨j,On,I1,Oo⟩ w8 bQ ⟨hj,_⟩;simp only [CA,NA] at bQ hj ⊢;have l8:=((As.gs bQ.g0)).len
 have Lj:I1≤1+j:=by have h0:=l8;simp at h0;omega
 refine(br) (fun Rh=>?_) fun Rh=>?_
 ·
  simp at Rh
  have lF:j<ak.length:=by omega
  obtain⟨b_u,o_u,r_u,al4,_,rfl,al5,_⟩:=(hl.ext (St.cg bQ)).at (aq lF);refine jx ?_;refine WP .r (PV.fC C3 al4 rfl rfl (by omega))<|WP .r (PV.pT iq al5 rfl rfl)<|(gg) (yQ (s:=ak[j]) (ht.ext (St.cg bQ)) (hsz _ (List.getElem_mem _))) bQ fun w9 s9 bV=>?_;refine WL.go rfl (OX.bB (us:=[.int .i64 (eh ak[j]:Int)]) KO rfl rfl rfl rfl fun b93 kN aad aae=>?_);have aL:=bV.fb aad aae;refine WL.ap rfl rfl aL.p1 (SR.eP (A:=fun _=>True) (x:=((eh ak[j]:Nat):Int)) (As.gb aL.g0) trivial rfl (by simp [Value.oneCell']) rfl) fun a94 al6 kO ate atf aQ=>?_;refine cV ?_;have aV:=aQ.Xb (show(((((cc::((ak.take q2).map eh).take j)).map fun x:Nat=>(x:Int)))++[((eh ak[j]:Nat):Int)])=(((cc::((ak.take q2).map eh).take (j+1))).map fun x:Nat=>(x:Int)) by rw [List.take_succ_eq_append_getElem (by omega),← List.cons_append,List.map_append,List.getElem_map,List.getElem_take];rfl);refine jx ?_;refine fx (j+1,a94,(I1+1),al6) ⟨aV.p1.drop,⟨by omega,trivial⟩⟩
 simp at Rh
 have hje:((ak.take q2).map eh).take j=(ak.take q2).map eh:=List.take_of_length_le (by omega);have bV:=bQ.Xb (show(((cc::((ak.take q2).map eh).take j)).map fun x:Nat=>(x:Int))=(((cc::(ak.take q2).map eh)).map fun x:Nat=>(x:Int)) by rw [hje]);refine(bO) aZ bV.b1<|nx ?_;refine WL.c1 (u:=.int .i64 ((gj ab[i].final cc ((ak.take q2).map eh)):Int)) (De (kd:=ab[i].final) (l:=cc::(ak.take q2).map eh) (Ow.rd (As.gs bV.g0) (by simp;omega)) (fun x hx=>by rcases List.mem_cons.1 hx with rfl | hx;omega;exact FO x hx) (by omega)) (by rw [HC]) bV fun w9 s9 aL=>?_;refine(gg) (qv (n:=((gj ab[i].final cc ((ak.take q2).map eh)):Int)) (ht.ext (St.cg aL)) (by omega) (by omega)) aL fun kN pI aQ=>?_;refine WP .r (PV.cD (us:=[.bool true,.string (itoa ((gj ab[i].final cc ((ak.take q2).map eh)):Int)),.int .i64 0,.string ⟨#[]⟩]) qV rfl rfl rfl)<|(dA) jn aQ.p2 fun kO ZE ZF aV=>?_;refine(mU) kW aV.b0<|?_;rw [hv];exact⟨rfl,(St.cg aV)⟩
theorem tT(ht:oj prog A w) (hR:ay ab) (hi:i<ab.length) (hr:iB B w a r c ab) (hl:Strs C w a2 r2 e2 ak) (hsz:∀s∈ak,s.size≤1000):CR prog 165 #[.slice a r c,(aS ab (i:Int)).val,.slice a2 r2 e2] w ((dN ab (aS ab (i:Int)) ak).val):=by
 have qf:=hR.len;have NV:=fX hi (by omega);refine enter func165 rfl ntmps165 rfl<|?_;have aW:=St.s0 w;refine(ef) aW fun b4 w1 jE bM st1=>?_;refine(fU) st1 fun b6 w2 mY eO st2=>?_;refine(bA) av st2.b1<|?_;refine WL.c1 (u:=.bool true) (sA (k:=aS ab (i:Int))) (by rw [show(decide ((aS ab (i:Int)).kind=31) || decide ((aS ab (i:Int)).kind=32))=true by(rw [NV];split <;> simp)]) st2 fun w3 s3 aP=>?_;refine dy ?_;refine WC.zP rfl<|(bA) av aP.b1<|(gg) (I0 (ht.ext (St.cg aP)) hR hi (hr.ext (St.cg aP)) (hl.ext (St.cg aP)) hsz) aP fun w4 s4 aU=>?_;refine(dA) jn aU fun w5 jv jC aY=>?_;refine(mU) kW aY.b0<|?_;exact⟨rfl,(St.cg aY)⟩
theorem wm(hk:k.kind=32):CR prog 163 #[k.val] w (.string ⟨#[48]⟩):=by
 refine enter func163 rfl ntmps163 rfl<|?_;have aW:=St.s0 w;refine(ef) aW fun b1 w1 pR dO st1=>?_;refine(bO) aZ st1.b0<|(br) (fun g3=>?_) fun g3=>?_
 ·
  skip
  refine(cj) ?_;exact⟨rfl,(St.cg st1)⟩
 exact absurd g3 (by simp [hk])
theorem tU(hi:i<ab.length) (lZ:i≤99) (hr:iB B w a r c ab):CR prog 90 #[.slice a r c,(aS ab (i:Int)).val] w (.bool true):=by
 have NV:=fX hi lZ
 have Wj:(aS ab (i:Int)).text=itoa i:=by unfold aS;rw [if_neg (by omega)]
 have yn:30≤(aS ab (i:Int)).kind∧(aS ab (i:Int)).kind≤32:=by rw [NV];split <;> omega
 refine enter func90 rfl ntmps90 rfl<|?_;have aW:=St.s0 w;refine(ef) aW fun b3 w1 gO dB st1=>?_;refine dC ?_;have zo:=st1.dc;refine WC.eU (m:=12) (E:=dx [(1,fun v _=>v=.bool true),(4,fun v _=>v=.bool true),(9,fun v _=>v=.int .i64 (i:Int)),(10,fun v _=>v=(aS ab (i:Int)).val)]) st1 (bS (⟨fun _ _ _ _ _ _ _ h=>h,⟨fun _ _ _ _ _ _ _ h=>h,⟨fun _ _ _ _ _ _ _ h=>h,⟨fun _ _ _ _ _ _ _ h=>h,trivial⟩⟩⟩⟩)) mixed (by kernel_rfl)<|(ju) av St.g0<|?_;refine DW.c0 (fun wx hC hF=>j6 (k:=aS ab (i:Int)) yn Wj lZ)<|(ju) av St.g0<|?_;refine DW.c1 (u:=.bool true) (fun wx hC hF=>sA (k:=aS ab (i:Int))) (by rw [show(decide ((aS ab (i:Int)).kind=31) || decide ((aS ab (i:Int)).kind=32))=true by(rw [NV];split <;> simp)])<|(ju) av St.g0<|?_;refine DW.c0 (fun wx hC hF=>pa (k:=aS ab (i:Int)) yn Wj lZ)<|?_;refine DW.c0 (fun wx hC hF=>th (n:=(i:Int)) (hr.ext (St.cg hC.2)))<|(ju) av St.g0<|(eu)<|?_;rintro w2 ⟨fh,st2⟩ ⟨_,⟨_,⟨_,⟨_,_⟩⟩⟩⟩;refine WP .r (PV.JD im (p:=aS ab (i:Int)) (q:=aS ab (i:Int)) rfl rfl)<|(cj) ?_;exact⟨by simp,(St.cg st2)⟩
set_option maxHeartbeats 400000
theorem tV{xs:List Key}(bF:St w M Z w []) (hl:Rd RR.key 2 Z w a n c xs) (h6:xs.length≤1000000):Calls prog 162 #[.slice a n c] w fun e w'=>∃a' n' c',e=.returned (.slice a' n' c')∧St w M Z w' [As.os RR.key 58 2 a' n' c' xs]:=by
 have hlen:=hl.len;refine enter func162 rfl ntmps162 rfl<|?_;have aW:=bF;have st1:=aW.fr hl;refine(br) (fun g4=>?_) fun g4=>?_
 ·
  simp at g4
  subst g4;have hx:=hl.Ar;subst hx;have st2:=st1.fc RR.key 58 2;refine(cj) ?_;exact⟨none,0,0,rfl,st2.p1.drop⟩
 refine dC ?_;refine WL.go rfl (OX.E9 VG ajO rfl fun b5 w1 mM gz=>?_);have st2:=St.xf (R:=RR.key) (E:=58) (k:=2) (a:=some ⟨b5,0,none⟩) (n:=0) (c:=0) (xs:=[]) st1 mM.ext (OR.Xp gz (Nat.zero_le _)) (fun x hx=>by simp [aO] at hx;subst hx;exact mM.ge);refine nx ?_;refine WL.ap rfl rfl st2 ((As.gr st2.g1)) fun a7 c'7 w2 hf7 hn7 aP=>?_;refine(cj) ?_;exact⟨_,_,_,rfl,aP.p1.drop⟩
theorem tW{xs:List Rec}(bF:St w M Z w []) (hl:Rd RR.ff 8 Z w a n c xs) (h6:xs.length≤1000000):Calls prog 97 #[.slice a n c] w fun e w'=>∃a' n' c',e=.returned (.slice a' n' c')∧St w M Z w' [As.os RR.ff 60 8 a' n' c' xs]:=by
 have hlen:=hl.len;refine enter func97 rfl ntmps97 rfl<|?_;have aW:=bF;have st1:=aW.fr hl;refine(br) (fun g4=>?_) fun g4=>?_
 ·
  simp at g4
  subst g4;have hx:=hl.Ar;subst hx;have st2:=st1.fc RR.ff 60 8;refine(cj) ?_;exact⟨none,0,0,rfl,st2.p1.drop⟩
 refine dC ?_;refine WL.go rfl (OX.E9 Qr ajP rfl fun b5 w1 mM gz=>?_);have st2:=St.xf (R:=RR.ff) (E:=60) (k:=8) (a:=some ⟨b5,0,none⟩) (n:=0) (c:=0) (xs:=[]) st1 mM.ext (OR.Xp gz (Nat.zero_le _)) (fun x hx=>by simp [aO] at hx;subst hx;exact mM.ge);refine nx ?_;refine WL.ap rfl rfl st2 ((As.gr st2.g1)) fun a7 c'7 w2 hf7 hn7 aP=>?_;refine(cj) ?_;exact⟨_,_,_,rfl,aP.p1.drop⟩
theorem Df{xs:List dE}(bF:St w M Z w []) (hl:Rd RR.aH 4 Z w a n c xs) (h6:xs.length≤1000000):Calls prog 142 #[.slice a n c] w fun e w'=>∃a' n' c',e=.returned (.slice a' n' c')∧St w M Z w' [As.os RR.aH 83 4 a' n' c' xs]:=by
 have hlen:=hl.len;refine enter func142 rfl ntmps142 rfl<|?_;have aW:=bF;have st1:=aW.fr hl;refine(br) (fun g4=>?_) fun g4=>?_
 ·
  simp at g4
  subst g4;have hx:=hl.Ar;subst hx;have st2:=st1.fc RR.aH 83 4;refine(cj) ?_;exact⟨none,0,0,rfl,st2.p1.drop⟩
 refine dC ?_;refine WL.go rfl (OX.E9 VF ajQ rfl fun b5 w1 mM gz=>?_);have st2:=St.xf (R:=RR.aH) (E:=83) (k:=4) (a:=some ⟨b5,0,none⟩) (n:=0) (c:=0) (xs:=[]) st1 mM.ext (OR.Xp gz (Nat.zero_le _)) (fun x hx=>by simp [aO] at hx;subst hx;exact mM.ge);refine nx ?_;refine WL.ap rfl rfl st2 ((As.gr st2.g1)) fun a7 c'7 w2 hf7 hn7 aP=>?_;refine(cj) ?_;exact⟨_,_,_,rfl,aP.p1.drop⟩
theorem B9(bF:St w M Z w []) (hk:Rd RR.key 2 Z w a n c x.reads) (h4:x.reads.length≤4000):Calls prog 128 #[.agg (x.row a n c).toArray] w fun e w'=>∃a' n' c',e=.returned (.agg (x.row a' n' c').toArray)∧St w M Z w' [As.os RR.key 58 2 a' n' c' x.reads]:=by
 refine enter func128 rfl ntmps128 rfl<|?_;have aW:=bF;have st1:=aW.fr hk;refine(ef) st1 fun b1 w1 pR dO st2=>?_;refine(fU) st2 fun b2 w2 lA eZ aP=>?_;refine(bO) fA aP.b1<|?_;have aU:=aP;refine(cW) VZ (tV aU.e0 (As.gr aU.g2) (by omega)) ?_;rintro _ w3 ⟨f1,f2,f3,rfl,eE⟩;have aY:=St.lr aU eE;refine nx ?_;refine WL.s1 aY.p2 fun w4 _ bj=>?_;refine(bA) dn bj.b0<|(dA) gJ bj.p2 fun w5 jv jC bP=>?_;refine(mU) dn bP.b0<|?_;exact⟨_,_,_,rfl,bP.p2.k1⟩
theorem pd{p:Rec→Bool}(zG:CF prog f) (hl:Rd RR.ff 8 Z w a n c l) (hp:∀w1,bm [] w w1→∀x∈l,∀a n c,Rd RR.key 2 Z w1 a n c x.reads→Calls prog f #[.agg (x.row a n c).toArray,cap] w1 fun e w'=>e=.returned (.bool (p x))∧bm [] w1 w'):Calls prog 126 #[.slice a n c,.func (.func f) #[] #[cap]] w fun e w'=>∃j:Int,e=.returned (.int .i64 j)∧D4 l p j∧bm [] w w':=by
 have hlen:=hl.len;have hle:=hl.le;refine enter func126 rfl ntmps126 rfl<|?_;have aW:=St.s0 w;refine bC ?_;refine cV ?_;refine WC.bU (σ:=Nat) (eI:=fun i=>[(0,.slice a n c),(1,.func (.func f) #[] #[cap]),(7,.int .i64 (n:Int)),(8,.int .i64 (i:Int))]) (F:=fun i=>[]) (I:=fun i=>(i≤n)∧(∀j x,j<i→l[j]?=some x→p x=false)∧True) (μ:=fun i=>n - i) (0) (aW) Sub.t (⟨by omega,fun j x h=>by omega,trivial⟩)<|?_;rintro i w1 st1 ⟨hi,gh,_⟩;simp only [CA,NA] at st1 hi gh ⊢;refine(br) (fun g9=>?_) fun g9=>?_
 ·
  simp at g9
  have cX:i<l.length:=by omega
  refine rT ?_;obtain⟨gF,js,iU,aT,fl,bz,ck,di⟩:=Rd.at hl cX;obtain⟨q1,q2,q3,rfl,qz,pg⟩:=bz;refine dC ?_;refine WP .r (PV.fC jk aT rfl rfl (by omega))<|(bA) dn (bG ck (St.cg st1) (by simp))<|?_;refine WL.go rfl (OX.qM zG rfl rfl rfl ((Calls.cap (hp _ (St.cg st1) l[i] (List.getElem_mem cX) _ _ _ (qz.ext (St.cg st1)))).mono ?_));rintro _ w2 ⟨rfl,s2⟩;refine⟨_,rfl,?_⟩;have st2:=st1.step s2;refine(br) (fun g16=>?_) fun g16=>?_
  ·
   refine(cj) ?_;exact⟨_,rfl,.inl ⟨i,_,aq cX,g16,gh,rfl⟩,(St.cg st2)⟩
  have g16:p l[i]=false:=by simpa using g16
  refine gp ?_;refine fx (i+1) ⟨st2,⟨by omega,dJ cX gh (by simpa using g16),trivial⟩⟩
 simp at g9
 have cx:∀x∈l,p x=false:=fun x hx=>by obtain⟨j,hj,rfl⟩:=List.getElem_of_mem hx;exact gh j _ (by omega) (aq hj)
 refine(cj) ?_;exact⟨_,rfl,.inr ⟨cx,rfl⟩,(St.cg st1)⟩
theorem xW{p:Rec→Bool}(zG:CF prog f) (hl:Rd RR.ff 8 Z w a n c l) (hp:∀w1,bm [] w w1→∀x∈l,∀a n c,Rd RR.key 2 Z w1 a n c x.reads→Calls prog f #[.agg (x.row a n c).toArray,cap] w1 fun e w'=>e=.returned (.bool (p x))∧bm [] w1 w') (gh:∀x∈l,p x=false):CR prog 135 #[.slice a n c,.func (.func f) #[] #[cap]] w (.bool false):=by
 refine enter func135 rfl ntmps135 rfl<|?_;have aW:=St.s0 w;refine(cW) QA (pd (w:=w) zG (hl.ext (St.cg aW)) (fun w1 h1=>hp w1 (bm.trans (St.cg aW) h1))) ?_;rintro _ w1 ⟨j,rfl,hj,s1⟩;have st1:=aW.step s1
 have Vv:j = -1:=by rcases hj with⟨i,x,h1,h2,_⟩ | ⟨_,h2⟩;exact absurd h2 (by simp [gh x (List.mem_of_getElem? h1)]);exact h2
 subst Vv;refine(cj) ?_;exact⟨by simp,(St.cg st1)⟩
theorem Ca :CR prog 137 #[.slice a 0 c,fv] w (.int .i64 (-1)):=by
 refine enter func137 rfl ntmps137 rfl<|?_;have aW:=St.s0 w;refine bC ?_;refine cV ?_;refine WC.bU (σ:=Nat) (eI:=fun i=>[(0,.slice a 0 c),(1,fv),(7,.int .i64 ((0:Nat):Int)),(8,.int .i64 (i:Int))]) (F:=fun i=>[]) (I:=fun i=>True) (μ:=fun i=>0) (0) (aW) Sub.t (trivial)<|?_;rintro i w1 st1 _;simp only [CA,NA] at st1 ⊢;refine(br) (fun g9=>?_) fun g9=>?_
 ·
  exact gw g9
 refine(cj) ?_;exact⟨rfl,(St.cg st1)⟩
theorem wo :CR prog 88 #[.slice a 0 c,fv] w (.bool false):=by
 refine enter func88 rfl ntmps88 rfl<|?_;have aW:=St.s0 w;refine(gg) (Ca) aW fun w1 s1 st1=>?_;refine(cj) ?_;exact⟨by simp,(St.cg st1)⟩
theorem Dg{l:List Key}(hl:Rd RR.key 2 Z w a n c l):Calls prog 148 #[.slice a n c,k.val] w fun e w'=>((k∈l∧∃i:Nat,e=.returned (.int .i64 (i:Int)))∨(k∉l∧e=.returned (.int .i64 (-1))))∧bm [] w w':=by
 have hlen:=hl.len;have hle:=hl.le;refine enter func148 rfl ntmps148 rfl<|?_;have aW:=St.s0 w;refine(ef) aW fun b3 w1 gO dB st1=>?_;refine bC ?_;refine WC.bU (σ:=Nat) (eI:=fun i=>[(0,.slice a n c),(3,.pointer (some ⟨b3,0,none⟩)),(7,.int .i64 (n:Int)),(8,.int .i64 (i:Int))]) (F:=fun i=>[]) (I:=fun i=>(i≤n)∧(∀j x,j<i→l[j]?=some x→x≠k)∧True) (μ:=fun i=>n - i) (0) (st1) Sub.t (⟨by omega,fun j x h=>by omega,trivial⟩)<|?_;rintro i w2 st2 ⟨hi,gh,_⟩;simp only [CA,NA] at st2 hi gh ⊢;refine(br) (fun g9=>?_) fun g9=>?_
 ·
  simp at g9
  have cX:i<l.length:=by omega
  refine rT ?_;obtain⟨gF,js,iU,aT,fl,bz,ck,di⟩:=Rd.at hl cX;have bz:=RR.cL bz;subst bz;have Wf:=st2.dc;refine WC.dS (m:=5) st2 mixed<|(ju) av St.g0<|cV ?_;refine DP .r (fun _ hC=>PV.fC fP aT rfl rfl (by omega))<|DP .r (fun _ hC=>VA av (bG ck (St.cg hC.2) (by simp)) .r)<|(eu)<|?_;rintro w3 ⟨lB,aP⟩ _;refine WP .r (PV.JD im (p:=k) (q:=l[i]) rfl rfl)<|(br) (fun g16=>?_) fun g16=>?_
  ·
   simp at g16
   refine(cj) ?_;exact⟨.inl ⟨g16 ▸ List.getElem_mem cX,i,rfl⟩,(St.cg aP)⟩
  simp at g16
  refine gp ?_;refine fx (i+1) ⟨aP,⟨by omega,dJ cX gh (fun e=>g16 e.symm),trivial⟩⟩
 simp at g9
 have cx:k∉l:=fun hm=>by obtain⟨j,hj,h⟩:=List.getElem_of_mem hm;exact gh j _ (by omega) (aq hj) h
 refine(cj) ?_;exact⟨.inr ⟨cx,rfl⟩,(St.cg st2)⟩
theorem pM{l:List Key}(hl:Rd RR.key 2 Z w a n c l):CR prog 99 #[.slice a n c,k.val] w (.bool (decide (k∈l))):=by
 refine enter func99 rfl ntmps99 rfl<|?_;have aW:=St.s0 w;refine(ef) aW fun b3 w1 gO dB st1=>?_;refine(bA) av st1.b0<|(cW) aew ((Dg (k:=k) (w:=w1) (hl.ext (St.cg st1))).mono (fun e wq h=>show ∃j:Int,e=.returned (.int .i64 j)∧decide (0≤j)=decide (k∈l)∧bm [] w1 wq from by rcases h.1 with⟨h1,i,h2⟩ | ⟨h1,h2⟩;exact⟨i,h2,by simp [h1],h.2⟩;exact⟨-1,h2,by simp [h1],h.2⟩)) ?_;rintro _ w2 ⟨j,rfl,hj,s2⟩;have st2:=st1.step s2;refine(cj) ?_;exact⟨by rw [hj],(St.cg st2)⟩
theorem F9{bk:Nat}(hb:cI w bk 58 k.cells):CR prog 127 #[.agg (x.row a n c).toArray,.pointer (some ⟨bk,0,none⟩)] w (.bool (decide (x.key=k))):=by
 refine enter func127 rfl ntmps127 rfl<|?_;have aW:=St.s0 w;refine(ef) aW fun b2 w1 lA eZ st1=>?_;refine(kF) av st1.b0<|(bA) av (cI.range (hb.ext (St.cg st1)))<|?_;refine WP .r (PV.JD im (p:=x.key) (q:=k) rfl rfl)<|(cj) ?_;exact⟨rfl,(St.cg st1)⟩
theorem qD(bF:St w M Z w []) (hl:Rd RR.ff 8 Z w a n c l):Calls prog 83 #[.slice a n c,k.val] w fun e w'=>∃a' n' c',e=.returned (.tuple #[.agg ((aG l k).row a' n' c').toArray,.bool (aD l k).isSome])∧(aG l k).reads.length≤4000∧St w M Z w' [As.os RR.key 58 2 a' n' c' (aG l k).reads]:=by
 have hlen:=hl.len;have hle:=hl.le;refine enter func83 rfl ntmps83 rfl<|?_;have aW:=bF;have st1:=aW.fr hl;refine(ef) st1 fun b3 w1 gO dB st2=>?_;refine(fU) st2 fun b4 w2 jE bM aP=>?_;refine jx ?_;refine WP .r (PV.func (us:=[]) (vs:=[.pointer (some ⟨b3,0,none⟩)]) rfl rfl)<|(cW) QA (pd (p:=fun x=>decide (x.key=k)) aef (As.gr aP.g2) (fun w1 h1 x _ a n c _=>F9 ((As.gb aP.g1).ext h1))) ?_;rintro _ w3 ⟨j,rfl,hj,s3⟩;have aU:=aP.step s3;refine(br) (fun g11=>?_) fun g11=>?_
 ·
  simp at g11
  have cx:∀x∈l,(decide (x.key=k))=false:=by rcases hj with⟨i,x,_,_,_,h⟩ | ⟨h,_⟩;omega;exact h
  have hf:aD l k=none:=rQ (i:=l.length) (Nat.le_refl _) (fun j x _ hx=>by simpa using cx x (List.mem_of_getElem? hx))
  have EC:aG l k=qN:=by unfold aG;rw [hf];rfl
  have aY:=aU.fc RR.key 58 2;refine(dA) gJ aY.p1 fun w4 jv jC bj=>?_;refine ew ?_;refine EX.jd rfl (RS.cell dn rfl bj.b0 rfl<|RS.tmp rfl<|RS.nil) rfl<|?_;exact⟨none,0,0,by rw [hf,EC];rfl,by rw [EC];simp [qN],by rw [EC];exact bj.p1.k1⟩
 simp at g11
 obtain⟨i,x,hx,hp,gh,rfl⟩:∃i:Nat,∃x,l[i]?=some x∧decide (x.key=k)=true∧(∀j x,j<i→l[j]?=some x→(x.key == k)=false)∧j=i:=by
  rcases hj with⟨i,x,h1,h2,h3,h4⟩ | ⟨_,h⟩
  ·
   exact⟨i,x,h1,h2,fun j x hj hx=>by simpa using h3 j x hj hx,h4⟩
  omega
 obtain⟨cX,rfl⟩:=List.getElem?_eq_some_iff.1 hx;have hf:aD l k=some l[i]:=kx cX gh (by simpa using hp)
 have EC:aG l k=l[i]:=by unfold aG;rw [hf];rfl
 refine dy ?_;obtain⟨gF,js,iU,aT,fl,bz,ck,di⟩:=Rd.at (As.gr aU.g2) cX;obtain⟨q1,q2,q3,rfl,qz,pg⟩:=bz;have aY:=aU.fg di ck;have bj:=aY.fr qz;refine dy ?_;refine WP .r (PV.fC jk aT rfl rfl (by omega))<|(bA) dn (As.om bj.g1)<|?_;have bP:=bj;refine(cW) VW (B9 bP.e0 (As.gr bP.g0) pg) ?_;rintro _ w4 ⟨e1,e2,e3,rfl,fE⟩;have bQ:=St.lr bP fE;refine(dA) gJ bQ.p3 fun w5 sr nc bV=>?_;refine dC ?_;refine EX.jd rfl (RS.cell dn rfl bV.b0 rfl<|RS.tmp rfl<|RS.nil) rfl<|?_;exact⟨e1,e2,e3,by rw [hf,EC];rfl,by rw [EC];exact pg,by rw [EC];exact bV.p1.k1⟩
theorem Ga(bF:St w M Z w []) (hl:Rd RR.ff 8 Z w a n c l) (h6:l.length≤1000000):Calls prog 143 #[.slice a n c] w fun e w'=>∃a' n' c' Z',e=.returned (.slice a' n' c')∧cQ w.heap.size Z Z'∧St w M Z' w' [As.os RR.ff 60 8 a' n' c' l]:=by
 have hlen:=hl.len;have hle:=hl.le;refine enter func143 rfl ntmps143 rfl<|?_;have aW:=bF;have st1:=aW.fr hl;refine kE ?_;have st2:=st1;refine(cW) ad6 (tW st2.e0 (As.gr st2.g0) h6) ?_;rintro _ w1 ⟨f1,f2,f3,rfl,Cb⟩;have aP:=St.lr st2 Cb;have NK:=((As.gs aP.g0)).len;refine bC ?_;refine WC.jY (σ:=Nat × (Nat→Prop)) (eI:=fun(i,Z1)=>[(3,.slice f1 f2 f3),(8,.slice f1 f2 f3),(9,.int .i64 (f2:Int)),(10,.int .i64 (i:Int))]) (F:=fun(i,Z1)=>[As.os RR.ff 60 8 f1 f2 f3 l]) (I:=fun(i,Z1)=>(i≤f2)∧(cQ w.heap.size Z Z1)∧True) (μ:=fun(i,Z1)=>f2 - i) (Zf:=fun(i,Z1)=>Z1) (0,Z) (aP) Sub.t (⟨by omega,cQ.refl _ _,trivial⟩)<|?_;rintro⟨i,Z1⟩ w2 aU ⟨hi,hZ,_⟩;simp only [CA,NA] at aU hi hZ ⊢;refine(br) (fun g11=>?_) fun g11=>?_
 ·
  simp at g11
  have cX:i<l.length:=by omega
  refine ew ?_;obtain⟨gF,iU,aT,fl,bz,ck⟩:=Ow.at (As.gs aU.g0) (by omega) (aq cX);obtain⟨q1,q2,q3,rfl,qz,pg⟩:=bz;have aY:=aU.fr (qz);refine cV ?_;refine WP .r (PV.fC jk aT rfl rfl (by omega))<|(bA) dn ck<|(fU) aY fun b5 w3 mM gz bj=>?_;refine(dA) gJ bj fun w4 jv jC bP=>?_;refine(bA) dn bP.b0<|?_;have bQ:=bP;refine(cW) VW (B9 bQ.e0 (As.gr bQ.g1) pg) ?_;rintro _ w5 ⟨e1,e2,e3,rfl,ic⟩;have bV:=St.lr bQ ic;have rK:=St.cH ic;have hsz:=bQ.size;have aL:=bV.bX (by omega);have kZ:=hZ.trans (cQ.fo (F:=fun x=>x∈aO e1) rK) hsz;refine WP .r (PV.fC jk aT rfl rfl (by omega))<|?_;refine WL.go rfl (OX.Xe (i:=i) gJ (As.gs aL.g3) aT cX rfl rfl rfl (Rec.one _ _ _ _) l[i] ⟨e1,e2,e3,rfl,(As.gr aL.g0),pg⟩ fun w6 s8 h8=>?_);have aQ:=aL.p3.iY s8 h8 (fun x h=>.inl h);have aV:=aQ.Xb (List.set_getElem_self cX);refine gp ?_;refine fx (i+1,_) ⟨aV.p4.p1.k2,⟨by omega,kZ,trivial⟩⟩
 refine(cj) ?_;exact⟨_,_,_,_,rfl,hZ,aU.p1.drop⟩
theorem sB{x:dT}(bF:St w M Z w []) (hi:Rd RR.aH 4 Z w a1 n1 e1 x.ah) (hr:Rd RR.ff 8 Z w a2 n2 e2 x.ao) (h6:x.ao.length≤1000000) (h7:x.ah.length≤1000000):Calls prog 91 #[.agg (x.row a1 n1 e1 a2 n2 e2).toArray] w fun e w'=>∃QM QN QO QP QQ QR Z',e=.returned (.agg (x.row QM QN QO QP QQ QR).toArray)∧cQ w.heap.size Z Z'∧St w M Z' w' [As.os RR.aH 83 4 QM QN QO x.ah,As.os RR.ff 60 8 QP QQ QR x.ao]:=by
 refine enter func91 rfl ntmps91 rfl<|?_;have aW:=bF;have st1:=aW.fr hi;have st2:=st1.fr hr;refine(ef) st2 fun b1 w1 pR dO aP=>?_;refine(fU) aP fun b2 w2 lA eZ aU=>?_;refine dy ?_;refine WC.df (m:=7) [] [2,5] [0,1,2,3,4,5,6] [] aU (ax.k4 M0 M1 M2 M3<|ax.nil) mixed (by kernel_rfl) (by kernel_rfl) rfl<|(xh) pE SV.g1<|(jg) (fun w3 Lt u4 aY oa=>?_);simp only [CA,NA] at aY;have bj:=aY;refine OX.call aeq rfl rfl ((Df bj.e0 (As.gr bj.g3) h7).mono ?_);rintro _ w4 ⟨f1,f2,f3,rfl,fE⟩;have bP:=St.lr bj fE;refine⟨_,rfl,fE.cT.size,_,rfl,_,_,_,bP,aA.k4<|aA.cons<|aA.nil,ax.k4 M1 M2 M3 M4<|ax.nil,?_⟩;refine(xh) eN SV.g1<|(jg) (fun w5 UF Gb bQ sC=>?_);simp only [CA,NA] at bQ;have bV:=bQ;refine OX.call aer rfl rfl ((Ga bV.e0 (As.gr bV.g3) h6).mono ?_);rintro _ w6 ⟨f4,f5,f6,Z1,rfl,gQ,mE⟩;have aL:=St.lv bV mE gQ;have oZ:=gQ.le bV.size;refine⟨_,rfl,mE.cT.size,_,rfl,_,_,_,aL,aA.k4<|aA.k2<|aA.nil,ax.k4 M2 M3 M4 M5<|ax.nil,?_⟩;refine(nk) ?_;intro w7 fh aQ;simp only [CM,NM,CA,NA,kL.it] at aQ;refine WL.s1 aQ.p3 fun w8 _ aV=>?_;refine nx ?_;refine WL.s1 aV fun w9 _ bD=>?_;refine WL.nil (EX.np ?_);refine(bA) aM bD.b0<|(dA) fL bD.p3 fun kN jv jC bp=>?_;refine(mU) aM bp.b0<|?_;exact⟨_,_,_,_,_,_,_,rfl,oZ,bp.p2.p3.k2⟩
theorem xX{r:Rec}{x:dT}{bb:Nat}(hb:cI w bb 31 (x.row a1 n1 e1 a2 n2 e2)):CR prog 136 #[.agg (r.row a n c).toArray,.pointer (some ⟨bb,0,none⟩)] w (.bool (decide (x.ae<r.az))):=by
 refine enter func136 rfl ntmps136 rfl<|?_;have aW:=St.s0 w;refine(ef) aW fun b2 w1 lA eZ st1=>?_;refine(bO) aZ st1.b0<|(bO) aZ (cI.range (hb.ext (St.cg st1)))<|(cj) ?_;exact⟨rfl,(St.cg st1)⟩
end Go.Rc

