/- Walks over the program, part WP. Conditions: as each theorem says. -/
import Derived.Test.YtjpagoacbadijaaGreatDoorVFacts
import Derived.Test.YtjpagoacbadijaaGreatDoorVWLibE
import Derived.Test.YtjpagoacbadijaaGreatDoorVBe
import Derived.Test.YtjpagoacbadijaaGreatDoorVBd
import Derived.Test.YtjpagoacbadijaaGreatDoorVWF
import Derived.Test.YtjpagoacbadijaaGreatDoorVBf
set_option linter.all false
namespace Go.Rc
open Go Go.Proofs Go.Proofs.Tryz
variable {n r c i r2 e2 n1 e1 n2:Nat}{w:World}{ab:List aG}{A B C M Z:Nat→Prop}{a a2 a1:Option Addr}{k:Key}{s:ByteArray}{l:List Rec}{ah:List ByteArray}{x:dP}{f:FuncId}{cap:Value}
set_option maxHeartbeats 400000
theorem xB{n:Int} :CR prog 381 #[.int .i64 n] w ((dx n).val):=by
 refine enter func381 rfl ntmps381 rfl<|?_;have bd:=St.s0 w;refine(gy) bd fun b2 w1 nv fl st1=>?_;refine dV ?_;refine WC.fE (t:=8) (v:=.bool (decide (n<0) || decide (99<n))) st1 ?_<|?_
 ·
  refine(ed) (fun g5=>?_) (fun g5=>?_)
  ·
   exact(dp) (by simp only [g5];first | rfl | simp) (st1)
  exact(dp) (by simp only [g5];first | rfl | simp) (st1)
 intro w2 st2;refine(aZ) (fun g8=>?_) fun g8=>?_
 ·
  have hk:dx n=dn:=by unfold dx;rw [if_pos (by simp at g8;omega)]
  refine(dB) jz st2 fun w3 jV j0 aW=>?_;refine(my) aq aW.b0<|?_;rw [hk];exact⟨rfl,(St.cg aW)⟩
 simp at g8
 have hk:dx n=⟨30,itoa n⟩:=by unfold dx;rw [if_neg (by omega)]
 refine(iu) (lq (n:=n) (by omega) (by omega) w2) st2 fun w3 s3 aW=>?_;refine WP .r (PV.bU (us:=[.int .i64 30,.string (itoa n)]) D4 rfl rfl rfl)<|(dB) jz aW fun w4 sC nj ba=>?_;refine(my) aq ba.b0<|?_;rw [hk];exact⟨rfl,(St.cg ba)⟩
theorem Ey{n:Int}(hr:ik A w a r c ab):CR prog 199 #[.slice a r c,.int .i64 n] w (.tuple #[.int .i64 (block ab n).1,.int .i64 (block ab n).2]):=by
 have hle:=hr.le;have hlen:=hr.len;refine enter func199 rfl ntmps199 rfl<|?_;have bd:=St.s0 w;refine kP ?_;refine WC.fE (t:=15) (v:=.bool (decide (n<0) || decide ((r:Int)≤n))) bd ?_<|?_
 ·
  refine(ed) (fun g10=>?_) (fun g10=>?_)
  ·
   exact(dp) (by simp only [g10];first | rfl | simp) (bd)
  exact(dp) (by simp only [g10];first | rfl | simp) (bd)
 intro w1 st1;refine(aZ) (fun g15=>?_) fun g15=>?_
 ·
  have hb:=Cl ab n (by simp at g15;omega);refine(Fy) ?_;exact⟨by rw [hb],(St.cg st1)⟩
 obtain⟨nn,rfl⟩:∃i:Nat,n=i:=⟨n.toNat,by simp at g15;omega⟩
 have l4:nn<ab.length:=by simp at g15;omega
 have Nk:block ab nn=if aD ab nn then ((bY ab nn:Int),(eW ab (nn+1):Int)) else ((nn:Int),(nn:Int)+1):=by
  unfold block;rw [if_neg (by omega)];rfl
 refine bf ?_;refine nx ?_;obtain⟨Tk,Tl,Tm,lT,_,⟨q1,q2,q3,rfl,_⟩,oh,_⟩:=(hr.ext (St.cg st1)).at (ao l4);refine dA ?_;refine WP .r (PV.fO ll lT rfl rfl (by omega))<|nx ?_;refine WP .r (PV.ld1 (j:=0) fq oh rfl rfl)<|(aZ) (fun g24=>?_) fun g24=>?_
 ·
  simp at g24
  have hb:block ab nn=((nn:Int),(nn:Int)+1):=by rw [Nk,if_neg (by rw [cM l4,g24];simp)]
  refine(Fy) ?_;exact⟨by rw [hb],(St.cg st1)⟩
 simp at g24
 rw [if_pos (by rw [cM l4];exact g24)] at Nk;refine dV ?_;refine WC.cq (σ:=Nat) (eP:=fun k=>[(0,.slice a r c),(6,.int .i64 (k:Int)),(7,.int .i64 ((nn:Int)+1))]) (F:=fun k=>[]) (I:=fun k=>(k≤nn)∧(bY ab k=bY ab nn)∧True) (μ:=fun k=>k) (nn) (st1) Sub.t (⟨Nat.le_refl _,rfl,trivial⟩)<|?_;rintro k w2 st2 ⟨hk,H4,_⟩;simp only [CA,NA] at st2 hk H4 ⊢;refine cS ?_;refine WC.fE (t:=36) (v:=.bool (decide ((0:Int)<k) && aD ab (k - 1))) st2 ?_<|?_
 ·
  refine(ed) (fun qg=>?_) (fun qg=>?_)
  ·
   simp at qg
   obtain⟨b_y,o_y,r_y,AH,_,⟨q4,q5,q6,rfl,_⟩,AJ,_⟩:=(hr.ext (St.cg st2)).at (ao (show k - 1<ab.length by omega));have sk:ab[k-1].ring=aD ab (k-1):=(cM (by omega)).symm;refine dA ?_;refine WP .r (PV.Kk ll (i:=k - 1) AH rfl rfl (by omega) (by omega))<|nx ?_;refine WP .r (PV.ld1 (j:=0) fq AJ rfl rfl)<|?_;exact(dp) (by simp [*]) (st2)
  simp at qg
  have QN:¬(0<k):=by omega
  exact(dp) (by simp [*]) (st2)
 intro w3 aW;refine(aZ) (fun gQ=>?_) fun gQ=>?_
 ·
  simp at gQ
  obtain⟨g1,g2⟩:=gQ;obtain⟨j,rfl⟩:∃j,k=j+1:=⟨k - 1,by omega⟩;refine qd ?_;refine fJ (j) ⟨aW,⟨by omega,by rw [← H4,ue (by simpa using g2)],trivial⟩⟩
 simp at gQ
 have XG:(block ab nn).1=k:=by
  rw [Nk]
  show(bY ab nn:Int)=k
  rw [← H4,wK]
  by_cases h0:k=0
  ·
   exact .inl h0
  exact .inr (gQ (by omega))
 refine gM ?_;refine WC.cq (σ:=Nat) (eP:=fun m=>[(0,.slice a r c),(6,.int .i64 (k:Int)),(7,.int .i64 (m:Int))]) (F:=fun m=>[]) (I:=fun m=>(nn+1≤m)∧(m≤r)∧(eW ab m=eW ab (nn+1))∧True) (μ:=fun m=>r - m) (nn+1) (aW) Sub.t (⟨Nat.le_refl _,by omega,rfl,trivial⟩)<|?_;rintro m w4 ba ⟨Bk,kI,VV,_⟩;simp only [CA,NA] at ba Bk kI VV ⊢;refine cS ?_;refine WC.fE (t:=49) (v:=.bool (decide ((m:Int)<r) && aD ab m)) ba ?_<|?_
 ·
  refine(ed) (fun nI=>?_) (fun nI=>?_)
  ·
   simp at nI
   obtain⟨b_z,o_z,r_z,YE,_,⟨q4,q5,q6,rfl,_⟩,YF,_⟩:=(hr.ext (St.cg ba)).at (ao (show m<ab.length by omega));have nc:ab[m].ring=aD ab m:=(cM (by omega)).symm
   have MF:decide ((m:Int)<r)=true:=by simp;omega
   refine cS ?_;refine WP .r (PV.fO ll YE rfl rfl (by omega))<|nx ?_;refine WP .r (PV.ld1 (j:=0) fq YF rfl rfl)<|?_;exact(dp) (by first | (rw [nc,MF];rfl) | simp [*]) (ba)
  simp at nI
  have QN:¬(m<ab.length):=by omega
  exact(dp) (by first | (rw [nc,MF];rfl) | simp [*]) (ba)
 intro w5 bs;refine(aZ) (fun vm=>?_) fun vm=>?_
 ·
  simp at vm
  obtain⟨g3,g4⟩:=vm;refine qd ?_;refine fJ (m+1) ⟨bs,⟨by omega,by omega,by rw [← VV,← wJ g4],trivial⟩⟩
 simp at vm
 have XH:(block ab nn).2=m:=by
  rw [Nk]
  show(eW ab (nn+1):Int)=m
  rw [← VV,yK]
  rcases Nat.lt_or_ge m r with h0 | h0
  ·
   exact vm (by omega)
  exact oX (by omega)
 refine bf ?_;refine(Fy) ?_;exact⟨by rw [XG,XH],(St.cg bs)⟩
theorem tQ{cell:Bool}{n:Int}(hr:ik A w a r c ab) (hi:i<ab.length):CR prog 147 #[.slice a r c,.int .i64 (i:Int),.bool cell,.int .i64 n] w (.bool (iC ab i cell n)):=by
 have hle:=hr.le;have hlen:=hr.len;have lC:=cM hi;have hbw:=ID hi
 have ht:gO ab i=if ab[i].ring=true then (block ab (i:Int)).2 else (block ab (i:Int)).1:=by unfold gO;rw [lC]
 refine enter func147 rfl ntmps147 rfl<|?_;have bd:=St.s0 w;refine(aZ) (fun g11=>?_) fun g11=>?_
 ·
  refine nx ?_;refine WC.nP (t:=8) (v:=.bool (decide (0≤n) && decide (n≤15))) bd ?_<|?_
  ·
   refine(ed) (fun g14=>?_) (fun g14=>?_)
   ·
    exact(iH) (by simp only [g14];first | rfl | simp) (bd)
   exact(iH) (by simp only [g14];first | rfl | simp) (bd)
  intro w1 st1;refine(cy) ?_;exact⟨by unfold iC;rw [if_pos g11],(St.cg st1)⟩
 refine(iu) (Ey (n:=(i:Int)) (hr.ext (St.cg bd))) bd fun w1 s1 st1=>?_;refine kP ?_;obtain⟨Tk,Tl,Tm,lT,_,⟨q1,q2,q3,rfl,_⟩,oh,_⟩:=(hr.ext (St.cg st1)).at (ao hi);refine WC.nP (t:=8) (v:=.bool (decide (0≤n) && decide (n<gO ab i))) st1 ?_<|?_
 ·
  refine(ed) (fun kq=>?_) (fun kq=>?_)
  ·
   refine(ed) (fun lO=>?_) (fun lO=>?_)
   ·
    refine bf ?_;exact(iH) (by rw [ht];first | (simp [kq,lO];done) | (simp at kq lO;simp [kq,lO];done) | (simp at kq lO ⊢;split <;> omega) | (simp at kq lO;simp [kq,lO];omega)) (st1)
   refine cS ?_;refine WP .r (PV.fO ll lT rfl rfl (by omega))<|nx ?_;refine WP .r (PV.ld1 (j:=0) fq oh rfl rfl)<|(ed) (fun gQ=>?_) (fun gQ=>?_)
   ·
    exact(iH) (by rw [ht];first | (simp [kq,lO,gQ];done) | (simp at kq lO gQ;simp [kq,lO,gQ];done) | (simp at kq lO gQ ⊢;split <;> omega) | (simp at kq lO gQ;simp [kq,lO,gQ];omega)) (st1)
   exact(iH) (by rw [ht];first | (simp [kq,lO,gQ];done) | (simp at kq lO gQ;simp [kq,lO,gQ];done) | (simp at kq lO gQ ⊢;split <;> omega) | (simp at kq lO gQ;simp [kq,lO,gQ];omega)) (st1)
  refine bf ?_;exact(iH) (by rw [ht];first | (simp [kq];done) | (simp at kq;simp [kq];done) | (simp at kq ⊢;split <;> omega) | (simp at kq;simp [kq];omega)) (st1)
 intro w2 st2;refine(cy) ?_;exact⟨by unfold iC;rw [g11];rfl,(St.cg st2)⟩
theorem uT{k:Nat}{x:Ask}(hr:ik A w a r c ab) (hi:i<ab.length):CR prog 117 #[.slice a r c,.int .i64 (i:Int),x.val,.bool (decide ((k:Int)=0))] w (.bool (gD ab i ab[i].ring k x)):=by
 have hle:=hr.le;have hlen:=hr.len;obtain⟨Tk,Tl,Tm,lT,_,⟨q1,q2,q3,rfl,_⟩,oh,_⟩:=hr.at (ao hi);have Nl:(gD ab i ab[i].ring k x)=(iC ab i x.cell x.n && (if x.pick then !ab[i].ring && decide (k≠0) && iC ab i x.cell x.Ip else decide (x.Ip=0))):=rfl;rw [Nl]
 clear Nl
 have Nv:decide ((k:Int)=0)=decide (k=0):=by simp
 refine enter func117 rfl ntmps117 rfl<|?_;have bd:=St.s0 w;refine(fm) bd fun b6 w1 mC eE st1=>?_;refine eC ?_;refine WC.fE (t:=30) (v:=.bool ((x.pick && (ab[i].ring || decide (k=0))) || !iC ab i x.cell x.n)) st1 ?_<|?_
 ·
  refine(bM) fq st1.b0<|(ed) (fun g11=>?_) (fun g11=>?_)
  ·
   refine cS ?_;refine WP .r (PV.fO ll lT rfl rfl (by omega))<|nx ?_;refine WP .r (PV.ld1 (j:=0) fq (bH oh (St.cg st1) (by simp)) rfl rfl)<|(ed) (fun g17=>?_) (fun g17=>?_)
   ·
    refine bf ?_;exact(dp) (by first | (simp only [g11,g17,← Nv];rfl) | (simp [g11,g17,Nv];done) | (simp at g11 g17;simp [g11,g17,Nv];done) | (simp at g11 g17;simp_all;done)) (st1)
   refine(ed) (fun g21=>?_) (fun g21=>?_)
   ·
    exact(dp) (by first | (simp only [g11,g17,g21,← Nv];rfl) | (simp [g11,g17,g21,Nv];done) | (simp at g11 g17 g21;simp [g11,g17,g21,Nv];done) | (simp at g11 g17 g21;simp_all;done)) (st1)
   refine(bM) fq st1.b0<|(bM) aU st1.b0<|(iu) (tQ (cell:=x.cell) (n:=x.n) (hr.ext (St.cg st1)) hi) st1 fun w2 s2 st2=>?_;exact(dp) (by first | (simp only [g11,g17,g21,← Nv];rfl) | (simp [g11,g17,g21,Nv];done) | (simp at g11 g17 g21;simp [g11,g17,g21,Nv];done) | (simp at g11 g17 g21;simp_all;done)) (st2)
  refine bf ?_;refine(bM) fq st1.b0<|(bM) aU st1.b0<|(iu) (tQ (cell:=x.cell) (n:=x.n) (hr.ext (St.cg st1)) hi) st1 fun w2 s2 st2=>?_;exact(dp) (by first | (simp only [g11,← Nv];rfl) | (simp [g11,Nv];done) | (simp at g11;simp [g11,Nv];done) | (simp at g11;simp_all;done)) (st2)
 intro w2 st2;refine(aZ) (fun lO=>?_) fun lO=>?_
 ·
  refine(cy) ?_;exact⟨by cases hm:iC ab i x.cell x.n <;> cases hp:x.pick <;> cases hg:ab[i].ring <;> by_cases h0:k=0 <;> simp_all,(St.cg st2)⟩
 refine(bM) fq st2.b0<|(aZ) (fun jA=>?_) fun jA=>?_
 ·
  simp at jA
  refine(bM) aU st2.b0<|(cy) ?_;exact⟨by cases hm:iC ab i x.cell x.n <;> simp_all,(St.cg st2)⟩
 simp at jA
 refine(bM) fq st2.b0<|(bM) aU st2.b0<|(iu) (tQ (cell:=x.cell) (n:=x.Ip) (hr.ext (St.cg st2)) hi) st2 fun w3 s3 aW=>?_;refine(cy) ?_;exact⟨by cases hm:iC ab i x.cell x.n <;> cases hg:ab[i].ring <;> by_cases h0:k=0 <;> simp_all,(St.cg aW)⟩
theorem AK(hr:ik A w a r c ab) (hR:aw ab):CR prog 82 #[.slice a r c] w (.bool true):=by
 have hle:=hr.le;have hlen:=hr.len;have rS:=hR.1;refine enter func82 rfl ntmps82 rfl<|?_;have bd:=St.s0 w;refine bf ?_;refine(aZ) (fun g12=>?_) fun g12=>?_
 ·
  exact ic g12
 ·
  refine uj ?_;refine WC.cq (σ:=Nat) (eP:=fun i=>[(0,.slice a r c),(13,.slice a r c),(14,.int .i64 (r:Int)),(15,.int .i64 (i:Int))]) (F:=fun i=>[]) (I:=fun i=>(i≤r)∧True) (μ:=fun i=>r - i) (0) (bd) Sub.t (⟨by omega,trivial⟩)<|?_;rintro i w1 st1 ⟨hi,_⟩;simp only [CA,NA] at st1 hi ⊢;refine(aZ) (fun g16=>?_) fun g16=>?_
  ·
   simp at g16
   have cT:i<ab.length:=by omega
   obtain⟨akA,Tn,MS⟩:=hR.2 i _ (ao cT)
   unfold jy at MS
   obtain⟨Tk,Tl,Tm,lT,_,⟨q1,q2,q3,rfl,oK⟩,oh,_⟩:=hr.at (ao cT);have td:=oK.len;refine gM ?_;refine WP .r (PV.fO ll lT rfl rfl (by omega))<|(bA) xd (bH oh (St.cg st1) (by simp))<|(gy) st1 fun b4 w2 jG bE st2=>?_;refine(dB) Jp st2 fun w3 jV j0 aW=>?_;refine bf ?_;refine(bM) fq aW.b0<|(aZ) (fun g21=>?_) fun g21=>?_
   ·
    rw [if_pos g21] at MS
    simp at MS
    refine kP ?_;refine WC.fE (t:=48) (v:=.bool false) aW ?_<|?_
    ·
     refine(bM) mT aW.b0<|(ed) (fun kq=>?_) (fun kq=>?_)
     ·
      refine bf ?_;exact(dp) (tG kq) (aW)
     refine(bM) aU aW.b0<|(ed) (fun rH=>?_) (fun rH=>?_)
     ·
      refine bf ?_;exact(dp) (tG (aj kq rH)) (aW)
     refine(bM) aU aW.b0<|(ed) (fun wt=>?_) (fun wt=>?_)
     ·
      exact(dp) (tG (aj kq<|aj rH wt)) (aW)
     refine(bM) aU aW.b0<|(ed) (fun nI=>?_) (fun nI=>?_)
     ·
      exact(dp) (tG (aj kq<|aj rH<|aj wt nI)) (aW)
     refine(bM) aU aW.b0<|?_;exact(dp) (tG (aj kq<|aj rH<|aj wt nI)) (aW)
    intro w4 ba;refine(aZ) (fun oa=>?_) fun oa=>?_
    ·
     exact ic oa
    refine(bM) mT ba.b0<|eC ?_;refine WC.cq (σ:=Nat) (eP:=fun k=>[(0,.slice a r c),(3,.int .i64 (i:Int)),(13,.slice a r c),(14,.int .i64 (r:Int)),(15,.int .i64 (i:Int)),(50,.slice q1 q2 q3),(51,.int .i64 (q2:Int)),(52,.int .i64 (k:Int))]) (F:=fun k=>[]) (I:=fun k=>(k≤q2)∧True) (μ:=fun k=>q2 - k) (0) (ba) Sub.t (⟨by omega,trivial⟩)<|?_;rintro k w5 bs ⟨hk,_⟩;simp only [CA,NA] at bs hk ⊢;refine(aZ) (fun wg=>?_) fun wg=>?_
    ·
     simp at wg
     have nc:k<ab[i].asks.length:=by omega
     obtain⟨b_y,o_y,r_y,AH,_,rfl,AJ,_⟩:=(oK.ext (St.cg bs)).at (ao nc);refine gM ?_;refine WP .r (PV.fO Bx AH rfl rfl (by omega))<|(bA) su AJ<|(gy) bs fun b9 w6 PI Al bj=>?_;refine(dB) Jq bj fun w7 sC nj bV=>?_;refine(bA) su bV.b0<|cS ?_;refine WL.c1 (u:=.bool true) (uT (k:=k) (x:=ab[i].asks[k]) (hr.ext (St.cg bV)) cT) (by rw [show gD ab i ab[i].ring k ab[i].asks[k]=true from Tn k _ (ao nc)]) bV fun w8 s8 bT=>?_;refine dA ?_;refine WC.ke rfl<|gM ?_;refine fJ (k+1) ⟨bT.drop,⟨by omega,trivial⟩⟩
    simp at wg
    refine oC ?_;refine fJ (i+1) ⟨bs.drop,⟨by omega,trivial⟩⟩
   rw [if_neg (by simp [g21])] at MS
   simp at MS
   refine dV ?_;refine WC.fE (t:=48) (v:=.bool false) aW ?_<|?_
   ·
    refine(bM) mT aW.b0<|(ed) (fun kq=>?_) (fun kq=>?_)
    ·
     refine bf ?_;exact(dp) (tG kq) (aW)
    refine(bM) aU aW.b0<|(ed) (fun rH=>?_) (fun rH=>?_)
    ·
     refine bf ?_;exact(dp) (tG (aj kq rH)) (aW)
    refine(bM) aU aW.b0<|(ed) (fun wt=>?_) (fun wt=>?_)
    ·
     exact(dp) (tG (aj kq<|aj rH wt)) (aW)
    refine(bM) aU aW.b0<|(ed) (fun nI=>?_) (fun nI=>?_)
    ·
     exact(dp) (tG (aj kq<|aj rH<|aj wt nI)) (aW)
    refine(bM) aU aW.b0<|?_;exact(dp) (tG (aj kq<|aj rH<|aj wt nI)) (aW)
   intro w4 ba;refine(aZ) (fun oa=>?_) fun oa=>?_
   ·
    exact ic oa
   refine(bM) mT ba.b0<|eC ?_;refine WC.cq (σ:=Nat) (eP:=fun k=>[(0,.slice a r c),(3,.int .i64 (i:Int)),(13,.slice a r c),(14,.int .i64 (r:Int)),(15,.int .i64 (i:Int)),(50,.slice q1 q2 q3),(51,.int .i64 (q2:Int)),(52,.int .i64 (k:Int))]) (F:=fun k=>[]) (I:=fun k=>(k≤q2)∧True) (μ:=fun k=>q2 - k) (0) (ba) Sub.t (⟨by omega,trivial⟩)<|?_;rintro k w5 bs ⟨hk,_⟩;simp only [CA,NA] at bs hk ⊢;refine(aZ) (fun wg=>?_) fun wg=>?_
   ·
    simp at wg
    have nc:k<ab[i].asks.length:=by omega
    obtain⟨b_y,o_y,r_y,AH,_,rfl,AJ,_⟩:=(oK.ext (St.cg bs)).at (ao nc);refine gM ?_;refine WP .r (PV.fO Bx AH rfl rfl (by omega))<|(bA) su AJ<|(gy) bs fun b9 w6 PI Al bj=>?_;refine(dB) Jq bj fun w7 BC rq bV=>?_;refine(bA) su bV.b0<|cS ?_;refine WL.c1 (u:=.bool true) (uT (k:=k) (x:=ab[i].asks[k]) (hr.ext (St.cg bV)) cT) (by rw [show gD ab i ab[i].ring k ab[i].asks[k]=true from Tn k _ (ao nc)]) bV fun w8 s8 bT=>?_;refine dA ?_;refine WC.ke rfl<|gM ?_;refine fJ (k+1) ⟨bT.drop,⟨by omega,trivial⟩⟩
   simp at wg
   refine oC ?_;refine fJ (i+1) ⟨bs.drop,⟨by omega,trivial⟩⟩
  simp at g16
  refine(cy) ?_;exact⟨rfl,(St.cg st1)⟩
 -- tJ je C63
theorem Ez(ht:nO prog A w) (hn:n≤65535):CR prog 380 #[.string (itoa (n:Int))] w (.int .i64 (n:Int)):=by
 refine enter func380 rfl ntmps380 rfl<|?_;have bd:=St.s0 w;refine(iu) (GY (n:=n) (by omega) w) bd fun w1 s1 st1=>?_;refine qd ?_;refine WC.fE (t:=25) (v:=.bool false) st1 ?_<|?_
 ·
  refine cS ?_;refine WP .r (PV.VS D5 rfl)<|nx ?_;refine WL.iZ (t:=12) rfl (fun g12=>?_) (fun g12=>?_)
  ·
   refine bf ?_;exact(dp) (tG g12) (st1)
  refine dV ?_;refine WL.iZ (t:=16) rfl (fun g16=>?_) (fun g16=>?_)
  ·
   exact(dp) (tG (aj g12 g16)) (st1)
  refine dV ?_;refine WL.iZ (t:=20) rfl (fun g20=>?_) (fun g20=>?_)
  ·
   exact(dp) (tG (aj g12<|aj g16 g20)) (st1)
  refine(iu) (pn (n:=(n:Int)) (ht.ext (St.cg st1)) (by omega) (by omega)) st1 fun w2 s2 st2=>?_;exact(dp) (tG (aj g12<|aj g16 g20)) (st2)
 intro w2 st2;refine(aZ) (fun eZ=>?_) fun eZ=>?_
 ·
  exact ic eZ
 refine(cy) ?_;exact⟨rfl,(St.cg st2)⟩
theorem EB(ht:nO prog A w) (hs:s.size≤1000) (gR:∀n:Nat,n≤65535→s≠itoa (n:Int)):CR prog 380 #[.string s] w (.int .i64 0):=by
 refine enter func380 rfl ntmps380 rfl<|?_;have bd:=St.s0 w;refine(dh) UB (P8 (s:=s) (ht.ext (St.cg bd)) hs) ?_;rintro _ w1 ⟨v,ok,ev,rfl,hv,eV,s1⟩;have st1:=bd.step s1;refine qd ?_;refine WC.fE (t:=25) (v:=.bool true) st1 ?_<|?_
 ·
  refine cS ?_;refine WP .r (PV.abh D5 rfl eV)<|(ed) (fun g12=>?_) (fun g12=>?_)
  ·
   refine bf ?_;exact(dp) (by first | (simp [g12];done) | (simp at g12 ⊢;intro e;exact gR v.toNat (by omega) (by rw [show((v.toNat:Nat):Int)=v by omega];exact e.symm))) (st1)
  refine(ed) (fun g16=>?_) (fun g16=>?_)
  ·
   exact(dp) (by first | (simp [g12,g16];done) | (simp at g12 g16 ⊢;intro e;exact gR v.toNat (by omega) (by rw [show((v.toNat:Nat):Int)=v by omega];exact e.symm))) (st1)
  refine(ed) (fun g20=>?_) (fun g20=>?_)
  ·
   exact(dp) (by first | (simp [g12,g16,g20];done) | (simp at g12 g16 g20 ⊢;intro e;exact gR v.toNat (by omega) (by rw [show((v.toNat:Nat):Int)=v by omega];exact e.symm))) (st1)
  refine(iu) (pn (n:=v) (ht.ext (St.cg st1)) (by omega) (by omega)) st1 fun w2 s2 st2=>?_;exact(dp) (by first | (simp [g12,g16,g20];done) | (simp at g12 g16 g20 ⊢;intro e;exact gR v.toNat (by omega) (by rw [show((v.toNat:Nat):Int)=v by omega];exact e.symm))) (st2)
 intro w2 st2;refine(aZ) (fun eZ=>?_) fun eZ=>?_
 ·
  refine(cy) ?_;exact⟨rfl,(St.cg st2)⟩
 exact ic eZ
theorem xC(ht:nO prog A w) (hs:s.size≤1000):CR prog 380 #[.string s] w (.int .i64 (dE s:Int)):=by
 by_cases h:∃n:Nat,n≤65535∧s=itoa (n:Int)
 ·
  obtain⟨n,hn,rfl⟩:=h;rw [gA hn];exact Ez ht hn
 have h0:∀n:Nat,n≤65535→s≠itoa (n:Int):=fun n hn e=>h ⟨n,hn,e⟩;rw [LU h0];exact EB ht hs h0
theorem BJ{kd:Int}{l:List Nat}(hl:Ints A w a r c (l.map fun x:Nat=>(x:Int))) (Ef:∀x∈l,x≤65535) (hr:r≤1000):CR prog 382 #[.int .i64 kd,.slice a r c] w (.int .i64 (eX kd 0 l:Int)):=by
 have hle:=SR.le hl;have hlen:=SR.len hl;rw [List.length_map] at hlen;have BA:∀i,∀x∈l.take i,x≤65535:=fun i x hx=>Ef x (List.mem_of_mem_take hx);refine enter func382 rfl ntmps382 rfl<|?_;have bd:=St.s0 w;refine bf ?_;refine qd ?_;refine WC.cq (σ:=Nat) (eP:=fun i=>[(0,.int .i64 kd),(5,.int .i64 (xK 0 (l.take i):Int)),(6,.int .i64 (wM 0 (l.take i):Int)),(7,.int .i64 (gx 0 (l.take i):Int)),(10,.slice a r c),(11,.int .i64 (r:Int)),(12,.int .i64 (i:Int))]) (F:=fun i=>[]) (I:=fun i=>(i≤r)∧True) (μ:=fun i=>r - i) (0) (bd) Sub.t (⟨by omega,trivial⟩)<|?_;rintro i w1 st1 ⟨hi,_⟩;simp only [CA,NA] at st1 hi ⊢;refine(aZ) (fun g13=>?_) fun g13=>?_
 ·
  simp at g13
  have cT:i<l.length:=by omega
  have Ia:i<(l.map fun x:Nat=>(x:Int)).length:=by simpa using cT
  have nj:=yk (c:=0) (BA i);have rq:=qo (c:=0) (by omega) (BA i);have vE:=oy (c:=0) (by omega) (BA i);have hvi:=Ef l[i] (List.getElem_mem cT)
  have dZ:(l.take i).length≤1000:=by rw [List.length_take];omega
  have e1:=Cn (c:=0) cT;have e2:=yM (c:=0) cT;have e3:=yN (c:=0) cT;refine eC ?_;obtain⟨Tk,Tl,Tm,lT,_,rfl,oh,_⟩:=(SR.ext hl (St.cg st1)).at (ao Ia);rw [List.getElem_map] at oh;refine nx ?_;refine WP .r (PV.fO Jo lT rfl rfl (by omega))<|WP .r (PV.pA aU oh rfl rfl)<|qd ?_;refine WP .r (PV.N1 rfl rfl)<|cS ?_;refine WP .r (PV.orN rfl rfl (by omega) (by omega))<|oC ?_;refine fJ (i+1) ⟨st1,⟨by omega,trivial⟩⟩
 simp at g13
 have cY:l.take i=l:=List.take_of_length_le (by omega);rw [cY];have nj:=yk (c:=0) Ef;have rq:=qo (c:=0) (by omega) Ef;have vE:=oy (c:=0) (by omega) Ef
 have hll:l.length≤1000:=by omega
 refine bf ?_;refine(aZ) (fun Bl=>?_) fun Bl=>?_
 ·
  simp at Bl
  refine(cy) ?_;exact⟨by unfold eX;rw [if_pos Bl,Int.tmod_eq_emod_of_nonneg (by omega)];rfl,(St.cg st1)⟩
 simp at Bl
 refine(aZ) (fun rV=>?_) fun rV=>?_
 ·
  simp at rV
  refine dA ?_;refine WP .r (PV.quo rfl rfl (by omega) (by rw [Int.tdiv_eq_ediv_of_nonneg (by omega)];omega) (by rw [Int.tdiv_eq_ediv_of_nonneg (by omega)];omega))<|(cy) ?_;exact⟨by unfold eX;rw [if_neg Bl,if_pos rV,Int.tdiv_eq_ediv_of_nonneg (by omega),Int.tmod_eq_emod_of_nonneg (by omega)];rfl,(St.cg st1)⟩
 simp at rV
 refine(aZ) (fun gQ=>?_) fun gQ=>?_
 ·
  simp at gQ
  refine(cy) ?_;exact⟨by unfold eX;rw [if_neg Bl,if_neg rV,if_pos gQ],(St.cg st1)⟩
 simp at gQ
 refine(aZ) (fun n0=>?_) fun n0=>?_
 ·
  simp at n0
  refine(cy) ?_;exact⟨by unfold eX;rw [if_neg Bl,if_neg rV,if_neg gQ,if_pos n0,Int.tmod_eq_emod_of_nonneg (by omega)];rfl,(St.cg st1)⟩
 simp at n0
 refine(cy) ?_;exact⟨by unfold eX;rw [if_neg Bl,if_neg rV,if_neg gQ,if_neg n0],(St.cg st1)⟩
set_option maxHeartbeats 1600000 in
theorem Hs(ht:nO prog A w) (hR:aw ab) (hi:i<ab.length) (hr:ik B w a r c ab) (hl:Strs C w a2 r2 e2 ah) (hsz:∀s∈ah,s.size≤1000):CR prog 300 #[.slice a r c,(aL ab (i:Int)).val,.slice a2 r2 e2] w ((dt ab (aL ab (i:Int)) ah).val):=by
 have rS:=hR.len
 have lB:i≤99:=by omega
 have hle:=hr.le;have hlen:=hr.len;have Ac:=hl.len;have iP:=hl.le
 obtain⟨kd,Nw,hk⟩:∃kd:Int,(kd=31∨kd=32)∧aL ab (i:Int)=⟨kd,itoa i⟩:=by
  unfold aL
  rw [if_neg (by omega)]
  cases h:aD ab i
  ·
   exact⟨31,.inl rfl,by simp [h]⟩
  exact⟨32,.inr rfl,by simp [h]⟩
 have YG:=dw hi lB;obtain⟨akA,Tn,MS⟩:=hR.2 i _ (ao hi);have hcb:=aw.hb hR _ (List.getElem_mem hi);obtain⟨cc,hcc⟩:∃cc:Nat,ab[i].c=cc:=⟨ab[i].c.toNat,by omega⟩;obtain⟨Tk,Tl,Tm,lT,_,⟨q1,q2,q3,rfl,oK⟩,oh,_⟩:=hr.at (ao hi);rw [hcc] at oh;have td:=oK.len;rw [hk] at YG ⊢;refine enter func300 rfl ntmps300 rfl<|?_;have bd:=St.s0 w;refine(fm) bd fun b4 w1 jG bE st1=>?_;refine(gy) st1 fun b6 w2 mC eE st2=>?_;refine(bA) aq st2.b1<|(iu) (og (k:=(⟨kd,itoa i⟩:Key)) ⟨by simp only [];omega,by simp only [];omega⟩ rfl lB) st2 fun w3 s3 aW=>?_;refine eC ?_;refine WC.fE (t:=30) (v:=.bool false) aW ?_<|?_
 ·
  have QU:=aW.cX;refine WC.eJ (m:=12) (E:=dm [(10,fun v _=>v=(aL ab (i:Int)).val)]) aW (bK (⟨fun _ _ _ _ _ _ _ h=>h,trivial⟩)) mixed (by kernel_rfl)<|dA ?_;refine DW.iZ (t:=19) rfl (fun g19=>?_) (fun g19=>?_)
  ·
   refine(eb) ?_;rintro w4 ⟨pw,ba⟩ _;exact(dp) (by first | rfl | (simp [g19,hk];done) | (simp [g19,hk];omega) | (simp only [g19];done) | (simp only [g19];rfl) | (simp [g19];done) | (simp;done) | (simp at g19 ⊢ <;> omega) | (simp <;> omega) | (simp [g19] <;> omega) | (simp at g19 <;> omega)) (ba)
  refine(kQ) aU St.g1<|dA ?_;refine DW.iZ (t:=24) rfl (fun g24=>?_) (fun g24=>?_)
  ·
   refine(eb) ?_;rintro w4 ⟨pw,ba⟩ _;exact(dp) (by first | rfl | (simp [g19,g24,hk];done) | (simp [g19,g24,hk];omega) | (simp only [g19,g24];done) | (simp only [g19,g24];rfl) | (simp [g19,g24];done) | (simp;done) | (simp at g19 g24 ⊢ <;> omega) | (simp <;> omega) | (simp [g19,g24] <;> omega) | (simp at g19 g24 <;> omega)) (ba)
  refine cS ?_;refine DW.c0 (fun wx hC hF=>rJ (n:=(i:Int)) (hr.ext (St.cg hC.2)))<|(iX) aq St.g1<|(eb)<|?_;rintro w4 ⟨pw,ba⟩ ⟨_,_⟩;refine WP .r (PV.NY gY (p:=aL ab (i:Int)) (q:=(⟨kd,itoa i⟩:Key)) rfl rfl)<|?_;exact(dp) (by first | rfl | (simp [g19,g24,hk];done) | (simp [g19,g24,hk];omega) | (simp only [g19,g24];done) | (simp only [g19,g24];rfl) | (simp [g19,g24];done) | (simp;done) | (simp at g19 g24 ⊢ <;> omega) | (simp <;> omega) | (simp [g19,g24] <;> omega) | (simp at g19 g24 <;> omega)) (ba)
 intro w4 ba;refine(aZ) (fun lO=>?_) fun lO=>?_
 ·
  exact ic lO
 refine jo ?_;refine WP .r (PV.Kk ll (i:=i) lT rfl rfl (by omega) (by omega))<|(bA) xd (bH oh (St.cg ba) (by simp))<|(gy) ba fun b8 w5 Da iY bs=>?_;refine(dB) Jp bs fun w6 jV j0 bj=>?_;refine bf ?_;refine(bM) mT bj.b0<|(aZ) (fun lW=>?_) fun lW=>?_
 ·
  simp at lW
  have hn:r2<ab[i].asks.length:=by omega
  have hv:=oA (ah:=ah) YG hi (by rw [YG];exact hk) (show ah.length<ab[i].asks.length by omega);simp only [← Ac] at hv
  have YH:r2=0→ab[i].asks[r2].pick=false:=fun h0=>by
   have:=Tn r2 _ (ao hn)
   cases hp:ab[i].asks[r2].pick
   ·
    rfl
   unfold gD at this
   rw [hp] at this
   simp [h0] at this
  refine nx ?_;obtain⟨b_y,o_y,r_y,AH,_,rfl,AJ,_⟩:=(oK.ext (St.cg bj)).at (ao hn);refine(bM) mT bj.b0<|nx ?_;refine WP .r (PV.fO Bx AH rfl rfl (by omega))<|(bA) su AJ<|(gy) bj fun iA w7 kL ft bV=>?_;refine(dB) Jq bV fun w8 sC nj bT=>?_;refine(bM) aU bT.b0<|eC ?_;refine WC.fE (t:=65) (v:=.bool (gC ab[i].asks[r2] ah)) bT ?_<|?_
  ·
   refine(bM) fq bT.b0<|nx ?_;refine WL.iZ (t:=52) rfl (fun g52=>?_) (fun g52=>?_)
   ·
    refine dV ?_;refine WL.iZ (t:=56) rfl (fun MT=>?_) (fun MT=>?_)
    ·
     simp at MT
     obtain⟨b_z,o_z,r_z,YE,_,rfl,YF,_⟩:=(hl.ext (St.cg bT)).at (ao (show r2 - 1<ah.length by omega))
     have kI:gC ab[i].asks[r2] ah=decide ((dE ah[r2 - 1]:Int).tmod 2=0):=by
      unfold gC
      simp only [g52,← Ac,Bool.true_and];rw [decide_eq_false (by omega),Bool.false_or,getElem!_pos ah (r2 - 1) (by omega),Int.tmod_eq_emod_of_nonneg (by omega)]
      congr 1
      exact propext ⟨fun h=>by omega,fun h=>by omega⟩
     refine dA ?_;refine WP .r (PV.Kk sw (i:=r2 - 1) YE rfl rfl (by omega) (by omega))<|WP .r (PV.pA iF YF rfl rfl)<|(iu) (xC (s:=ah[r2 - 1]) (ht.ext (St.cg bT)) (hsz _ (List.getElem_mem _))) bT fun w9 s9 cm=>?_;exact(dp) (by rw [kI]) (cm)
    exact absurd (YH (by simp at MT;omega)) (by simp [g52])
   have kI:gC ab[i].asks[r2] ah=false:=by unfold gC;rw [g52];rfl
   refine bf ?_;exact(dp) (by rw [kI]) (bT)
  intro w9 cm;refine(aZ) (fun Ej=>?_) fun Ej=>?_
  ·
   have Db:sV ab[i].asks[r2] ah=ab[i].asks[r2].Ip:=by unfold sV;rw [if_pos Ej]
   refine(bM) aU cm.b0<|(bM) fq cm.b0<|(aZ) (fun Nx=>?_) fun Nx=>?_
   ·
    rw [Db,if_pos Nx] at hv;refine(iu) (xB) cm fun kE nZ aM=>?_;refine WP .r (PV.bU (us:=[.bool false,.string ⟨#[]⟩,.int .i64 (dx _).kind,.string (dx _).text]) pM rfl rfl rfl)<|(dB) iS aM.p2 fun kF BC rq aO=>?_;refine(my) ko aO.b0<|?_;rw [hv];exact⟨rfl,(St.cg aO)⟩
   rw [Db,if_neg (by simp [Nx])] at hv;refine(iu) (rJ (hr.ext (St.cg cm))) cm fun kE nZ aM=>?_;refine WP .r (PV.bU (us:=[.bool false,.string ⟨#[]⟩,.int .i64 (aL ab _).kind,.string (aL ab _).text]) pM rfl rfl rfl)<|(dB) iS aM.p2 fun kF QW vE aO=>?_;refine(my) ko aO.b0<|?_;rw [hv];exact⟨rfl,(St.cg aO)⟩
  have Db:sV ab[i].asks[r2] ah=ab[i].asks[r2].n:=by unfold sV;rw [if_neg (by simp [Ej])]
  refine(bM) fq cm.b0<|(aZ) (fun Nx=>?_) fun Nx=>?_
  ·
   rw [Db,if_pos Nx] at hv;refine(iu) (xB) cm fun kE nZ aM=>?_;refine WP .r (PV.bU (us:=[.bool false,.string ⟨#[]⟩,.int .i64 (dx _).kind,.string (dx _).text]) pM rfl rfl rfl)<|(dB) iS aM.p2 fun kF Q1 Gd aO=>?_;refine(my) ko aO.b0<|?_;rw [hv];exact⟨rfl,(St.cg aO)⟩
  rw [Db,if_neg (by simp [Nx])] at hv;refine(iu) (rJ (hr.ext (St.cg cm))) cm fun kE nZ aM=>?_;refine WP .r (PV.bU (us:=[.bool false,.string ⟨#[]⟩,.int .i64 (aL ab _).kind,.string (aL ab _).text]) pM rfl rfl rfl)<|(dB) iS aM.p2 fun kF Yj Yk aO=>?_;refine(my) ko aO.b0<|?_;rw [hv];exact⟨rfl,(St.cg aO)⟩
 simp at lW
 have hv:=oz (ah:=ah) YG hi (by rw [YG];exact hk) (show ab[i].asks.length≤ah.length by omega);rw [← td,hcc,Int.toNat_natCast] at hv
 have Ef:∀x∈(ah.take q2).map dE,x≤65535:=fun x hx=>by obtain⟨s,_,rfl⟩:=List.mem_map.1 hx;exact nE s
 have hfl:=ru (kind:=ab[i].final) (c:=cc) (l:=(ah.take q2).map dE) (by omega) Ef
 have hll:((ah.take q2).map dE).length=q2:=by rw [List.length_map,List.length_take];omega
 refine(bM) aU bj.b0<|?_;refine WL.go rfl (OX.aR (us:=[.int .i64 (cc:Int)]) O5 rfl rfl rfl rfl fun b79 w7 aej akB=>?_);have bV:=St.rP (R:=RR.int) (E:=3) (k:=1) (a:=some ⟨b79,0,none⟩) (n:=1) (c:=1) (xs:=[(cc:Int)]) bj aej.ext (OR.ek akB (Nat.zero_le _) rfl (by simp [Value.oneCell']) rfl) (fun x hx=>by simp [aI] at hx;subst hx;exact aej.ge);refine(bM) mT bV.b1<|nx ?_;refine WP .r (PV.yJ sw (hl.ext (St.cg bV)) rfl rfl (by omega))<|eC ?_;refine WC.cq (σ:=Nat × (Option Addr) × Nat × Nat) (eP:=fun(j,MU,Ht,MV)=>[(6,.pointer (some ⟨b6,0,none⟩)),(8,.pointer (some ⟨b8,0,none⟩)),(12,.slice MU Ht MV),(84,.slice a2 q2 e2),(85,.int .i64 (q2:Int)),(86,.int .i64 (j:Int))]) (F:=fun(j,MU,Ht,MV)=>[As.os RR.int 3 1 MU Ht MV ((((cc::((ah.take q2).map dE).take j)).map fun x:Nat=>(x:Int)))]) (I:=fun(j,MU,Ht,MV)=>(j≤q2)∧True) (μ:=fun(j,MU,Ht,MV)=>q2 - j) (0,(some ⟨b79,0,none⟩),1,1) (bV) Sub.t (⟨by omega,trivial⟩)<|?_;rintro⟨j,MU,Ht,MV⟩ w8 bT ⟨hj,_⟩;simp only [CA,NA] at bT hj ⊢;have l4:=((As.gs bT.g0)).len
 have JO:Ht≤1+j:=by have h0:=l4;simp at h0;omega
 refine(aZ) (fun P5=>?_) fun P5=>?_
 ·
  simp at P5
  have lV:j<ah.length:=by omega
  obtain⟨b_u,o_u,r_u,akC,_,rfl,akD,_⟩:=(hl.ext (St.cg bT)).at (ao lV);refine jo ?_;refine WP .r (PV.fO sw akC rfl rfl (by omega))<|WP .r (PV.pA iF akD rfl rfl)<|(iu) (xC (s:=ah[j]) (ht.ext (St.cg bT)) (hsz _ (List.getElem_mem _))) bT fun w9 s9 cm=>?_;refine WL.go rfl (OX.aR (us:=[.int .i64 (dE ah[j]:Int)]) O5 rfl rfl rfl rfl fun b93 kE YI YJ=>?_);have aM:=cm.eI YI YJ;refine WL.ap rfl rfl aM.p1 (SR.ek (A:=fun _=>True) (x:=((dE ah[j]:Nat):Int)) (As.gb aM.g0) trivial rfl (by simp [Value.oneCell']) rfl) fun a94 akE kF arQ arR aO=>?_;refine cS ?_;have aS:=aO.VF (show(((((cc::((ah.take q2).map dE).take j)).map fun x:Nat=>(x:Int)))++[((dE ah[j]:Nat):Int)])=(((cc::((ah.take q2).map dE).take (j+1))).map fun x:Nat=>(x:Int)) by rw [List.take_succ_eq_append_getElem (by omega),← List.cons_append,List.map_append,List.getElem_map,List.getElem_take];rfl);refine jo ?_;refine fJ (j+1,a94,(Ht+1),akE) ⟨aS.p1.drop,⟨by omega,trivial⟩⟩
 simp at P5
 have hje:((ah.take q2).map dE).take j=(ah.take q2).map dE:=List.take_of_length_le (by omega);have cm:=bT.VF (show(((cc::((ah.take q2).map dE).take j)).map fun x:Nat=>(x:Int))=(((cc::(ah.take q2).map dE)).map fun x:Nat=>(x:Int)) by rw [hje]);refine(bM) aU cm.b1<|nx ?_;refine WL.c1 (u:=.int .i64 ((eX ab[i].final cc ((ah.take q2).map dE)):Int)) (BJ (kd:=ab[i].final) (l:=cc::(ah.take q2).map dE) (Ow.rd (As.gs cm.g0) (by simp;omega)) (fun x hx=>by rcases List.mem_cons.1 hx with rfl | hx;omega;exact Ef x hx) (by omega)) (by rw [Gq]) cm fun w9 s9 aM=>?_;refine(iu) (pn (n:=((eX ab[i].final cc ((ah.take q2).map dE)):Int)) (ht.ext (St.cg aM)) (by omega) (by omega)) aM fun kE nZ aO=>?_;refine WP .r (PV.bU (us:=[.bool true,.string (itoa ((eX ab[i].final cc ((ah.take q2).map dE)):Int)),.int .i64 0,.string ⟨#[]⟩]) pM rfl rfl rfl)<|(dB) iS aO.p2 fun kF ss6 hs6 aS=>?_;refine(my) ko aS.b0<|?_;rw [hv];exact⟨rfl,(St.cg aS)⟩
theorem sF(ht:nO prog A w) (hR:aw ab) (hi:i<ab.length) (hr:ik B w a r c ab) (hl:Strs C w a2 r2 e2 ah) (hsz:∀s∈ah,s.size≤1000):CR prog 210 #[.slice a r c,(aL ab (i:Int)).val,.slice a2 r2 e2] w ((dt ab (aL ab (i:Int)) ah).val):=by
 have rS:=hR.len;have Nw:=fK hi (by omega);refine enter func210 rfl ntmps210 rfl<|?_;have bd:=St.s0 w;refine(fm) bd fun b4 w1 jG bE st1=>?_;refine(gy) st1 fun b6 w2 mC eE st2=>?_;refine(bA) aq st2.b1<|?_;refine WL.c1 (u:=.bool true) (qR (k:=aL ab (i:Int))) (by rw [show(decide ((aL ab (i:Int)).kind=31) || decide ((aL ab (i:Int)).kind=32))=true by(rw [Nw];split <;> simp)]) st2 fun w3 s3 aW=>?_;refine dA ?_;refine WC.Cb rfl<|(bA) aq aW.b1<|(iu) (Hs (ht.ext (St.cg aW)) hR hi (hr.ext (St.cg aW)) (hl.ext (St.cg aW)) hsz) aW fun w4 s4 ba=>?_;refine(dB) iS ba fun w5 jV j0 bs=>?_;refine(my) ko bs.b0<|?_;exact⟨rfl,(St.cg bs)⟩
theorem uU(hk:k.kind=32):CR prog 208 #[k.val] w (.string ⟨#[48]⟩):=by
 refine enter func208 rfl ntmps208 rfl<|?_;have bd:=St.s0 w;refine(fm) bd fun b1 w1 oU dK st1=>?_;refine(bM) aU st1.b0<|(aZ) (fun g3=>?_) fun g3=>?_
 ·
  skip
  refine(cy) ?_;exact⟨rfl,(St.cg st1)⟩
 exact absurd g3 (by simp [hk])
theorem BL(hi:i<ab.length) (lB:i≤99) (hr:ik B w a r c ab):CR prog 86 #[.slice a r c,(aL ab (i:Int)).val] w (.bool true):=by
 have Nw:=fK hi lB
 have US:(aL ab (i:Int)).text=itoa i:=by unfold aL;rw [if_neg (by omega)]
 have wT:30≤(aL ab (i:Int)).kind∧(aL ab (i:Int)).kind≤32:=by rw [Nw];split <;> omega
 refine enter func86 rfl ntmps86 rfl<|?_;have bd:=St.s0 w;refine(fm) bd fun b3 w1 iO dJ st1=>?_;refine dV ?_;have Au:=st1.cX;refine WC.eJ (m:=12) (E:=dm [(1,fun v _=>v=.bool true),(4,fun v _=>v=.bool true),(9,fun v _=>v=.int .i64 (i:Int)),(10,fun v _=>v=(aL ab (i:Int)).val)]) st1 (bK (⟨fun _ _ _ _ _ _ _ h=>h,⟨fun _ _ _ _ _ _ _ h=>h,⟨fun _ _ _ _ _ _ _ h=>h,⟨fun _ _ _ _ _ _ _ h=>h,trivial⟩⟩⟩⟩)) mixed (by kernel_rfl)<|(iX) aq St.g0<|?_;refine DW.c0 (fun wx hC hF=>jC (k:=aL ab (i:Int)) wT US lB)<|(iX) aq St.g0<|?_;refine DW.c1 (u:=.bool true) (fun wx hC hF=>qR (k:=aL ab (i:Int))) (by rw [show(decide ((aL ab (i:Int)).kind=31) || decide ((aL ab (i:Int)).kind=32))=true by(rw [Nw];split <;> simp)])<|(iX) aq St.g0<|?_;refine DW.c0 (fun wx hC hF=>og (k:=aL ab (i:Int)) wT US lB)<|?_;refine DW.c0 (fun wx hC hF=>rJ (n:=(i:Int)) (hr.ext (St.cg hC.2)))<|(iX) aq St.g0<|(eb)<|?_;rintro w2 ⟨fx,st2⟩ ⟨_,⟨_,⟨_,⟨_,_⟩⟩⟩⟩;refine WP .r (PV.Kl gY (p:=aL ab (i:Int)) (q:=aL ab (i:Int)) rfl rfl)<|(cy) ?_;exact⟨by simp,(St.cg st2)⟩
set_option maxHeartbeats 400000
theorem sG{xs:List Key}(bJ:St w M Z w []) (hl:Rd RR.key 2 Z w a n c xs) (h6:xs.length≤1000000):Calls prog 157 #[.slice a n c] w fun e w'=>∃a' n' c',e=.returned (.slice a' n' c')∧St w M Z w' [As.os RR.key 39 2 a' n' c' xs]:=by
 have hlen:=hl.len;refine enter func157 rfl ntmps157 rfl<|?_;have bd:=bJ;have st1:=bd.fr hl;refine(aZ) (fun g4=>?_) fun g4=>?_
 ·
  simp at g4
  subst g4;have hx:=hl.yT;subst hx;have st2:=st1.eR RR.key 39 2;refine(cy) ?_;exact⟨none,0,0,rfl,st2.p1.drop⟩
 refine dV ?_;refine WL.go rfl (OX.DA Um aid rfl fun b5 w1 nh gw=>?_);have st2:=St.rP (R:=RR.key) (E:=39) (k:=2) (a:=some ⟨b5,0,none⟩) (n:=0) (c:=0) (xs:=[]) st1 nh.ext (OR.VT gw (Nat.zero_le _)) (fun x hx=>by simp [aI] at hx;subst hx;exact nh.ge);refine nx ?_;refine WL.ap rfl rfl st2 ((As.gr st2.g1)) fun a7 c'7 w2 hf7 hn7 aW=>?_;refine(cy) ?_;exact⟨_,_,_,rfl,aW.p1.drop⟩
theorem BM{xs:List Rec}(bJ:St w M Z w []) (hl:Rd RR.fT 8 Z w a n c xs) (h6:xs.length≤1000000):Calls prog 155 #[.slice a n c] w fun e w'=>∃a' n' c',e=.returned (.slice a' n' c')∧St w M Z w' [As.os RR.fT 48 8 a' n' c' xs]:=by
 have hlen:=hl.len;refine enter func155 rfl ntmps155 rfl<|?_;have bd:=bJ;have st1:=bd.fr hl;refine(aZ) (fun g4=>?_) fun g4=>?_
 ·
  simp at g4
  subst g4;have hx:=hl.yT;subst hx;have st2:=st1.eR RR.fT 48 8;refine(cy) ?_;exact⟨none,0,0,rfl,st2.p1.drop⟩
 refine dV ?_;refine WL.go rfl (OX.DA Ul aie rfl fun b5 w1 nh gw=>?_);have st2:=St.rP (R:=RR.fT) (E:=48) (k:=8) (a:=some ⟨b5,0,none⟩) (n:=0) (c:=0) (xs:=[]) st1 nh.ext (OR.VT gw (Nat.zero_le _)) (fun x hx=>by simp [aI] at hx;subst hx;exact nh.ge);refine nx ?_;refine WL.ap rfl rfl st2 ((As.gr st2.g1)) fun a7 c'7 w2 hf7 hn7 aW=>?_;refine(cy) ?_;exact⟨_,_,_,rfl,aW.p1.drop⟩
theorem BN{xs:List dy}(bJ:St w M Z w []) (hl:Rd RR.aF 4 Z w a n c xs) (h6:xs.length≤1000000):Calls prog 128 #[.slice a n c] w fun e w'=>∃a' n' c',e=.returned (.slice a' n' c')∧St w M Z w' [As.os RR.aF 102 4 a' n' c' xs]:=by
 have hlen:=hl.len;refine enter func128 rfl ntmps128 rfl<|?_;have bd:=bJ;have st1:=bd.fr hl;refine(aZ) (fun g4=>?_) fun g4=>?_
 ·
  simp at g4
  subst g4;have hx:=hl.yT;subst hx;have st2:=st1.eR RR.aF 102 4;refine(cy) ?_;exact⟨none,0,0,rfl,st2.p1.drop⟩
 refine dV ?_;refine WL.go rfl (OX.DA Uk aci rfl fun b5 w1 nh gw=>?_);have st2:=St.rP (R:=RR.aF) (E:=102) (k:=4) (a:=some ⟨b5,0,none⟩) (n:=0) (c:=0) (xs:=[]) st1 nh.ext (OR.VT gw (Nat.zero_le _)) (fun x hx=>by simp [aI] at hx;subst hx;exact nh.ge);refine nx ?_;refine WL.ap rfl rfl st2 ((As.gr st2.g1)) fun a7 c'7 w2 hf7 hn7 aW=>?_;refine(cy) ?_;exact⟨_,_,_,rfl,aW.p1.drop⟩
theorem J0{x:Rec}(bJ:St w M Z w []) (hk:Rd RR.key 2 Z w a n c x.reads) (h4:x.reads.length≤4000):Calls prog 156 #[.agg (x.row a n c).toArray] w fun e w'=>∃a' n' c',e=.returned (.agg (x.row a' n' c').toArray)∧St w M Z w' [As.os RR.key 39 2 a' n' c' x.reads]:=by
 refine enter func156 rfl ntmps156 rfl<|?_;have bd:=bJ;have st1:=bd.fr hk;refine(fm) st1 fun b1 w1 oU dK st2=>?_;refine(gy) st2 fun b2 w2 nv fl aW=>?_;refine(bM) gJ aW.b1<|?_;have ba:=aW;refine(dh) UC (sG ba.e0 (As.gr ba.g2) (by omega)) ?_;rintro _ w3 ⟨f1,f2,f3,rfl,eN⟩;have bs:=St.lr ba eN;refine nx ?_;refine WL.s1 bs.p2 fun w4 _ bj=>?_;refine(bA) eB bj.b0<|(dB) iM bj.p2 fun w5 jV j0 bV=>?_;refine(my) eB bV.b0<|?_;exact⟨_,_,_,rfl,bV.p2.k1⟩
theorem BO{p:Rec→Bool}(Bn:CF prog f) (hl:Rd RR.fT 8 Z w a n c l) (hp:∀w1,aV [] w w1→∀x∈l,∀a n c,Rd RR.key 2 Z w1 a n c x.reads→Calls prog f #[.agg (x.row a n c).toArray,cap] w1 fun e w'=>e=.returned (.bool (p x))∧aV [] w1 w'):Calls prog 151 #[.slice a n c,.func (.func f) #[] #[cap]] w fun e w'=>∃j:Int,e=.returned (.int .i64 j)∧CB l p j∧aV [] w w':=by
 have hlen:=hl.len;have hle:=hl.le;refine enter func151 rfl ntmps151 rfl<|?_;have bd:=St.s0 w;refine bf ?_;refine cS ?_;refine WC.cq (σ:=Nat) (eP:=fun i=>[(0,.slice a n c),(1,.func (.func f) #[] #[cap]),(7,.int .i64 (n:Int)),(8,.int .i64 (i:Int))]) (F:=fun i=>[]) (I:=fun i=>(i≤n)∧(∀j x,j<i→l[j]?=some x→p x=false)∧True) (μ:=fun i=>n - i) (0) (bd) Sub.t (⟨by omega,fun j x h=>by omega,trivial⟩)<|?_;rintro i w1 st1 ⟨hi,gR,_⟩;simp only [CA,NA] at st1 hi gR ⊢;refine(aZ) (fun g9=>?_) fun g9=>?_
 ·
  simp at g9
  have cT:i<l.length:=by omega
  refine uj ?_;obtain⟨iz,ku,jW,aX,gk,bF,cQ,dO⟩:=Rd.at hl cT;obtain⟨q1,q2,q3,rfl,sB,rI⟩:=bF;refine dV ?_;refine WP .r (PV.fO kK aX rfl rfl (by omega))<|(bA) eB (bH cQ (St.cg st1) (by simp))<|?_;refine WL.go rfl (OX.ud Bn rfl rfl rfl ((Calls.cap (hp _ (St.cg st1) l[i] (List.getElem_mem cT) _ _ _ (sB.ext (St.cg st1)))).mono ?_));rintro _ w2 ⟨rfl,s2⟩;refine⟨_,rfl,?_⟩;have st2:=st1.step s2;refine(aZ) (fun g16=>?_) fun g16=>?_
  ·
   refine(cy) ?_;exact⟨_,rfl,.inl ⟨i,_,ao cT,g16,gR,rfl⟩,(St.cg st2)⟩
  have g16:p l[i]=false:=by simpa using g16
  refine gM ?_;refine fJ (i+1) ⟨st2,⟨by omega,dD cT gR (by simpa using g16),trivial⟩⟩
 simp at g9
 have cY:∀x∈l,p x=false:=fun x hx=>by obtain⟨j,hj,rfl⟩:=List.getElem_of_mem hx;exact gR j _ (by omega) (ao hj)
 refine(cy) ?_;exact⟨_,rfl,.inr ⟨cY,rfl⟩,(St.cg st1)⟩
theorem wu{p:Rec→Bool}(Bn:CF prog f) (hl:Rd RR.fT 8 Z w a n c l) (hp:∀w1,aV [] w w1→∀x∈l,∀a n c,Rd RR.key 2 Z w1 a n c x.reads→Calls prog f #[.agg (x.row a n c).toArray,cap] w1 fun e w'=>e=.returned (.bool (p x))∧aV [] w1 w') (gR:∀x∈l,p x=false):CR prog 121 #[.slice a n c,.func (.func f) #[] #[cap]] w (.bool false):=by
 refine enter func121 rfl ntmps121 rfl<|?_;have bd:=St.s0 w;refine(dh) adf (BO (w:=w) Bn (hl.ext (St.cg bd)) (fun w1 h1=>hp w1 (aV.trans (St.cg bd) h1))) ?_;rintro _ w1 ⟨j,rfl,hj,s1⟩;have st1:=bd.step s1
 have Uc:j = -1:=by rcases hj with⟨i,x,h1,h2,_⟩ | ⟨_,h2⟩;exact absurd h2 (by simp [gR x (List.mem_of_getElem? h1)]);exact h2
 subst Uc;refine(cy) ?_;exact⟨by simp,(St.cg st1)⟩
theorem BP{l:List Key}(hl:Rd RR.key 2 Z w a n c l):Calls prog 68 #[.slice a n c,k.val] w fun e w'=>((k∈l∧∃i:Nat,e=.returned (.int .i64 (i:Int)))∨(k∉l∧e=.returned (.int .i64 (-1))))∧aV [] w w':=by
 have hlen:=hl.len;have hle:=hl.le;refine enter func68 rfl ntmps68 rfl<|?_;have bd:=St.s0 w;refine(fm) bd fun b3 w1 iO dJ st1=>?_;refine bf ?_;refine WC.cq (σ:=Nat) (eP:=fun i=>[(0,.slice a n c),(3,.pointer (some ⟨b3,0,none⟩)),(7,.int .i64 (n:Int)),(8,.int .i64 (i:Int))]) (F:=fun i=>[]) (I:=fun i=>(i≤n)∧(∀j x,j<i→l[j]?=some x→x≠k)∧True) (μ:=fun i=>n - i) (0) (st1) Sub.t (⟨by omega,fun j x h=>by omega,trivial⟩)<|?_;rintro i w2 st2 ⟨hi,gR,_⟩;simp only [CA,NA] at st2 hi gR ⊢;refine(aZ) (fun g9=>?_) fun g9=>?_
 ·
  simp at g9
  have cT:i<l.length:=by omega
  refine uj ?_;obtain⟨iz,ku,jW,aX,gk,bF,cQ,dO⟩:=Rd.at hl cT;have bF:=RR.cG bF;subst bF;have UO:=st2.cX;refine WC.dS (m:=5) st2 mixed<|(iX) aq St.g0<|cS ?_;refine DP .r (fun _ hC=>PV.fO fV aX rfl rfl (by omega))<|DP .r (fun _ hC=>VA aq (bH cQ (St.cg hC.2) (by simp)) .r)<|(eb)<|?_;rintro w3 ⟨mr,aW⟩ _;refine WP .r (PV.Kl gY (p:=k) (q:=l[i]) rfl rfl)<|(aZ) (fun g16=>?_) fun g16=>?_
  ·
   simp at g16
   refine(cy) ?_;exact⟨.inl ⟨g16 ▸ List.getElem_mem cT,i,rfl⟩,(St.cg aW)⟩
  simp at g16
  refine gM ?_;refine fJ (i+1) ⟨aW,⟨by omega,dD cT gR (fun e=>g16 e.symm),trivial⟩⟩
 simp at g9
 have cY:k∉l:=fun hm=>by obtain⟨j,hj,h⟩:=List.getElem_of_mem hm;exact gR j _ (by omega) (ao hj) h
 refine(cy) ?_;exact⟨.inr ⟨cY,rfl⟩,(St.cg st2)⟩
theorem oN{l:List Key}(hl:Rd RR.key 2 Z w a n c l):CR prog 40 #[.slice a n c,k.val] w (.bool (decide (k∈l))):=by
 refine enter func40 rfl ntmps40 rfl<|?_;have bd:=St.s0 w;refine(fm) bd fun b3 w1 iO dJ st1=>?_;refine(bA) aq st1.b0<|(dh) aiP ((BP (k:=k) (w:=w1) (hl.ext (St.cg st1))).mono (fun e wq h=>show ∃j:Int,e=.returned (.int .i64 j)∧decide (0≤j)=decide (k∈l)∧aV [] w1 wq from by rcases h.1 with⟨h1,i,h2⟩ | ⟨h1,h2⟩;exact⟨i,h2,by simp [h1],h.2⟩;exact⟨-1,h2,by simp [h1],h.2⟩)) ?_;rintro _ w2 ⟨j,rfl,hj,s2⟩;have st2:=st1.step s2;refine(cy) ?_;exact⟨by rw [hj],(St.cg st2)⟩
theorem EC(bJ:St w M Z w []) (hl:Rd RR.fT 8 Z w a n c l) (h6:l.length≤1000000):Calls prog 129 #[.slice a n c] w fun e w'=>∃a' n' c' Z',e=.returned (.slice a' n' c')∧cI w.heap.size Z Z'∧St w M Z' w' [As.os RR.fT 48 8 a' n' c' l]:=by
 have hlen:=hl.len;have hle:=hl.le;refine enter func129 rfl ntmps129 rfl<|?_;have bd:=bJ;have st1:=bd.fr hl;refine kP ?_;have st2:=st1;refine(dh) adh (BM st2.e0 (As.gr st2.g0) h6) ?_;rintro _ w1 ⟨f1,f2,f3,rfl,AL⟩;have aW:=St.lr st2 AL;have KS:=((As.gs aW.g0)).len;refine bf ?_;refine WC.kh (σ:=Nat × (Nat→Prop)) (eP:=fun(i,Z1)=>[(3,.slice f1 f2 f3),(8,.slice f1 f2 f3),(9,.int .i64 (f2:Int)),(10,.int .i64 (i:Int))]) (F:=fun(i,Z1)=>[As.os RR.fT 48 8 f1 f2 f3 l]) (I:=fun(i,Z1)=>(i≤f2)∧(cI w.heap.size Z Z1)∧True) (μ:=fun(i,Z1)=>f2 - i) (Zf:=fun(i,Z1)=>Z1) (0,Z) (aW) Sub.t (⟨by omega,cI.refl _ _,trivial⟩)<|?_;rintro⟨i,Z1⟩ w2 ba ⟨hi,hZ,_⟩;simp only [CA,NA] at ba hi hZ ⊢;refine(aZ) (fun g11=>?_) fun g11=>?_
 ·
  simp at g11
  have cT:i<l.length:=by omega
  refine eC ?_;obtain⟨iz,jW,aX,gk,bF,cQ⟩:=Ow.at (As.gs ba.g0) (by omega) (ao cT);obtain⟨q1,q2,q3,rfl,sB,rI⟩:=bF;have bs:=ba.fr (sB);refine cS ?_;refine WP .r (PV.fO kK aX rfl rfl (by omega))<|(bA) eB cQ<|(gy) bs fun b5 w3 nh gw bj=>?_;refine(dB) iM bj fun w4 jV j0 bV=>?_;refine(bA) eB bV.b0<|?_;have bT:=bV;refine(dh) adi (J0 bT.e0 (As.gr bT.g1) rI) ?_;rintro _ w5 ⟨e1,e2,e3,rfl,jB⟩;have cm:=St.lr bT jB;have qi:=St.cH jB;have hsz:=bT.size;have aM:=cm.bN (by omega);have ly:=hZ.trans (cI.fc (F:=fun x=>x∈aI e1) qi) hsz;refine WP .r (PV.fO kK aX rfl rfl (by omega))<|?_;refine WL.go rfl (OX.aa4 (i:=i) iM (As.gs aM.g3) aX cT rfl rfl rfl (Rec.one _ _ _ _) l[i] ⟨e1,e2,e3,rfl,(As.gr aM.g0),rI⟩ fun w6 s8 h8=>?_);have aO:=aM.p3.jk s8 h8 (fun x h=>.inl h);have aS:=aO.VF (List.set_getElem_self cT);refine gM ?_;refine fJ (i+1,_) ⟨aS.p4.p1.k2,⟨by omega,ly,trivial⟩⟩
 refine(cy) ?_;exact⟨_,_,_,_,rfl,hZ,ba.p1.drop⟩
theorem AM(bJ:St w M Z w []) (hi:Rd RR.aF 4 Z w a1 n1 e1 x.ad) (hr:Rd RR.fT 8 Z w a2 n2 e2 x.ak) (h6:x.ak.length≤1000000) (h7:x.ad.length≤1000000):Calls prog 87 #[.agg (x.row a1 n1 e1 a2 n2 e2).toArray] w fun e w'=>∃PA PC PD PE PF PG Z',e=.returned (.agg (x.row PA PC PD PE PF PG).toArray)∧cI w.heap.size Z Z'∧St w M Z' w' [As.os RR.aF 102 4 PA PC PD x.ad,As.os RR.fT 48 8 PE PF PG x.ak]:=by
 refine enter func87 rfl ntmps87 rfl<|?_;have bd:=bJ;have st1:=bd.fr hi;have st2:=st1.fr hr;refine(fm) st2 fun b1 w1 oU dK aW=>?_;refine(gy) aW fun b2 w2 nv fl ba=>?_;refine dA ?_;refine WC.du (m:=7) [] [2,5] [0,1,2,3,4,5,6] [] ba (av.k4 M0 M1 M2 M3<|av.nil) mixed (by kernel_rfl) (by kernel_rfl) rfl<|(Bo) oI SV.g1<|(jb) (fun w3 UT Hu bs xD=>?_);simp only [CA,NA] at bs;have bj:=bs;refine OX.call acZ rfl rfl ((BN bj.e0 (As.gr bj.g3) h7).mono ?_);rintro _ w4 ⟨f1,f2,f3,rfl,iV⟩;have bV:=St.lr bj iV;refine⟨_,rfl,iV.cW.size,_,rfl,_,_,_,bV,ay.k4<|ay.cons<|ay.nil,av.k4 M1 M2 M3 M4<|av.nil,?_⟩;refine(Bo) fk SV.g1<|(jb) (fun w5 To ED bT qS=>?_);simp only [CA,NA] at bT;have cm:=bT;refine OX.call ac0 rfl rfl ((EC cm.e0 (As.gr cm.g3) h6).mono ?_);rintro _ w6 ⟨f4,f5,f6,Z1,rfl,gq,mY⟩;have aM:=St.lv cm mY gq;have oL:=gq.le cm.size;refine⟨_,rfl,mY.cW.size,_,rfl,_,_,_,aM,ay.k4<|ay.k2<|ay.nil,av.k4 M2 M3 M4 M5<|av.nil,?_⟩;refine(oD) ?_;intro w7 fx aO;simp only [CM,NM,CA,NA,lG.it] at aO;refine WL.s1 aO.p3 fun w8 _ aS=>?_;refine nx ?_;refine WL.s1 aS fun w9 _ bC=>?_;refine WL.nil (EX.np ?_);refine(bA) aP bC.b0<|(dB) fR bC.p3 fun kE jV j0 br=>?_;refine(my) aP br.b0<|?_;exact⟨_,_,_,_,_,_,_,rfl,oL,br.p2.p3.k2⟩
theorem wv{r:Rec}{bb:Nat}(hb:cV w bb 31 (x.row a1 n1 e1 a2 n2 e2)):CR prog 122 #[.agg (r.row a n c).toArray,.pointer (some ⟨bb,0,none⟩)] w (.bool (decide (x.ae<r.ax))):=by
 refine enter func122 rfl ntmps122 rfl<|?_;have bd:=St.s0 w;refine(fm) bd fun b2 w1 nv fl st1=>?_;refine(bM) aU st1.b0<|(bM) aU (cV.range (hb.ext (St.cg st1)))<|(cy) ?_;exact⟨rfl,(St.cg st1)⟩
set_option maxHeartbeats 400000
theorem BQ{l:List dy}{p:dy→Bool}(Bn:CF prog f) (hl:Rd RR.aF 4 Z w a n c l) (hp:∀w1,aV [] w w1→∀x∈l,Calls prog f #[.agg x.cells.toArray,cap] w1 fun e w'=>e=.returned (.bool (p x))∧aV [] w1 w'):Calls prog 206 #[.slice a n c,.func (.func f) #[] #[cap]] w fun e w'=>∃j:Int,e=.returned (.int .i64 j)∧CB l p j∧aV [] w w':=by
 have hlen:=hl.len;have hle:=hl.le;refine enter func206 rfl ntmps206 rfl<|?_;have bd:=St.s0 w;refine bf ?_;refine cS ?_;refine WC.cq (σ:=Nat) (eP:=fun i=>[(0,.slice a n c),(1,.func (.func f) #[] #[cap]),(7,.int .i64 (n:Int)),(8,.int .i64 (i:Int))]) (F:=fun i=>[]) (I:=fun i=>(i≤n)∧(∀j x,j<i→l[j]?=some x→p x=false)∧True) (μ:=fun i=>n - i) (0) (bd) Sub.t (⟨by omega,fun j x h=>by omega,trivial⟩)<|?_;rintro i w1 st1 ⟨hi,gR,_⟩;simp only [CA,NA] at st1 hi gR ⊢;refine(aZ) (fun g9=>?_) fun g9=>?_
 ·
  simp at g9
  have cT:i<l.length:=by omega
  refine uj ?_;obtain⟨iz,ku,jW,aX,gk,bF,cQ,dO⟩:=Rd.at hl cT;have bF:=RR.cG bF;subst bF;refine dV ?_;refine WP .r (PV.fO xU aX rfl rfl (by omega))<|(bA) l6 (bH cQ (St.cg st1) (by simp))<|?_;refine WL.go rfl (OX.ud Bn rfl rfl rfl ((Calls.cap (hp _ (St.cg st1) l[i] (List.getElem_mem cT))).mono ?_));rintro _ w2 ⟨rfl,s2⟩;refine⟨_,rfl,?_⟩;have st2:=st1.step s2;refine(aZ) (fun g16=>?_) fun g16=>?_
  ·
   refine(cy) ?_;exact⟨_,rfl,.inl ⟨i,_,ao cT,g16,gR,rfl⟩,(St.cg st2)⟩
  have g16:p l[i]=false:=by simpa using g16
  refine gM ?_;refine fJ (i+1) ⟨st2,⟨by omega,dD cT gR (by simpa using g16),trivial⟩⟩
 simp at g9
 have cY:∀x∈l,p x=false:=fun x hx=>by obtain⟨j,hj,rfl⟩:=List.getElem_of_mem hx;exact gR j _ (by omega) (ao hj)
 refine(cy) ?_;exact⟨_,rfl,.inr ⟨cY,rfl⟩,(St.cg st1)⟩
theorem BR{x:dy}{bk:Nat}(hb:cV w bk 39 k.cells):CR prog 207 #[.agg x.cells.toArray,.pointer (some ⟨bk,0,none⟩)] w (.bool (decide (x.key=k))):=by
 refine enter func207 rfl ntmps207 rfl<|?_;have bd:=St.s0 w;refine(fm) bd fun b2 w1 nv fl st1=>?_;refine(kB) aq st1.b0<|(bA) aq (cV.range (hb.ext (St.cg st1)))<|?_;refine WP .r (PV.Kl gY (p:=x.key) (q:=k) rfl rfl)<|(cy) ?_;exact⟨rfl,(St.cg st1)⟩
theorem uV(hi:Rd RR.aF 4 Z w a1 n1 e1 x.ad):Calls prog 161 #[.agg (x.row a1 n1 e1 a2 n2 e2).toArray,k.val] w fun e w'=>∃y:dy,e=.returned (.agg y.cells.toArray)∧y.value=(cZ x.ad k).value∧y.changed=(cZ x.ad k).changed∧aV [] w w':=by
 have hlen:=hi.len;have hle:=hi.le;refine enter func161 rfl ntmps161 rfl<|?_;have bd:=St.s0 w;refine(fm) bd fun b2 w1 nv fl st1=>?_;refine(fm) st1 fun b3 w2 iO dJ st2=>?_;refine(gy) st2 fun b4 w3 jG bE aW=>?_;refine(bM) oI aW.b2<|?_;refine WP .r (PV.func (us:=[]) (vs:=[.pointer (some ⟨b3,0,none⟩)]) rfl rfl)<|(dh) adw (BQ (p:=fun x=>decide (x.key=k)) adx (hi.ext (St.cg aW)) (fun w1 h1 y _=>BR ((As.gb aW.g1).ext h1))) ?_;rintro _ w4 ⟨j,rfl,hj,s4⟩;have ba:=aW.step s4;refine(aZ) (fun g11=>?_) fun g11=>?_
 ·
  simp at g11
  have cY:∀y∈x.ad,(decide (y.key=k))=false:=by rcases hj with⟨i,y,_,_,_,h⟩ | ⟨h,_⟩;omega;exact h
  have hf:x.ad.find? (fun x=>x.key == k)=none:=uf (i:=x.ad.length) (Nat.le_refl _) (fun j x _ hx=>by simpa using cY x (List.mem_of_getElem? hx));refine(dB) xh ba fun w5 jV j0 bs=>?_;refine(my) l6 bs.b0<|?_;exact⟨⟨dn,⟨#[]⟩,0⟩,rfl,by unfold cZ;rw [hf];rfl,by unfold cZ;rw [hf];rfl,(St.cg bs)⟩
 simp at g11
 obtain⟨i,y,hx,hp,gR,rfl⟩:∃i:Nat,∃y,x.ad[i]?=some y∧decide (y.key=k)=true∧(∀j y,j<i→x.ad[j]?=some y→(y.key == k)=false)∧j=i:=by
  rcases hj with⟨i,y,h1,h2,h3,h4⟩ | ⟨_,h⟩
  ·
   exact⟨i,y,h1,h2,fun j y hj hx=>by simpa using h3 j y hj hx,h4⟩
  omega
 obtain⟨cT,rfl⟩:=List.getElem?_eq_some_iff.1 hx;have hf:x.ad.find? (fun x=>x.key == k)=some x.ad[i]:=lE cT gR (by simpa using hp);refine dA ?_;obtain⟨iz,ku,jW,aX,gk,bF,cQ,dO⟩:=Rd.at hi cT;have bF:=RR.cG bF;subst bF;refine(bM) oI ba.b2<|nx ?_;refine WP .r (PV.fO xU aX rfl rfl (by omega))<|(bA) l6 (bH cQ (St.cg ba) (by simp))<|(dB) xh ba fun w5 sC nj bs=>?_;refine(my) l6 bs.b0<|?_;exact⟨x.ad[i],rfl,by unfold cZ;rw [hf];rfl,by unfold cZ;rw [hf];rfl,(St.cg bs)⟩
theorem Hv(hi:Rd RR.aF 4 Z w a1 n1 e1 x.ad) (hr:Rd RR.fT 8 Z w a2 n2 e2 x.ak):CR prog 162 #[.agg (x.row a1 n1 e1 a2 n2 e2).toArray,k.val] w (.string (cZ x.ad k).value):=by
 refine enter func162 rfl ntmps162 rfl<|?_;have bd:=St.s0 w;refine(fm) bd fun b2 w1 nv fl st1=>?_;refine(fm) st1 fun b3 w2 iO dJ st2=>?_;refine(bA) aP st2.b1<|(bA) aq st2.b0<|(dh) UD (uV (k:=k) (hi.ext (St.cg st2))) ?_;rintro _ w3 ⟨y,rfl,hy,_,s3⟩;have aW:=st2.step s3;refine WP .r (PV.yU (fs:=[_,_,_]) (f:=1) (off:=2) (T:=102) underlying102 rfl rfl (show ∀w,(isAgg 9).run _ w=.ok false w from isAgg9) rfl rfl)<|(cy) ?_;exact⟨by rw [← hy],(St.cg aW)⟩
set_option maxHeartbeats 400000
theorem Hw{ar:Option Addr}{cr c1 c2:Nat}(bJ:St w M Z w []):Calls prog 88 #[.slice ar r cr,.agg (x.row a1 n1 c1 a2 n2 c2).toArray] w fun e w'=>∃s m q,e=.returned (.pointer (some ⟨s,0,none⟩))∧St w M Z w' [As.blk s 184 (SD.cells ⟨ar,a1,a2,r,cr,n1,c1,n2,c2,m,q,s⟩ x),As.map Key.val m [],As.map Key.val q []]:=by
 refine enter func88 rfl ntmps88 rfl<|?_;have bd:=bJ;refine(fm) bd fun b3 w1 iO dJ st1=>?_;refine(bA) aP st1.b0<|?_;refine WL.mm Key.val st1 fun b7 w2 vZ hm7 st2=>?_;refine WL.mm Key.val st2 fun b8 w3 Da hm8 aW=>?_;refine WP .r (PV.bU (us:=(SD.cells ⟨ar,a1,a2,r,cr,n1,c1,n2,c2,b7,b8,0⟩ x)) ach rfl rfl rfl)<|(fm) aW fun iA w4 kL ft ba=>?_;refine(cy) ?_;exact⟨_,_,_,rfl,ba.p3.drop.p2.p1⟩
end Go.Rc

