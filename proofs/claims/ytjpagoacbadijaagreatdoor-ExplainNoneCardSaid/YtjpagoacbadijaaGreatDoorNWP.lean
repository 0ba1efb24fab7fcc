/- Walks over the program, part WP. Conditions: as each theorem says. -/
import Derived.Test.YtjpagoacbadijaaGreatDoorNFacts
import Derived.Test.YtjpagoacbadijaaGreatDoorNWLibE
import Derived.Test.YtjpagoacbadijaaGreatDoorNBe
import Derived.Test.YtjpagoacbadijaaGreatDoorNBd
import Derived.Test.YtjpagoacbadijaaGreatDoorNWF
import Derived.Test.YtjpagoacbadijaaGreatDoorNBf
set_option linter.all false
namespace Go.Rc
open Go Go.Proofs Go.Proofs.Tryz
variable {n r c i r2 e2 n1 e1 n2:Nat}{w:World}{ab:List aG}{A B C M Z:Nat→Prop}{a a2 a1:Option Addr}{k:Key}{s:ByteArray}{l:List Rec}{ah:List ByteArray}{x:dQ}{f:FuncId}{cap:Value}
set_option maxHeartbeats 400000
theorem xM{n:Int} :CR prog 381 #[.int .i64 n] w ((du n).val):=by
 refine enter func381 rfl ntmps381 rfl<|?_;have bd:=St.s0 w;refine(gu) bd fun b2 w1 nz fm st1=>?_;refine dW ?_;refine WC.fL (t:=8) (v:=.bool (decide (n<0) || decide (99<n))) st1 ?_<|?_
 ·
  refine(dY) (fun g5=>?_) (fun g5=>?_)
  ·
   exact(dt) (by simp only [g5];first | rfl | simp) (st1)
  exact(dt) (by simp only [g5];first | rfl | simp) (st1)
 intro w2 st2;refine(aZ) (fun g8=>?_) fun g8=>?_
 ·
  have hk:du n=da:=by unfold du;rw [if_pos (by simp at g8;omega)]
  refine(dD) jx st2 fun w3 jY j7 aW=>?_;refine(mz) aq aW.b0<|?_;rw [hk];exact⟨rfl,(St.cg aW)⟩
 simp at g8
 have hk:du n=⟨30,itoa n⟩:=by unfold du;rw [if_neg (by omega)]
 refine(iz) (lx (n:=n) (by omega) (by omega) w2) st2 fun w3 s3 aW=>?_;refine WP .r (PV.bW (us:=[.int .i64 30,.string (itoa n)]) Ed rfl rfl rfl)<|(dD) jx aW fun w4 sC nt ba=>?_;refine(mz) aq ba.b0<|?_;rw [hk];exact⟨rfl,(St.cg ba)⟩
theorem EH{n:Int}(hr:il A w a r c ab):CR prog 199 #[.slice a r c,.int .i64 n] w (.tuple #[.int .i64 (block ab n).1,.int .i64 (block ab n).2]):=by
 have hle:=hr.le;have hlen:=hr.len;refine enter func199 rfl ntmps199 rfl<|?_;have bd:=St.s0 w;refine kQ ?_;refine WC.fL (t:=15) (v:=.bool (decide (n<0) || decide ((r:Int)≤n))) bd ?_<|?_
 ·
  refine(dY) (fun g10=>?_) (fun g10=>?_)
  ·
   exact(dt) (by simp only [g10];first | rfl | simp) (bd)
  exact(dt) (by simp only [g10];first | rfl | simp) (bd)
 intro w1 st1;refine(aZ) (fun g15=>?_) fun g15=>?_
 ·
  have hb:=Cu ab n (by simp at g15;omega);refine(FL) ?_;exact⟨by rw [hb],(St.cg st1)⟩
 obtain⟨nn,rfl⟩:∃i:Nat,n=i:=⟨n.toNat,by simp at g15;omega⟩
 have l4:nn<ab.length:=by simp at g15;omega
 have Nr:block ab nn=if aD ab nn then ((cj ab nn:Int),(eY ab (nn+1):Int)) else ((nn:Int),(nn:Int)+1):=by
  unfold block;rw [if_neg (by omega)];rfl
 refine bf ?_;refine nx ?_;obtain⟨Tt,Tu,Tv,lU,_,⟨q1,q2,q3,rfl,_⟩,ot,_⟩:=(hr.ext (St.cg st1)).at (ao l4);refine dE ?_;refine WP .r (PV.fI lq lU rfl rfl (by omega))<|nx ?_;refine WP .r (PV.ld1 (j:=0) ft ot rfl rfl)<|(aZ) (fun g24=>?_) fun g24=>?_
 ·
  simp at g24
  have hb:block ab nn=((nn:Int),(nn:Int)+1):=by rw [Nr,if_neg (by rw [cQ l4,g24];simp)]
  refine(FL) ?_;exact⟨by rw [hb],(St.cg st1)⟩
 simp at g24
 rw [if_pos (by rw [cQ l4];exact g24)] at Nr;refine dW ?_;refine WC.ct (σ:=Nat) (eJ:=fun k=>[(0,.slice a r c),(6,.int .i64 (k:Int)),(7,.int .i64 ((nn:Int)+1))]) (F:=fun k=>[]) (I:=fun k=>(k≤nn)∧(cj ab k=cj ab nn)∧True) (μ:=fun k=>k) (nn) (st1) Sub.t (⟨Nat.le_refl _,rfl,trivial⟩)<|?_;rintro k w2 st2 ⟨hk,Ib,_⟩;simp only [CA,NA] at st2 hk Ib ⊢;refine cS ?_;refine WC.fL (t:=36) (v:=.bool (decide ((0:Int)<k) && aD ab (k - 1))) st2 ?_<|?_
 ·
  refine(dY) (fun qj=>?_) (fun qj=>?_)
  ·
   simp at qj
   obtain⟨b_y,o_y,r_y,AQ,_,⟨q4,q5,q6,rfl,_⟩,AR,_⟩:=(hr.ext (St.cg st2)).at (ao (show k - 1<ab.length by omega));have sn:ab[k-1].ring=aD ab (k-1):=(cQ (by omega)).symm;refine dE ?_;refine WP .r (PV.Ko lq (i:=k - 1) AQ rfl rfl (by omega) (by omega))<|nx ?_;refine WP .r (PV.ld1 (j:=0) ft AR rfl rfl)<|?_;exact(dt) (by simp [*]) (st2)
  simp at qj
  have QT:¬(0<k):=by omega
  exact(dt) (by simp [*]) (st2)
 intro w3 aW;refine(aZ) (fun gT=>?_) fun gT=>?_
 ·
  simp at gT
  obtain⟨g1,g2⟩:=gT;obtain⟨j,rfl⟩:∃j,k=j+1:=⟨k - 1,by omega⟩;refine qi ?_;refine fH (j) ⟨aW,⟨by omega,by rw [← Ib,uk (by simpa using g2)],trivial⟩⟩
 simp at gT
 have XV:(block ab nn).1=k:=by
  rw [Nr]
  show(cj ab nn:Int)=k
  rw [← Ib,wQ]
  by_cases h0:k=0
  ·
   exact .inl h0
  exact .inr (gT (by omega))
 refine gN ?_;refine WC.ct (σ:=Nat) (eJ:=fun m=>[(0,.slice a r c),(6,.int .i64 (k:Int)),(7,.int .i64 (m:Int))]) (F:=fun m=>[]) (I:=fun m=>(nn+1≤m)∧(m≤r)∧(eY ab m=eY ab (nn+1))∧True) (μ:=fun m=>r - m) (nn+1) (aW) Sub.t (⟨Nat.le_refl _,by omega,rfl,trivial⟩)<|?_;rintro m w4 ba ⟨Bu,kM,Wa,_⟩;simp only [CA,NA] at ba Bu kM Wa ⊢;refine cS ?_;refine WC.fL (t:=49) (v:=.bool (decide ((m:Int)<r) && aD ab m)) ba ?_<|?_
 ·
  refine(dY) (fun nK=>?_) (fun nK=>?_)
  ·
   simp at nK
   obtain⟨b_z,o_z,r_z,YT,_,⟨q4,q5,q6,rfl,_⟩,YU,_⟩:=(hr.ext (St.cg ba)).at (ao (show m<ab.length by omega));have nj:ab[m].ring=aD ab m:=(cQ (by omega)).symm
   have MK:decide ((m:Int)<r)=true:=by simp;omega
   refine cS ?_;refine WP .r (PV.fI lq YT rfl rfl (by omega))<|nx ?_;refine WP .r (PV.ld1 (j:=0) ft YU rfl rfl)<|?_;exact(dt) (by first | (rw [nj,MK];rfl) | simp [*]) (ba)
  simp at nK
  have QT:¬(m<ab.length):=by omega
  exact(dt) (by first | (rw [nj,MK];rfl) | simp [*]) (ba)
 intro w5 bw;refine(aZ) (fun vp=>?_) fun vp=>?_
 ·
  simp at vp
  obtain⟨g3,g4⟩:=vp;refine qi ?_;refine fH (m+1) ⟨bw,⟨by omega,by omega,by rw [← Wa,← wP g4],trivial⟩⟩
 simp at vp
 have XW:(block ab nn).2=m:=by
  rw [Nr]
  show(eY ab (nn+1):Int)=m
  rw [← Wa,yT]
  rcases Nat.lt_or_ge m r with h0 | h0
  ·
   exact vp (by omega)
  exact o5 (by omega)
 refine bf ?_;refine(FL) ?_;exact⟨by rw [XV,XW],(St.cg bw)⟩
theorem tX{cell:Bool}{n:Int}(hr:il A w a r c ab) (hi:i<ab.length):CR prog 147 #[.slice a r c,.int .i64 (i:Int),.bool cell,.int .i64 n] w (.bool (iC ab i cell n)):=by
 have hle:=hr.le;have hlen:=hr.len;have lD:=cQ hi;have hbw:=IP hi
 have ht:gP ab i=if ab[i].ring=true then (block ab (i:Int)).2 else (block ab (i:Int)).1:=by unfold gP;rw [lD]
 refine enter func147 rfl ntmps147 rfl<|?_;have bd:=St.s0 w;refine(aZ) (fun g11=>?_) fun g11=>?_
 ·
  refine nx ?_;refine WC.nS (t:=8) (v:=.bool (decide (0≤n) && decide (n≤15))) bd ?_<|?_
  ·
   refine(dY) (fun g14=>?_) (fun g14=>?_)
   ·
    exact(iK) (by simp only [g14];first | rfl | simp) (bd)
   exact(iK) (by simp only [g14];first | rfl | simp) (bd)
  intro w1 st1;refine(cA) ?_;exact⟨by unfold iC;rw [if_pos g11],(St.cg st1)⟩
 refine(iz) (EH (n:=(i:Int)) (hr.ext (St.cg bd))) bd fun w1 s1 st1=>?_;refine kQ ?_;obtain⟨Tt,Tu,Tv,lU,_,⟨q1,q2,q3,rfl,_⟩,ot,_⟩:=(hr.ext (St.cg st1)).at (ao hi);refine WC.nS (t:=8) (v:=.bool (decide (0≤n) && decide (n<gP ab i))) st1 ?_<|?_
 ·
  refine(dY) (fun kz=>?_) (fun kz=>?_)
  ·
   refine(dY) (fun lQ=>?_) (fun lQ=>?_)
   ·
    refine bf ?_;exact(iK) (by rw [ht];first | (simp [kz,lQ];done) | (simp at kz lQ;simp [kz,lQ];done) | (simp at kz lQ ⊢;split <;> omega) | (simp at kz lQ;simp [kz,lQ];omega)) (st1)
   refine cS ?_;refine WP .r (PV.fI lq lU rfl rfl (by omega))<|nx ?_;refine WP .r (PV.ld1 (j:=0) ft ot rfl rfl)<|(dY) (fun gT=>?_) (fun gT=>?_)
   ·
    exact(iK) (by rw [ht];first | (simp [kz,lQ,gT];done) | (simp at kz lQ gT;simp [kz,lQ,gT];done) | (simp at kz lQ gT ⊢;split <;> omega) | (simp at kz lQ gT;simp [kz,lQ,gT];omega)) (st1)
   exact(iK) (by rw [ht];first | (simp [kz,lQ,gT];done) | (simp at kz lQ gT;simp [kz,lQ,gT];done) | (simp at kz lQ gT ⊢;split <;> omega) | (simp at kz lQ gT;simp [kz,lQ,gT];omega)) (st1)
  refine bf ?_;exact(iK) (by rw [ht];first | (simp [kz];done) | (simp at kz;simp [kz];done) | (simp at kz ⊢;split <;> omega) | (simp at kz;simp [kz];omega)) (st1)
 intro w2 st2;refine(cA) ?_;exact⟨by unfold iC;rw [g11];rfl,(St.cg st2)⟩
theorem uX{k:Nat}{x:Ask}(hr:il A w a r c ab) (hi:i<ab.length):CR prog 117 #[.slice a r c,.int .i64 (i:Int),x.val,.bool (decide ((k:Int)=0))] w (.bool (gG ab i ab[i].ring k x)):=by
 have hle:=hr.le;have hlen:=hr.len;obtain⟨Tt,Tu,Tv,lU,_,⟨q1,q2,q3,rfl,_⟩,ot,_⟩:=hr.at (ao hi);have Nt:(gG ab i ab[i].ring k x)=(iC ab i x.cell x.n && (if x.pick then !ab[i].ring && decide (k≠0) && iC ab i x.cell x.Ix else decide (x.Ix=0))):=rfl;rw [Nt]
 clear Nt
 have NC:decide ((k:Int)=0)=decide (k=0):=by simp
 refine enter func117 rfl ntmps117 rfl<|?_;have bd:=St.s0 w;refine(fo) bd fun b6 w1 mD eE st1=>?_;refine ek ?_;refine WC.fL (t:=30) (v:=.bool ((x.pick && (ab[i].ring || decide (k=0))) || !iC ab i x.cell x.n)) st1 ?_<|?_
 ·
  refine(bL) ft st1.b0<|(dY) (fun g11=>?_) (fun g11=>?_)
  ·
   refine cS ?_;refine WP .r (PV.fI lq lU rfl rfl (by omega))<|nx ?_;refine WP .r (PV.ld1 (j:=0) ft (bH ot (St.cg st1) (by simp)) rfl rfl)<|(dY) (fun g17=>?_) (fun g17=>?_)
   ·
    refine bf ?_;exact(dt) (by first | (simp only [g11,g17,← NC];rfl) | (simp [g11,g17,NC];done) | (simp at g11 g17;simp [g11,g17,NC];done) | (simp at g11 g17;simp_all;done)) (st1)
   refine(dY) (fun g21=>?_) (fun g21=>?_)
   ·
    exact(dt) (by first | (simp only [g11,g17,g21,← NC];rfl) | (simp [g11,g17,g21,NC];done) | (simp at g11 g17 g21;simp [g11,g17,g21,NC];done) | (simp at g11 g17 g21;simp_all;done)) (st1)
   refine(bL) ft st1.b0<|(bL) aT st1.b0<|(iz) (tX (cell:=x.cell) (n:=x.n) (hr.ext (St.cg st1)) hi) st1 fun w2 s2 st2=>?_;exact(dt) (by first | (simp only [g11,g17,g21,← NC];rfl) | (simp [g11,g17,g21,NC];done) | (simp at g11 g17 g21;simp [g11,g17,g21,NC];done) | (simp at g11 g17 g21;simp_all;done)) (st2)
  refine bf ?_;refine(bL) ft st1.b0<|(bL) aT st1.b0<|(iz) (tX (cell:=x.cell) (n:=x.n) (hr.ext (St.cg st1)) hi) st1 fun w2 s2 st2=>?_;exact(dt) (by first | (simp only [g11,← NC];rfl) | (simp [g11,NC];done) | (simp at g11;simp [g11,NC];done) | (simp at g11;simp_all;done)) (st2)
 intro w2 st2;refine(aZ) (fun lQ=>?_) fun lQ=>?_
 ·
  refine(cA) ?_;exact⟨by cases hm:iC ab i x.cell x.n <;> cases hp:x.pick <;> cases hg:ab[i].ring <;> by_cases h0:k=0 <;> simp_all,(St.cg st2)⟩
 refine(bL) ft st2.b0<|(aZ) (fun jD=>?_) fun jD=>?_
 ·
  simp at jD
  refine(bL) aT st2.b0<|(cA) ?_;exact⟨by cases hm:iC ab i x.cell x.n <;> simp_all,(St.cg st2)⟩
 simp at jD
 refine(bL) ft st2.b0<|(bL) aT st2.b0<|(iz) (tX (cell:=x.cell) (n:=x.Ix) (hr.ext (St.cg st2)) hi) st2 fun w3 s3 aW=>?_;refine(cA) ?_;exact⟨by cases hm:iC ab i x.cell x.n <;> cases hg:ab[i].ring <;> by_cases h0:k=0 <;> simp_all,(St.cg aW)⟩
theorem AU(hr:il A w a r c ab) (hR:aw ab):CR prog 82 #[.slice a r c] w (.bool true):=by
 have hle:=hr.le;have hlen:=hr.len;have rT:=hR.1;refine enter func82 rfl ntmps82 rfl<|?_;have bd:=St.s0 w;refine bf ?_;refine(aZ) (fun g12=>?_) fun g12=>?_
 ·
  exact gW g12
 ·
  refine vE ?_;refine WC.ct (σ:=Nat) (eJ:=fun i=>[(0,.slice a r c),(13,.slice a r c),(14,.int .i64 (r:Int)),(15,.int .i64 (i:Int))]) (F:=fun i=>[]) (I:=fun i=>(i≤r)∧True) (μ:=fun i=>r - i) (0) (bd) Sub.t (⟨by omega,trivial⟩)<|?_;rintro i w1 st1 ⟨hi,_⟩;simp only [CA,NA] at st1 hi ⊢;refine(aZ) (fun g16=>?_) fun g16=>?_
  ·
   simp at g16
   have cV:i<ab.length:=by omega
   obtain⟨akH,Tw,MW⟩:=hR.2 i _ (ao cV)
   unfold jB at MW
   obtain⟨Tt,Tu,Tv,lU,_,⟨q1,q2,q3,rfl,oN⟩,ot,_⟩:=hr.at (ao cV);have th:=oN.len;refine gN ?_;refine WP .r (PV.fI lq lU rfl rfl (by omega))<|(bz) xo (bH ot (St.cg st1) (by simp))<|(gu) st1 fun b4 w2 jK bG st2=>?_;refine(dD) Jt st2 fun w3 jY j7 aW=>?_;refine bf ?_;refine(bL) ft aW.b0<|(aZ) (fun g21=>?_) fun g21=>?_
   ·
    rw [if_pos g21] at MW
    simp at MW
    refine kQ ?_;refine WC.fL (t:=48) (v:=.bool false) aW ?_<|?_
    ·
     refine(bL) mW aW.b0<|(dY) (fun kz=>?_) (fun kz=>?_)
     ·
      refine bf ?_;exact(dt) (tG kz) (aW)
     refine(bL) aT aW.b0<|(dY) (fun rI=>?_) (fun rI=>?_)
     ·
      refine bf ?_;exact(dt) (tG (aj kz rI)) (aW)
     refine(bL) aT aW.b0<|(dY) (fun wD=>?_) (fun wD=>?_)
     ·
      exact(dt) (tG (aj kz<|aj rI wD)) (aW)
     refine(bL) aT aW.b0<|(dY) (fun nK=>?_) (fun nK=>?_)
     ·
      exact(dt) (tG (aj kz<|aj rI<|aj wD nK)) (aW)
     refine(bL) aT aW.b0<|?_;exact(dt) (tG (aj kz<|aj rI<|aj wD nK)) (aW)
    intro w4 ba;refine(aZ) (fun oi=>?_) fun oi=>?_
    ·
     exact gW oi
    refine(bL) mW ba.b0<|ek ?_;refine WC.ct (σ:=Nat) (eJ:=fun k=>[(0,.slice a r c),(3,.int .i64 (i:Int)),(13,.slice a r c),(14,.int .i64 (r:Int)),(15,.int .i64 (i:Int)),(50,.slice q1 q2 q3),(51,.int .i64 (q2:Int)),(52,.int .i64 (k:Int))]) (F:=fun k=>[]) (I:=fun k=>(k≤q2)∧True) (μ:=fun k=>q2 - k) (0) (ba) Sub.t (⟨by omega,trivial⟩)<|?_;rintro k w5 bw ⟨hk,_⟩;simp only [CA,NA] at bw hk ⊢;refine(aZ) (fun wu=>?_) fun wu=>?_
    ·
     simp at wu
     have nj:k<ab[i].asks.length:=by omega
     obtain⟨b_y,o_y,r_y,AQ,_,rfl,AR,_⟩:=(oN.ext (St.cg bw)).at (ao nj);refine gN ?_;refine WP .r (PV.fI BI AQ rfl rfl (by omega))<|(bz) sw AR<|(gu) bw fun b9 w6 Q1 Bv bj=>?_;refine(dD) Ju bj fun w7 sC nt bX=>?_;refine(bz) sw bX.b0<|cS ?_;refine WL.c1 (u:=.bool true) (uX (k:=k) (x:=ab[i].asks[k]) (hr.ext (St.cg bX)) cV) (by rw [show gG ab i ab[i].ring k ab[i].asks[k]=true from Tw k _ (ao nj)]) bX fun w8 s8 bV=>?_;refine dE ?_;refine WC.j0 rfl<|gN ?_;refine fH (k+1) ⟨bV.drop,⟨by omega,trivial⟩⟩
    simp at wu
    refine nT ?_;refine fH (i+1) ⟨bw.drop,⟨by omega,trivial⟩⟩
   rw [if_neg (by simp [g21])] at MW
   simp at MW
   refine dW ?_;refine WC.fL (t:=48) (v:=.bool false) aW ?_<|?_
   ·
    refine(bL) mW aW.b0<|(dY) (fun kz=>?_) (fun kz=>?_)
    ·
     refine bf ?_;exact(dt) (tG kz) (aW)
    refine(bL) aT aW.b0<|(dY) (fun rI=>?_) (fun rI=>?_)
    ·
     refine bf ?_;exact(dt) (tG (aj kz rI)) (aW)
    refine(bL) aT aW.b0<|(dY) (fun wD=>?_) (fun wD=>?_)
    ·
     exact(dt) (tG (aj kz<|aj rI wD)) (aW)
    refine(bL) aT aW.b0<|(dY) (fun nK=>?_) (fun nK=>?_)
    ·
     exact(dt) (tG (aj kz<|aj rI<|aj wD nK)) (aW)
    refine(bL) aT aW.b0<|?_;exact(dt) (tG (aj kz<|aj rI<|aj wD nK)) (aW)
   intro w4 ba;refine(aZ) (fun oi=>?_) fun oi=>?_
   ·
    exact gW oi
   refine(bL) mW ba.b0<|ek ?_;refine WC.ct (σ:=Nat) (eJ:=fun k=>[(0,.slice a r c),(3,.int .i64 (i:Int)),(13,.slice a r c),(14,.int .i64 (r:Int)),(15,.int .i64 (i:Int)),(50,.slice q1 q2 q3),(51,.int .i64 (q2:Int)),(52,.int .i64 (k:Int))]) (F:=fun k=>[]) (I:=fun k=>(k≤q2)∧True) (μ:=fun k=>q2 - k) (0) (ba) Sub.t (⟨by omega,trivial⟩)<|?_;rintro k w5 bw ⟨hk,_⟩;simp only [CA,NA] at bw hk ⊢;refine(aZ) (fun wu=>?_) fun wu=>?_
   ·
    simp at wu
    have nj:k<ab[i].asks.length:=by omega
    obtain⟨b_y,o_y,r_y,AQ,_,rfl,AR,_⟩:=(oN.ext (St.cg bw)).at (ao nj);refine gN ?_;refine WP .r (PV.fI BI AQ rfl rfl (by omega))<|(bz) sw AR<|(gu) bw fun b9 w6 Q1 Bv bj=>?_;refine(dD) Ju bj fun w7 BO ry bX=>?_;refine(bz) sw bX.b0<|cS ?_;refine WL.c1 (u:=.bool true) (uX (k:=k) (x:=ab[i].asks[k]) (hr.ext (St.cg bX)) cV) (by rw [show gG ab i ab[i].ring k ab[i].asks[k]=true from Tw k _ (ao nj)]) bX fun w8 s8 bV=>?_;refine dE ?_;refine WC.j0 rfl<|gN ?_;refine fH (k+1) ⟨bV.drop,⟨by omega,trivial⟩⟩
   simp at wu
   refine nT ?_;refine fH (i+1) ⟨bw.drop,⟨by omega,trivial⟩⟩
  simp at g16
  refine(cA) ?_;exact⟨rfl,(St.cg st1)⟩
 -- tN jf C63
theorem EJ(ht:nQ prog A w) (hn:n≤65535):CR prog 380 #[.string (itoa (n:Int))] w (.int .i64 (n:Int)):=by
 refine enter func380 rfl ntmps380 rfl<|?_;have bd:=St.s0 w;refine(iz) (G5 (n:=n) (by omega) w) bd fun w1 s1 st1=>?_;refine qi ?_;refine WC.fL (t:=25) (v:=.bool false) st1 ?_<|?_
 ·
  refine cS ?_;refine WP .r (PV.V7 Ee rfl)<|nx ?_;refine WL.i6 (t:=12) rfl (fun g12=>?_) (fun g12=>?_)
  ·
   refine bf ?_;exact(dt) (tG g12) (st1)
  refine dW ?_;refine WL.i6 (t:=16) rfl (fun g16=>?_) (fun g16=>?_)
  ·
   exact(dt) (tG (aj g12 g16)) (st1)
  refine dW ?_;refine WL.i6 (t:=20) rfl (fun g20=>?_) (fun g20=>?_)
  ·
   exact(dt) (tG (aj g12<|aj g16 g20)) (st1)
  refine(iz) (pw (n:=(n:Int)) (ht.ext (St.cg st1)) (by omega) (by omega)) st1 fun w2 s2 st2=>?_;exact(dt) (tG (aj g12<|aj g16 g20)) (st2)
 intro w2 st2;refine(aZ) (fun fb=>?_) fun fb=>?_
 ·
  exact gW fb
 refine(cA) ?_;exact⟨rfl,(St.cg st2)⟩
theorem EL(ht:nQ prog A w) (hs:s.size≤1000) (gV:∀n:Nat,n≤65535→s≠itoa (n:Int)):CR prog 380 #[.string s] w (.int .i64 0):=by
 refine enter func380 rfl ntmps380 rfl<|?_;have bd:=St.s0 w;refine(dj) US (P9 (s:=s) (ht.ext (St.cg bd)) hs) ?_;rintro _ w1 ⟨v,ok,ev,rfl,hv,eX,s1⟩;have st1:=bd.step s1;refine qi ?_;refine WC.fL (t:=25) (v:=.bool true) st1 ?_<|?_
 ·
  refine cS ?_;refine WP .r (PV.abr Ee rfl eX)<|(dY) (fun g12=>?_) (fun g12=>?_)
  ·
   refine bf ?_;exact(dt) (by first | (simp [g12];done) | (simp at g12 ⊢;intro e;exact gV v.toNat (by omega) (by rw [show((v.toNat:Nat):Int)=v by omega];exact e.symm))) (st1)
  refine(dY) (fun g16=>?_) (fun g16=>?_)
  ·
   exact(dt) (by first | (simp [g12,g16];done) | (simp at g12 g16 ⊢;intro e;exact gV v.toNat (by omega) (by rw [show((v.toNat:Nat):Int)=v by omega];exact e.symm))) (st1)
  refine(dY) (fun g20=>?_) (fun g20=>?_)
  ·
   exact(dt) (by first | (simp [g12,g16,g20];done) | (simp at g12 g16 g20 ⊢;intro e;exact gV v.toNat (by omega) (by rw [show((v.toNat:Nat):Int)=v by omega];exact e.symm))) (st1)
  refine(iz) (pw (n:=v) (ht.ext (St.cg st1)) (by omega) (by omega)) st1 fun w2 s2 st2=>?_;exact(dt) (by first | (simp [g12,g16,g20];done) | (simp at g12 g16 g20 ⊢;intro e;exact gV v.toNat (by omega) (by rw [show((v.toNat:Nat):Int)=v by omega];exact e.symm))) (st2)
 intro w2 st2;refine(aZ) (fun fb=>?_) fun fb=>?_
 ·
  refine(cA) ?_;exact⟨rfl,(St.cg st2)⟩
 exact gW fb
theorem xN(ht:nQ prog A w) (hs:s.size≤1000):CR prog 380 #[.string s] w (.int .i64 (dH s:Int)):=by
 by_cases h:∃n:Nat,n≤65535∧s=itoa (n:Int)
 ·
  obtain⟨n,hn,rfl⟩:=h;rw [gD hn];exact EJ ht hn
 have h0:∀n:Nat,n≤65535→s≠itoa (n:Int):=fun n hn e=>h ⟨n,hn,e⟩;rw [LV h0];exact EL ht hs h0
theorem BZ{kd:Int}{l:List Nat}(hl:Ints A w a r c (l.map fun x:Nat=>(x:Int))) (En:∀x∈l,x≤65535) (hr:r≤1000):CR prog 382 #[.int .i64 kd,.slice a r c] w (.int .i64 (eZ kd 0 l:Int)):=by
 have hle:=SR.le hl;have hlen:=SR.len hl;rw [List.length_map] at hlen;have BM:∀i,∀x∈l.take i,x≤65535:=fun i x hx=>En x (List.mem_of_mem_take hx);refine enter func382 rfl ntmps382 rfl<|?_;have bd:=St.s0 w;refine bf ?_;refine qi ?_;refine WC.ct (σ:=Nat) (eJ:=fun i=>[(0,.int .i64 kd),(5,.int .i64 (xT 0 (l.take i):Int)),(6,.int .i64 (wS 0 (l.take i):Int)),(7,.int .i64 (gz 0 (l.take i):Int)),(10,.slice a r c),(11,.int .i64 (r:Int)),(12,.int .i64 (i:Int))]) (F:=fun i=>[]) (I:=fun i=>(i≤r)∧True) (μ:=fun i=>r - i) (0) (bd) Sub.t (⟨by omega,trivial⟩)<|?_;rintro i w1 st1 ⟨hi,_⟩;simp only [CA,NA] at st1 hi ⊢;refine(aZ) (fun g13=>?_) fun g13=>?_
 ·
  simp at g13
  have cV:i<l.length:=by omega
  have Ij:i<(l.map fun x:Nat=>(x:Int)).length:=by simpa using cV
  have nt:=yv (c:=0) (BM i);have ry:=qq (c:=0) (by omega) (BM i);have vJ:=oD (c:=0) (by omega) (BM i);have hvi:=En l[i] (List.getElem_mem cV)
  have ee:(l.take i).length≤1000:=by rw [List.length_take];omega
  have e1:=Cw (c:=0) cV;have e2:=yV (c:=0) cV;have e3:=yW (c:=0) cV;refine ek ?_;obtain⟨Tt,Tu,Tv,lU,_,rfl,ot,_⟩:=(SR.ext hl (St.cg st1)).at (ao Ij);rw [List.getElem_map] at ot;refine nx ?_;refine WP .r (PV.fI Js lU rfl rfl (by omega))<|WP .r (PV.pF aT ot rfl rfl)<|qi ?_;refine WP .r (PV.N5 rfl rfl)<|cS ?_;refine WP .r (PV.orN rfl rfl (by omega) (by omega))<|nT ?_;refine fH (i+1) ⟨st1,⟨by omega,trivial⟩⟩
 simp at g13
 have cZ:l.take i=l:=List.take_of_length_le (by omega);rw [cZ];have nt:=yv (c:=0) En;have ry:=qq (c:=0) (by omega) En;have vJ:=oD (c:=0) (by omega) En
 have hll:l.length≤1000:=by omega
 refine bf ?_;refine(aZ) (fun ye=>?_) fun ye=>?_
 ·
  simp at ye
  refine(cA) ?_;exact⟨by unfold eZ;rw [if_pos ye,Int.tmod_eq_emod_of_nonneg (by omega)];rfl,(St.cg st1)⟩
 simp at ye
 refine(aZ) (fun rW=>?_) fun rW=>?_
 ·
  simp at rW
  refine dE ?_;refine WP .r (PV.quo rfl rfl (by omega) (by rw [Int.tdiv_eq_ediv_of_nonneg (by omega)];omega) (by rw [Int.tdiv_eq_ediv_of_nonneg (by omega)];omega))<|(cA) ?_;exact⟨by unfold eZ;rw [if_neg ye,if_pos rW,Int.tdiv_eq_ediv_of_nonneg (by omega),Int.tmod_eq_emod_of_nonneg (by omega)];rfl,(St.cg st1)⟩
 simp at rW
 refine(aZ) (fun gT=>?_) fun gT=>?_
 ·
  simp at gT
  refine(cA) ?_;exact⟨by unfold eZ;rw [if_neg ye,if_neg rW,if_pos gT],(St.cg st1)⟩
 simp at gT
 refine(aZ) (fun oZ=>?_) fun oZ=>?_
 ·
  simp at oZ
  refine(cA) ?_;exact⟨by unfold eZ;rw [if_neg ye,if_neg rW,if_neg gT,if_pos oZ,Int.tmod_eq_emod_of_nonneg (by omega)];rfl,(St.cg st1)⟩
 simp at oZ
 refine(cA) ?_;exact⟨by unfold eZ;rw [if_neg ye,if_neg rW,if_neg gT,if_neg oZ],(St.cg st1)⟩
set_option maxHeartbeats 1600000 in
theorem HB(ht:nQ prog A w) (hR:aw ab) (hi:i<ab.length) (hr:il B w a r c ab) (hl:Strs C w a2 r2 e2 ah) (hsz:∀s∈ah,s.size≤1000):CR prog 300 #[.slice a r c,(aN ab (i:Int)).val,.slice a2 r2 e2] w ((dw ab (aN ab (i:Int)) ah).val):=by
 have rT:=hR.len
 have lC:i≤99:=by omega
 have hle:=hr.le;have hlen:=hr.len;have Al:=hl.len;have iS:=hl.le
 obtain⟨kd,ND,hk⟩:∃kd:Int,(kd=31∨kd=32)∧aN ab (i:Int)=⟨kd,itoa i⟩:=by
  unfold aN
  rw [if_neg (by omega)]
  cases h:aD ab i
  ·
   exact⟨31,.inl rfl,by simp [h]⟩
  exact⟨32,.inr rfl,by simp [h]⟩
 have YV:=dy hi lC;obtain⟨akH,Tw,MW⟩:=hR.2 i _ (ao hi);have hcb:=aw.hb hR _ (List.getElem_mem hi);obtain⟨cc,hcc⟩:∃cc:Nat,ab[i].c=cc:=⟨ab[i].c.toNat,by omega⟩;obtain⟨Tt,Tu,Tv,lU,_,⟨q1,q2,q3,rfl,oN⟩,ot,_⟩:=hr.at (ao hi);rw [hcc] at ot;have th:=oN.len;rw [hk] at YV ⊢;refine enter func300 rfl ntmps300 rfl<|?_;have bd:=St.s0 w;refine(fo) bd fun b4 w1 jK bG st1=>?_;refine(gu) st1 fun b6 w2 mD eE st2=>?_;refine(bz) aq st2.b1<|(iz) (oq (k:=(⟨kd,itoa i⟩:Key)) ⟨by simp only [];omega,by simp only [];omega⟩ rfl lC) st2 fun w3 s3 aW=>?_;refine ek ?_;refine WC.fL (t:=30) (v:=.bool false) aW ?_<|?_
 ·
  have Q3:=aW.cY;refine WC.eQ (m:=12) (E:=dr [(10,fun v _=>v=(aN ab (i:Int)).val)]) aW (bM (⟨fun _ _ _ _ _ _ _ h=>h,trivial⟩)) mixed (by kernel_rfl)<|dE ?_;refine DW.i6 (t:=19) rfl (fun g19=>?_) (fun g19=>?_)
  ·
   refine(eh) ?_;rintro w4 ⟨pA,ba⟩ _;exact(dt) (by first | rfl | (simp [g19,hk];done) | (simp [g19,hk];omega) | (simp only [g19];done) | (simp only [g19];rfl) | (simp [g19];done) | (simp;done) | (simp at g19 ⊢ <;> omega) | (simp <;> omega) | (simp [g19] <;> omega) | (simp at g19 <;> omega)) (ba)
  refine(lI) aT St.g1<|dE ?_;refine DW.i6 (t:=24) rfl (fun g24=>?_) (fun g24=>?_)
  ·
   refine(eh) ?_;rintro w4 ⟨pA,ba⟩ _;exact(dt) (by first | rfl | (simp [g19,g24,hk];done) | (simp [g19,g24,hk];omega) | (simp only [g19,g24];done) | (simp only [g19,g24];rfl) | (simp [g19,g24];done) | (simp;done) | (simp at g19 g24 ⊢ <;> omega) | (simp <;> omega) | (simp [g19,g24] <;> omega) | (simp at g19 g24 <;> omega)) (ba)
  refine cS ?_;refine DW.c0 (fun wx hC hF=>rK (n:=(i:Int)) (hr.ext (St.cg hC.2)))<|(jj) aq St.g1<|(eh)<|?_;rintro w4 ⟨pA,ba⟩ ⟨_,_⟩;refine WP .r (PV.Nj gS (p:=aN ab (i:Int)) (q:=(⟨kd,itoa i⟩:Key)) rfl rfl)<|?_;exact(dt) (by first | rfl | (simp [g19,g24,hk];done) | (simp [g19,g24,hk];omega) | (simp only [g19,g24];done) | (simp only [g19,g24];rfl) | (simp [g19,g24];done) | (simp;done) | (simp at g19 g24 ⊢ <;> omega) | (simp <;> omega) | (simp [g19,g24] <;> omega) | (simp at g19 g24 <;> omega)) (ba)
 intro w4 ba;refine(aZ) (fun lQ=>?_) fun lQ=>?_
 ·
  exact gW lQ
 refine ji ?_;refine WP .r (PV.Ko lq (i:=i) lU rfl rfl (by omega) (by omega))<|(bz) xo (bH ot (St.cg ba) (by simp))<|(gu) ba fun b8 w5 BN iX bw=>?_;refine(dD) Jt bw fun w6 jY j7 bj=>?_;refine bf ?_;refine(bL) mW bj.b0<|(aZ) (fun lW=>?_) fun lW=>?_
 ·
  simp at lW
  have hn:r2<ab[i].asks.length:=by omega
  have hv:=oF (ah:=ah) YV hi (by rw [YV];exact hk) (show ah.length<ab[i].asks.length by omega);simp only [← Al] at hv
  have YW:r2=0→ab[i].asks[r2].pick=false:=fun h0=>by
   have:=Tw r2 _ (ao hn)
   cases hp:ab[i].asks[r2].pick
   ·
    rfl
   unfold gG at this
   rw [hp] at this
   simp [h0] at this
  refine nx ?_;obtain⟨b_y,o_y,r_y,AQ,_,rfl,AR,_⟩:=(oN.ext (St.cg bj)).at (ao hn);refine(bL) mW bj.b0<|nx ?_;refine WP .r (PV.fI BI AQ rfl rfl (by omega))<|(bz) sw AR<|(gu) bj fun iJ w7 lz fE bX=>?_;refine(dD) Ju bX fun w8 sC nt bV=>?_;refine(bL) aT bV.b0<|ek ?_;refine WC.fL (t:=65) (v:=.bool (gF ab[i].asks[r2] ah)) bV ?_<|?_
  ·
   refine(bL) ft bV.b0<|nx ?_;refine WL.i6 (t:=52) rfl (fun YX=>?_) (fun YX=>?_)
   ·
    refine dW ?_;refine WL.i6 (t:=56) rfl (fun MX=>?_) (fun MX=>?_)
    ·
     simp at MX
     obtain⟨b_z,o_z,r_z,YT,_,rfl,YU,_⟩:=(hl.ext (St.cg bV)).at (ao (show r2 - 1<ah.length by omega))
     have kM:gF ab[i].asks[r2] ah=decide ((dH ah[r2 - 1]:Int).tmod 2=0):=by
      unfold gF
      simp only [YX,← Al,Bool.true_and];rw [decide_eq_false (by omega),Bool.false_or,getElem!_pos ah (r2 - 1) (by omega),Int.tmod_eq_emod_of_nonneg (by omega)]
      congr 1
      exact propext ⟨fun h=>by omega,fun h=>by omega⟩
     refine dE ?_;refine WP .r (PV.Ko sy (i:=r2 - 1) YT rfl rfl (by omega) (by omega))<|WP .r (PV.pF iG YU rfl rfl)<|(iz) (xN (s:=ah[r2 - 1]) (ht.ext (St.cg bV)) (hsz _ (List.getElem_mem _))) bV fun w9 s9 cq=>?_;exact(dt) (by rw [kM]) (cq)
    exact absurd (YW (by simp at MX;omega)) (by simp [YX])
   have kM:gF ab[i].asks[r2] ah=false:=by unfold gF;rw [YX];rfl
   refine bf ?_;exact(dt) (by rw [kM]) (bV)
  intro w9 cq;refine(aZ) (fun Es=>?_) fun Es=>?_
  ·
   have Dj:sZ ab[i].asks[r2] ah=ab[i].asks[r2].Ix:=by unfold sZ;rw [if_pos Es]
   refine(bL) aT cq.b0<|(bL) ft cq.b0<|(aZ) (fun YY=>?_) fun YY=>?_
   ·
    rw [Dj,if_pos YY] at hv;refine(iz) (xM) cq fun kB ob aL=>?_;refine WP .r (PV.bW (us:=[.bool false,.string ⟨#[]⟩,.int .i64 (du _).kind,.string (du _).text]) pR rfl rfl rfl)<|(dD) iU aL.p2 fun kC BO ry aO=>?_;refine(mz) kx aO.b0<|?_;rw [hv];exact⟨rfl,(St.cg aO)⟩
   rw [Dj,if_neg (by simp [YY])] at hv;refine(iz) (rK (hr.ext (St.cg cq))) cq fun kB ob aL=>?_;refine WP .r (PV.bW (us:=[.bool false,.string ⟨#[]⟩,.int .i64 (aN ab _).kind,.string (aN ab _).text]) pR rfl rfl rfl)<|(dD) iU aL.p2 fun kC Q5 vJ aO=>?_;refine(mz) kx aO.b0<|?_;rw [hv];exact⟨rfl,(St.cg aO)⟩
  have Dj:sZ ab[i].asks[r2] ah=ab[i].asks[r2].n:=by unfold sZ;rw [if_neg (by simp [Es])]
  refine(bL) ft cq.b0<|(aZ) (fun YY=>?_) fun YY=>?_
  ·
   rw [Dj,if_pos YY] at hv;refine(iz) (xM) cq fun kB ob aL=>?_;refine WP .r (PV.bW (us:=[.bool false,.string ⟨#[]⟩,.int .i64 (du _).kind,.string (du _).text]) pR rfl rfl rfl)<|(dD) iU aL.p2 fun kC Ra Gk aO=>?_;refine(mz) kx aO.b0<|?_;rw [hv];exact⟨rfl,(St.cg aO)⟩
  rw [Dj,if_neg (by simp [YY])] at hv;refine(iz) (rK (hr.ext (St.cg cq))) cq fun kB ob aL=>?_;refine WP .r (PV.bW (us:=[.bool false,.string ⟨#[]⟩,.int .i64 (aN ab _).kind,.string (aN ab _).text]) pR rfl rfl rfl)<|(dD) iU aL.p2 fun kC U3 U4 aO=>?_;refine(mz) kx aO.b0<|?_;rw [hv];exact⟨rfl,(St.cg aO)⟩
 simp at lW
 have hv:=oE (ah:=ah) YV hi (by rw [YV];exact hk) (show ab[i].asks.length≤ah.length by omega);rw [← th,hcc,Int.toNat_natCast] at hv
 have En:∀x∈(ah.take q2).map dH,x≤65535:=fun x hx=>by obtain⟨s,_,rfl⟩:=List.mem_map.1 hx;exact nG s
 have hfl:=rz (kind:=ab[i].final) (c:=cc) (l:=(ah.take q2).map dH) (by omega) En
 have hll:((ah.take q2).map dH).length=q2:=by rw [List.length_map,List.length_take];omega
 refine(bL) aT bj.b0<|?_;refine WL.go rfl (OX.aR (us:=[.int .i64 (cc:Int)]) O9 rfl rfl rfl rfl fun b79 w7 aey akI=>?_);have bX:=St.tc (R:=RR.int) (E:=3) (k:=1) (a:=some ⟨b79,0,none⟩) (n:=1) (c:=1) (xs:=[(cc:Int)]) bj aey.ext (OR.ew akI (Nat.zero_le _) rfl (by simp [Value.oneCell']) rfl) (fun x hx=>by simp [aI] at hx;subst hx;exact aey.ge);refine(bL) mW bX.b1<|nx ?_;refine WP .r (PV.yS sy (hl.ext (St.cg bX)) rfl rfl (by omega))<|ek ?_;refine WC.ct (σ:=Nat × (Option Addr) × Nat × Nat) (eJ:=fun(j,MY,HC,MZ)=>[(6,.pointer (some ⟨b6,0,none⟩)),(8,.pointer (some ⟨b8,0,none⟩)),(12,.slice MY HC MZ),(84,.slice a2 q2 e2),(85,.int .i64 (q2:Int)),(86,.int .i64 (j:Int))]) (F:=fun(j,MY,HC,MZ)=>[As.os RR.int 3 1 MY HC MZ ((((cc::((ah.take q2).map dH).take j)).map fun x:Nat=>(x:Int)))]) (I:=fun(j,MY,HC,MZ)=>(j≤q2)∧True) (μ:=fun(j,MY,HC,MZ)=>q2 - j) (0,(some ⟨b79,0,none⟩),1,1) (bX) Sub.t (⟨by omega,trivial⟩)<|?_;rintro⟨j,MY,HC,MZ⟩ w8 bV ⟨hj,_⟩;simp only [CA,NA] at bV hj ⊢;have l4:=((As.gs bV.g0)).len
 have JT:HC≤1+j:=by have h0:=l4;simp at h0;omega
 refine(aZ) (fun P6=>?_) fun P6=>?_
 ·
  simp at P6
  have kR:j<ah.length:=by omega
  obtain⟨b_u,o_u,r_u,akJ,_,rfl,akK,_⟩:=(hl.ext (St.cg bV)).at (ao kR);refine ji ?_;refine WP .r (PV.fI sy akJ rfl rfl (by omega))<|WP .r (PV.pF iG akK rfl rfl)<|(iz) (xN (s:=ah[j]) (ht.ext (St.cg bV)) (hsz _ (List.getElem_mem _))) bV fun w9 s9 cq=>?_;refine WL.go rfl (OX.aR (us:=[.int .i64 (dH ah[j]:Int)]) O9 rfl rfl rfl rfl fun b93 kB YZ Y0=>?_);have aL:=cq.eF YZ Y0;refine WL.ap rfl rfl aL.p1 (SR.ew (A:=fun _=>True) (x:=((dH ah[j]:Nat):Int)) (As.gb aL.g0) trivial rfl (by simp [Value.oneCell']) rfl) fun a94 akL kC arX arY aO=>?_;refine cS ?_;have aS:=aO.Ub (show(((((cc::((ah.take q2).map dH).take j)).map fun x:Nat=>(x:Int)))++[((dH ah[j]:Nat):Int)])=(((cc::((ah.take q2).map dH).take (j+1))).map fun x:Nat=>(x:Int)) by rw [List.take_succ_eq_append_getElem (by omega),← List.cons_append,List.map_append,List.getElem_map,List.getElem_take];rfl);refine ji ?_;refine fH (j+1,a94,(HC+1),akL) ⟨aS.p1.drop,⟨by omega,trivial⟩⟩
 simp at P6
 have hje:((ah.take q2).map dH).take j=(ah.take q2).map dH:=List.take_of_length_le (by omega);have cq:=bV.Ub (show(((cc::((ah.take q2).map dH).take j)).map fun x:Nat=>(x:Int))=(((cc::(ah.take q2).map dH)).map fun x:Nat=>(x:Int)) by rw [hje]);refine(bL) aT cq.b1<|nx ?_;refine WL.c1 (u:=.int .i64 ((eZ ab[i].final cc ((ah.take q2).map dH)):Int)) (BZ (kd:=ab[i].final) (l:=cc::(ah.take q2).map dH) (Ow.rd (As.gs cq.g0) (by simp;omega)) (fun x hx=>by rcases List.mem_cons.1 hx with rfl | hx;omega;exact En x hx) (by omega)) (by rw [Gx]) cq fun w9 s9 aL=>?_;refine(iz) (pw (n:=((eZ ab[i].final cc ((ah.take q2).map dH)):Int)) (ht.ext (St.cg aL)) (by omega) (by omega)) aL fun kB ob aO=>?_;refine WP .r (PV.bW (us:=[.bool true,.string (itoa ((eZ ab[i].final cc ((ah.take q2).map dH)):Int)),.int .i64 0,.string ⟨#[]⟩]) pR rfl rfl rfl)<|(dD) iU aO.p2 fun kC Yy Yz aS=>?_;refine(mz) kx aS.b0<|?_;rw [hv];exact⟨rfl,(St.cg aS)⟩
theorem sG(ht:nQ prog A w) (hR:aw ab) (hi:i<ab.length) (hr:il B w a r c ab) (hl:Strs C w a2 r2 e2 ah) (hsz:∀s∈ah,s.size≤1000):CR prog 210 #[.slice a r c,(aN ab (i:Int)).val,.slice a2 r2 e2] w ((dw ab (aN ab (i:Int)) ah).val):=by
 have rT:=hR.len;have ND:=fM hi (by omega);refine enter func210 rfl ntmps210 rfl<|?_;have bd:=St.s0 w;refine(fo) bd fun b4 w1 jK bG st1=>?_;refine(gu) st1 fun b6 w2 mD eE st2=>?_;refine(bz) aq st2.b1<|?_;refine WL.c1 (u:=.bool true) (qT (k:=aN ab (i:Int))) (by rw [show(decide ((aN ab (i:Int)).kind=31) || decide ((aN ab (i:Int)).kind=32))=true by(rw [ND];split <;> simp)]) st2 fun w3 s3 aW=>?_;refine dE ?_;refine WC.Ck rfl<|(bz) aq aW.b1<|(iz) (HB (ht.ext (St.cg aW)) hR hi (hr.ext (St.cg aW)) (hl.ext (St.cg aW)) hsz) aW fun w4 s4 ba=>?_;refine(dD) iU ba fun w5 jY j7 bw=>?_;refine(mz) kx bw.b0<|?_;exact⟨rfl,(St.cg bw)⟩
theorem uY(hk:k.kind=32):CR prog 208 #[k.val] w (.string ⟨#[48]⟩):=by
 refine enter func208 rfl ntmps208 rfl<|?_;have bd:=St.s0 w;refine(fo) bd fun b1 w1 oY dN st1=>?_;refine(bL) aT st1.b0<|(aZ) (fun g3=>?_) fun g3=>?_
 ·
  skip
  refine(cA) ?_;exact⟨rfl,(St.cg st1)⟩
 exact absurd g3 (by simp [hk])
theorem B0(hi:i<ab.length) (lC:i≤99) (hr:il B w a r c ab):CR prog 86 #[.slice a r c,(aN ab (i:Int)).val] w (.bool true):=by
 have ND:=fM hi lC
 have Vc:(aN ab (i:Int)).text=itoa i:=by unfold aN;rw [if_neg (by omega)]
 have xa:30≤(aN ab (i:Int)).kind∧(aN ab (i:Int)).kind≤32:=by rw [ND];split <;> omega
 refine enter func86 rfl ntmps86 rfl<|?_;have bd:=St.s0 w;refine(fo) bd fun b3 w1 iR dL st1=>?_;refine dW ?_;have AA:=st1.cY;refine WC.eQ (m:=12) (E:=dr [(1,fun v _=>v=.bool true),(4,fun v _=>v=.bool true),(9,fun v _=>v=.int .i64 (i:Int)),(10,fun v _=>v=(aN ab (i:Int)).val)]) st1 (bM (⟨fun _ _ _ _ _ _ _ h=>h,⟨fun _ _ _ _ _ _ _ h=>h,⟨fun _ _ _ _ _ _ _ h=>h,⟨fun _ _ _ _ _ _ _ h=>h,trivial⟩⟩⟩⟩)) mixed (by kernel_rfl)<|(jj) aq St.g0<|?_;refine DW.c0 (fun wx hC hF=>jG (k:=aN ab (i:Int)) xa Vc lC)<|(jj) aq St.g0<|?_;refine DW.c1 (u:=.bool true) (fun wx hC hF=>qT (k:=aN ab (i:Int))) (by rw [show(decide ((aN ab (i:Int)).kind=31) || decide ((aN ab (i:Int)).kind=32))=true by(rw [ND];split <;> simp)])<|(jj) aq St.g0<|?_;refine DW.c0 (fun wx hC hF=>oq (k:=aN ab (i:Int)) xa Vc lC)<|?_;refine DW.c0 (fun wx hC hF=>rK (n:=(i:Int)) (hr.ext (St.cg hC.2)))<|(jj) aq St.g0<|(eh)<|?_;rintro w2 ⟨fx,st2⟩ ⟨_,⟨_,⟨_,⟨_,_⟩⟩⟩⟩;refine WP .r (PV.Kp gS (p:=aN ab (i:Int)) (q:=aN ab (i:Int)) rfl rfl)<|(cA) ?_;exact⟨by simp,(St.cg st2)⟩
set_option maxHeartbeats 400000
theorem sH{xs:List Key}(bJ:St w M Z w []) (hl:Rd RR.key 2 Z w a n c xs) (h6:xs.length≤1000000):Calls prog 157 #[.slice a n c] w fun e w'=>∃a' n' c',e=.returned (.slice a' n' c')∧St w M Z w' [As.os RR.key 39 2 a' n' c' xs]:=by
 have hlen:=hl.len;refine enter func157 rfl ntmps157 rfl<|?_;have bd:=bJ;have st1:=bd.fr hl;refine(aZ) (fun g4=>?_) fun g4=>?_
 ·
  simp at g4
  subst g4;have hx:=hl.y7;subst hx;have st2:=st1.eP RR.key 39 2;refine(cA) ?_;exact⟨none,0,0,rfl,st2.p1.drop⟩
 refine dW ?_;refine WL.go rfl (OX.DI UD aiq rfl fun b5 w1 nq gy=>?_);have st2:=St.tc (R:=RR.key) (E:=39) (k:=2) (a:=some ⟨b5,0,none⟩) (n:=0) (c:=0) (xs:=[]) st1 nq.ext (OR.V8 gy (Nat.zero_le _)) (fun x hx=>by simp [aI] at hx;subst hx;exact nq.ge);refine nx ?_;refine WL.ap rfl rfl st2 ((As.gr st2.g1)) fun a7 c'7 w2 hf7 hn7 aW=>?_;refine(cA) ?_;exact⟨_,_,_,rfl,aW.p1.drop⟩
theorem B1{xs:List Rec}(bJ:St w M Z w []) (hl:Rd RR.fV 8 Z w a n c xs) (h6:xs.length≤1000000):Calls prog 155 #[.slice a n c] w fun e w'=>∃a' n' c',e=.returned (.slice a' n' c')∧St w M Z w' [As.os RR.fV 48 8 a' n' c' xs]:=by
 have hlen:=hl.len;refine enter func155 rfl ntmps155 rfl<|?_;have bd:=bJ;have st1:=bd.fr hl;refine(aZ) (fun g4=>?_) fun g4=>?_
 ·
  simp at g4
  subst g4;have hx:=hl.y7;subst hx;have st2:=st1.eP RR.fV 48 8;refine(cA) ?_;exact⟨none,0,0,rfl,st2.p1.drop⟩
 refine dW ?_;refine WL.go rfl (OX.DI UC air rfl fun b5 w1 nq gy=>?_);have st2:=St.tc (R:=RR.fV) (E:=48) (k:=8) (a:=some ⟨b5,0,none⟩) (n:=0) (c:=0) (xs:=[]) st1 nq.ext (OR.V8 gy (Nat.zero_le _)) (fun x hx=>by simp [aI] at hx;subst hx;exact nq.ge);refine nx ?_;refine WL.ap rfl rfl st2 ((As.gr st2.g1)) fun a7 c'7 w2 hf7 hn7 aW=>?_;refine(cA) ?_;exact⟨_,_,_,rfl,aW.p1.drop⟩
theorem B2{xs:List dB}(bJ:St w M Z w []) (hl:Rd RR.aF 4 Z w a n c xs) (h6:xs.length≤1000000):Calls prog 128 #[.slice a n c] w fun e w'=>∃a' n' c',e=.returned (.slice a' n' c')∧St w M Z w' [As.os RR.aF 102 4 a' n' c' xs]:=by
 have hlen:=hl.len;refine enter func128 rfl ntmps128 rfl<|?_;have bd:=bJ;have st1:=bd.fr hl;refine(aZ) (fun g4=>?_) fun g4=>?_
 ·
  simp at g4
  subst g4;have hx:=hl.y7;subst hx;have st2:=st1.eP RR.aF 102 4;refine(cA) ?_;exact⟨none,0,0,rfl,st2.p1.drop⟩
 refine dW ?_;refine WL.go rfl (OX.DI UB acu rfl fun b5 w1 nq gy=>?_);have st2:=St.tc (R:=RR.aF) (E:=102) (k:=4) (a:=some ⟨b5,0,none⟩) (n:=0) (c:=0) (xs:=[]) st1 nq.ext (OR.V8 gy (Nat.zero_le _)) (fun x hx=>by simp [aI] at hx;subst hx;exact nq.ge);refine nx ?_;refine WL.ap rfl rfl st2 ((As.gr st2.g1)) fun a7 c'7 w2 hf7 hn7 aW=>?_;refine(cA) ?_;exact⟨_,_,_,rfl,aW.p1.drop⟩
theorem J5{x:Rec}(bJ:St w M Z w []) (hk:Rd RR.key 2 Z w a n c x.reads) (h4:x.reads.length≤4000):Calls prog 156 #[.agg (x.row a n c).toArray] w fun e w'=>∃a' n' c',e=.returned (.agg (x.row a' n' c').toArray)∧St w M Z w' [As.os RR.key 39 2 a' n' c' x.reads]:=by
 refine enter func156 rfl ntmps156 rfl<|?_;have bd:=bJ;have st1:=bd.fr hk;refine(fo) st1 fun b1 w1 oY dN st2=>?_;refine(gu) st2 fun b2 w2 nz fm aW=>?_;refine(bL) gK aW.b1<|?_;have ba:=aW;refine(dj) UT (sH ba.e0 (As.gr ba.g2) (by omega)) ?_;rintro _ w3 ⟨f1,f2,f3,rfl,eN⟩;have bw:=St.lr ba eN;refine nx ?_;refine WL.s1 bw.p2 fun w4 _ bj=>?_;refine(bz) ey bj.b0<|(dD) iH bj.p2 fun w5 jY j7 bX=>?_;refine(mz) ey bX.b0<|?_;exact⟨_,_,_,rfl,bX.p2.k1⟩
theorem B3{p:Rec→Bool}(Bz:CF prog f) (hl:Rd RR.fV 8 Z w a n c l) (hp:∀w1,aV [] w w1→∀x∈l,∀a n c,Rd RR.key 2 Z w1 a n c x.reads→Calls prog f #[.agg (x.row a n c).toArray,cap] w1 fun e w'=>e=.returned (.bool (p x))∧aV [] w1 w'):Calls prog 151 #[.slice a n c,.func (.func f) #[] #[cap]] w fun e w'=>∃j:Int,e=.returned (.int .i64 j)∧CO l p j∧aV [] w w':=by
 have hlen:=hl.len;have hle:=hl.le;refine enter func151 rfl ntmps151 rfl<|?_;have bd:=St.s0 w;refine bf ?_;refine cS ?_;refine WC.ct (σ:=Nat) (eJ:=fun i=>[(0,.slice a n c),(1,.func (.func f) #[] #[cap]),(7,.int .i64 (n:Int)),(8,.int .i64 (i:Int))]) (F:=fun i=>[]) (I:=fun i=>(i≤n)∧(∀j x,j<i→l[j]?=some x→p x=false)∧True) (μ:=fun i=>n - i) (0) (bd) Sub.t (⟨by omega,fun j x h=>by omega,trivial⟩)<|?_;rintro i w1 st1 ⟨hi,gV,_⟩;simp only [CA,NA] at st1 hi gV ⊢;refine(aZ) (fun g9=>?_) fun g9=>?_
 ·
  simp at g9
  have cV:i<l.length:=by omega
  refine vE ?_;obtain⟨ik,kf,jE,aU,fX,bD,cP,dM⟩:=Rd.at hl cV;obtain⟨q1,q2,q3,rfl,rJ,qP⟩:=bD;refine dW ?_;refine WP .r (PV.fI ky aU rfl rfl (by omega))<|(bz) ey (bH cP (St.cg st1) (by simp))<|?_;refine WL.go rfl (OX.uj Bz rfl rfl rfl ((Calls.cap (hp _ (St.cg st1) l[i] (List.getElem_mem cV) _ _ _ (rJ.ext (St.cg st1)))).mono ?_));rintro _ w2 ⟨rfl,s2⟩;refine⟨_,rfl,?_⟩;have st2:=st1.step s2;refine(aZ) (fun g16=>?_) fun g16=>?_
  ·
   refine(cA) ?_;exact⟨_,rfl,.inl ⟨i,_,ao cV,g16,gV,rfl⟩,(St.cg st2)⟩
  have g16:p l[i]=false:=by simpa using g16
  refine gN ?_;refine fH (i+1) ⟨st2,⟨by omega,dG cV gV (by simpa using g16),trivial⟩⟩
 simp at g9
 have cZ:∀x∈l,p x=false:=fun x hx=>by obtain⟨j,hj,rfl⟩:=List.getElem_of_mem hx;exact gV j _ (by omega) (ao hj)
 refine(cA) ?_;exact⟨_,rfl,.inr ⟨cZ,rfl⟩,(St.cg st1)⟩
theorem wE{p:Rec→Bool}(Bz:CF prog f) (hl:Rd RR.fV 8 Z w a n c l) (hp:∀w1,aV [] w w1→∀x∈l,∀a n c,Rd RR.key 2 Z w1 a n c x.reads→Calls prog f #[.agg (x.row a n c).toArray,cap] w1 fun e w'=>e=.returned (.bool (p x))∧aV [] w1 w') (gV:∀x∈l,p x=false):CR prog 121 #[.slice a n c,.func (.func f) #[] #[cap]] w (.bool false):=by
 refine enter func121 rfl ntmps121 rfl<|?_;have bd:=St.s0 w;refine(dj) ado (B3 (w:=w) Bz (hl.ext (St.cg bd)) (fun w1 h1=>hp w1 (aV.trans (St.cg bd) h1))) ?_;rintro _ w1 ⟨j,rfl,hj,s1⟩;have st1:=bd.step s1
 have Ut:j = -1:=by rcases hj with⟨i,x,h1,h2,_⟩ | ⟨_,h2⟩;exact absurd h2 (by simp [gV x (List.mem_of_getElem? h1)]);exact h2
 subst Ut;refine(cA) ?_;exact⟨by simp,(St.cg st1)⟩
theorem B4{l:List Key}(hl:Rd RR.key 2 Z w a n c l):Calls prog 68 #[.slice a n c,k.val] w fun e w'=>((k∈l∧∃i:Nat,e=.returned (.int .i64 (i:Int)))∨(k∉l∧e=.returned (.int .i64 (-1))))∧aV [] w w':=by
 have hlen:=hl.len;have hle:=hl.le;refine enter func68 rfl ntmps68 rfl<|?_;have bd:=St.s0 w;refine(fo) bd fun b3 w1 iR dL st1=>?_;refine bf ?_;refine WC.ct (σ:=Nat) (eJ:=fun i=>[(0,.slice a n c),(3,.pointer (some ⟨b3,0,none⟩)),(7,.int .i64 (n:Int)),(8,.int .i64 (i:Int))]) (F:=fun i=>[]) (I:=fun i=>(i≤n)∧(∀j x,j<i→l[j]?=some x→x≠k)∧True) (μ:=fun i=>n - i) (0) (st1) Sub.t (⟨by omega,fun j x h=>by omega,trivial⟩)<|?_;rintro i w2 st2 ⟨hi,gV,_⟩;simp only [CA,NA] at st2 hi gV ⊢;refine(aZ) (fun g9=>?_) fun g9=>?_
 ·
  simp at g9
  have cV:i<l.length:=by omega
  refine vE ?_;obtain⟨ik,kf,jE,aU,fX,bD,cP,dM⟩:=Rd.at hl cV;have bD:=RR.cy bD;subst bD;have U8:=st2.cY;refine WC.dS (m:=5) st2 mixed<|(jj) aq St.g0<|cS ?_;refine DP .r (fun _ hC=>PV.fI fP aU rfl rfl (by omega))<|DP .r (fun _ hC=>VA aq (bH cP (St.cg hC.2) (by simp)) .r)<|(eh)<|?_;rintro w3 ⟨mr,aW⟩ _;refine WP .r (PV.Kp gS (p:=k) (q:=l[i]) rfl rfl)<|(aZ) (fun g16=>?_) fun g16=>?_
  ·
   simp at g16
   refine(cA) ?_;exact⟨.inl ⟨g16 ▸ List.getElem_mem cV,i,rfl⟩,(St.cg aW)⟩
  simp at g16
  refine gN ?_;refine fH (i+1) ⟨aW,⟨by omega,dG cV gV (fun e=>g16 e.symm),trivial⟩⟩
 simp at g9
 have cZ:k∉l:=fun hm=>by obtain⟨j,hj,h⟩:=List.getElem_of_mem hm;exact gV j _ (by omega) (ao hj) h
 refine(cA) ?_;exact⟨.inr ⟨cZ,rfl⟩,(St.cg st2)⟩
theorem oR{l:List Key}(hl:Rd RR.key 2 Z w a n c l):CR prog 40 #[.slice a n c,k.val] w (.bool (decide (k∈l))):=by
 refine enter func40 rfl ntmps40 rfl<|?_;have bd:=St.s0 w;refine(fo) bd fun b3 w1 iR dL st1=>?_;refine(bz) aq st1.b0<|(dj) ai0 ((B4 (k:=k) (w:=w1) (hl.ext (St.cg st1))).mono (fun e wq h=>show ∃j:Int,e=.returned (.int .i64 j)∧decide (0≤j)=decide (k∈l)∧aV [] w1 wq from by rcases h.1 with⟨h1,i,h2⟩ | ⟨h1,h2⟩;exact⟨i,h2,by simp [h1],h.2⟩;exact⟨-1,h2,by simp [h1],h.2⟩)) ?_;rintro _ w2 ⟨j,rfl,hj,s2⟩;have st2:=st1.step s2;refine(cA) ?_;exact⟨by rw [hj],(St.cg st2)⟩
theorem EM(bJ:St w M Z w []) (hl:Rd RR.fV 8 Z w a n c l) (h6:l.length≤1000000):Calls prog 129 #[.slice a n c] w fun e w'=>∃a' n' c' Z',e=.returned (.slice a' n' c')∧cN w.heap.size Z Z'∧St w M Z' w' [As.os RR.fV 48 8 a' n' c' l]:=by
 have hlen:=hl.len;have hle:=hl.le;refine enter func129 rfl ntmps129 rfl<|?_;have bd:=bJ;have st1:=bd.fr hl;refine kQ ?_;have st2:=st1;refine(dj) adq (B1 st2.e0 (As.gr st2.g0) h6) ?_;rintro _ w1 ⟨f1,f2,f3,rfl,AV⟩;have aW:=St.lr st2 AV;have Mf:=((As.gs aW.g0)).len;refine bf ?_;refine WC.jC (σ:=Nat × (Nat→Prop)) (eJ:=fun(i,Z1)=>[(3,.slice f1 f2 f3),(8,.slice f1 f2 f3),(9,.int .i64 (f2:Int)),(10,.int .i64 (i:Int))]) (F:=fun(i,Z1)=>[As.os RR.fV 48 8 f1 f2 f3 l]) (I:=fun(i,Z1)=>(i≤f2)∧(cN w.heap.size Z Z1)∧True) (μ:=fun(i,Z1)=>f2 - i) (Zf:=fun(i,Z1)=>Z1) (0,Z) (aW) Sub.t (⟨by omega,cN.refl _ _,trivial⟩)<|?_;rintro⟨i,Z1⟩ w2 ba ⟨hi,hZ,_⟩;simp only [CA,NA] at ba hi hZ ⊢;refine(aZ) (fun g11=>?_) fun g11=>?_
 ·
  simp at g11
  have cV:i<l.length:=by omega
  refine ek ?_;obtain⟨ik,jE,aU,fX,bD,cP⟩:=Ow.at (As.gs ba.g0) (by omega) (ao cV);obtain⟨q1,q2,q3,rfl,rJ,qP⟩:=bD;have bw:=ba.fr (rJ);refine cS ?_;refine WP .r (PV.fI ky aU rfl rfl (by omega))<|(bz) ey cP<|(gu) bw fun b5 w3 nq gy bj=>?_;refine(dD) iH bj fun w4 jY j7 bX=>?_;refine(bz) ey bX.b0<|?_;have bV:=bX;refine(dj) adr (J5 bV.e0 (As.gr bV.g1) qP) ?_;rintro _ w5 ⟨e1,e2,e3,rfl,jF⟩;have cq:=St.lr bV jF;have qk:=St.cH jF;have hsz:=bV.size;have aL:=cq.bN (by omega);have lA:=hZ.trans (cN.fh (F:=fun x=>x∈aI e1) qk) hsz;refine WP .r (PV.fI ky aU rfl rfl (by omega))<|?_;refine WL.go rfl (OX.abd (i:=i) iH (As.gs aL.g3) aU cV rfl rfl rfl (Rec.one _ _ _ _) l[i] ⟨e1,e2,e3,rfl,(As.gr aL.g0),qP⟩ fun w6 s8 h8=>?_);have aO:=aL.p3.jm s8 h8 (fun x h=>.inl h);have aS:=aO.Ub (List.set_getElem_self cV);refine gN ?_;refine fH (i+1,_) ⟨aS.p4.p1.k2,⟨by omega,lA,trivial⟩⟩
 refine(cA) ?_;exact⟨_,_,_,_,rfl,hZ,ba.p1.drop⟩
theorem AW(bJ:St w M Z w []) (hi:Rd RR.aF 4 Z w a1 n1 e1 x.ae) (hr:Rd RR.fV 8 Z w a2 n2 e2 x.ak) (h6:x.ak.length≤1000000) (h7:x.ae.length≤1000000):Calls prog 87 #[.agg (x.row a1 n1 e1 a2 n2 e2).toArray] w fun e w'=>∃PF PG PH PI PJ PK Z',e=.returned (.agg (x.row PF PG PH PI PJ PK).toArray)∧cN w.heap.size Z Z'∧St w M Z' w' [As.os RR.aF 102 4 PF PG PH x.ae,As.os RR.fV 48 8 PI PJ PK x.ak]:=by
 refine enter func87 rfl ntmps87 rfl<|?_;have bd:=bJ;have st1:=bd.fr hi;have st2:=st1.fr hr;refine(fo) st2 fun b1 w1 oY dN aW=>?_;refine(gu) aW fun b2 w2 nz fm ba=>?_;refine dE ?_;refine WC.dp (m:=7) [] [2,5] [0,1,2,3,4,5,6] [] ba (av.k4 M0 M1 M2 M3<|av.nil) mixed (by kernel_rfl) (by kernel_rfl) rfl<|(BA) oM SV.g1<|(iN) (fun w3 Tx EN bw uZ=>?_);simp only [CA,NA] at bw;have bj:=bw;refine OX.call ac8 rfl rfl ((B2 bj.e0 (As.gr bj.g3) h7).mono ?_);rintro _ w4 ⟨f1,f2,f3,rfl,iY⟩;have bX:=St.lr bj iY;refine⟨_,rfl,iY.cT.size,_,rfl,_,_,_,bX,ay.k4<|ay.cons<|ay.nil,av.k4 M1 M2 M3 M4<|av.nil,?_⟩;refine(BA) eW SV.g1<|(iN) (fun w5 Rb B5 bV pS=>?_);simp only [CA,NA] at bV;have cq:=bV;refine OX.call ac9 rfl rfl ((EM cq.e0 (As.gr cq.g3) h6).mono ?_);rintro _ w6 ⟨f4,f5,f6,Z1,rfl,gq,og⟩;have aL:=St.lv cq og gq;have oO:=gq.le cq.size;refine⟨_,rfl,og.cT.size,_,rfl,_,_,_,aL,ay.k4<|ay.k2<|ay.nil,av.k4 M2 M3 M4 M5<|av.nil,?_⟩;refine(nU) ?_;intro w7 fx aO;simp only [CM,NM,CA,NA,kY.it] at aO;refine WL.s1 aO.p3 fun w8 _ aS=>?_;refine nx ?_;refine WL.s1 aS fun w9 _ bE=>?_;refine WL.nil (EX.np ?_);refine(bz) aP bE.b0<|(dD) fT bE.p3 fun kB jY j7 bs=>?_;refine(mz) aP bs.b0<|?_;exact⟨_,_,_,_,_,_,_,rfl,oO,bs.p2.p3.k2⟩
theorem wF{r:Rec}{bb:Nat}(hb:cW w bb 31 (x.row a1 n1 e1 a2 n2 e2)):CR prog 122 #[.agg (r.row a n c).toArray,.pointer (some ⟨bb,0,none⟩)] w (.bool (decide (x.ad<r.ax))):=by
 refine enter func122 rfl ntmps122 rfl<|?_;have bd:=St.s0 w;refine(fo) bd fun b2 w1 nz fm st1=>?_;refine(bL) aT st1.b0<|(bL) aT (cW.range (hb.ext (St.cg st1)))<|(cA) ?_;exact⟨rfl,(St.cg st1)⟩
set_option maxHeartbeats 400000
theorem B6{l:List dB}{p:dB→Bool}(Bz:CF prog f) (hl:Rd RR.aF 4 Z w a n c l) (hp:∀w1,aV [] w w1→∀x∈l,Calls prog f #[.agg x.cells.toArray,cap] w1 fun e w'=>e=.returned (.bool (p x))∧aV [] w1 w'):Calls prog 206 #[.slice a n c,.func (.func f) #[] #[cap]] w fun e w'=>∃j:Int,e=.returned (.int .i64 j)∧CO l p j∧aV [] w w':=by
 have hlen:=hl.len;have hle:=hl.le;refine enter func206 rfl ntmps206 rfl<|?_;have bd:=St.s0 w;refine bf ?_;refine cS ?_;refine WC.ct (σ:=Nat) (eJ:=fun i=>[(0,.slice a n c),(1,.func (.func f) #[] #[cap]),(7,.int .i64 (n:Int)),(8,.int .i64 (i:Int))]) (F:=fun i=>[]) (I:=fun i=>(i≤n)∧(∀j x,j<i→l[j]?=some x→p x=false)∧True) (μ:=fun i=>n - i) (0) (bd) Sub.t (⟨by omega,fun j x h=>by omega,trivial⟩)<|?_;rintro i w1 st1 ⟨hi,gV,_⟩;simp only [CA,NA] at st1 hi gV ⊢;refine(aZ) (fun g9=>?_) fun g9=>?_
 ·
  simp at g9
  have cV:i<l.length:=by omega
  refine vE ?_;obtain⟨ik,kf,jE,aU,fX,bD,cP,dM⟩:=Rd.at hl cV;have bD:=RR.cy bD;subst bD;refine dW ?_;refine WP .r (PV.fI ya aU rfl rfl (by omega))<|(bz) l6 (bH cP (St.cg st1) (by simp))<|?_;refine WL.go rfl (OX.uj Bz rfl rfl rfl ((Calls.cap (hp _ (St.cg st1) l[i] (List.getElem_mem cV))).mono ?_));rintro _ w2 ⟨rfl,s2⟩;refine⟨_,rfl,?_⟩;have st2:=st1.step s2;refine(aZ) (fun g16=>?_) fun g16=>?_
  ·
   refine(cA) ?_;exact⟨_,rfl,.inl ⟨i,_,ao cV,g16,gV,rfl⟩,(St.cg st2)⟩
  have g16:p l[i]=false:=by simpa using g16
  refine gN ?_;refine fH (i+1) ⟨st2,⟨by omega,dG cV gV (by simpa using g16),trivial⟩⟩
 simp at g9
 have cZ:∀x∈l,p x=false:=fun x hx=>by obtain⟨j,hj,rfl⟩:=List.getElem_of_mem hx;exact gV j _ (by omega) (ao hj)
 refine(cA) ?_;exact⟨_,rfl,.inr ⟨cZ,rfl⟩,(St.cg st1)⟩
theorem B7{x:dB}{bk:Nat}(hb:cW w bk 39 k.cells):CR prog 207 #[.agg x.cells.toArray,.pointer (some ⟨bk,0,none⟩)] w (.bool (decide (x.key=k))):=by
 refine enter func207 rfl ntmps207 rfl<|?_;have bd:=St.s0 w;refine(fo) bd fun b2 w1 nz fm st1=>?_;refine(j3) aq st1.b0<|(bz) aq (cW.range (hb.ext (St.cg st1)))<|?_;refine WP .r (PV.Kp gS (p:=x.key) (q:=k) rfl rfl)<|(cA) ?_;exact⟨rfl,(St.cg st1)⟩
theorem u4(hi:Rd RR.aF 4 Z w a1 n1 e1 x.ae):Calls prog 161 #[.agg (x.row a1 n1 e1 a2 n2 e2).toArray,k.val] w fun e w'=>∃y:dB,e=.returned (.agg y.cells.toArray)∧y.value=(db x.ae k).value∧y.changed=(db x.ae k).changed∧aV [] w w':=by
 have hlen:=hi.len;have hle:=hi.le;refine enter func161 rfl ntmps161 rfl<|?_;have bd:=St.s0 w;refine(fo) bd fun b2 w1 nz fm st1=>?_;refine(fo) st1 fun b3 w2 iR dL st2=>?_;refine(gu) st2 fun b4 w3 jK bG aW=>?_;refine(bL) oM aW.b2<|?_;refine WP .r (PV.func (us:=[]) (vs:=[.pointer (some ⟨b3,0,none⟩)]) rfl rfl)<|(dj) adF (B6 (p:=fun x=>decide (x.key=k)) adG (hi.ext (St.cg aW)) (fun w1 h1 y _=>B7 ((As.gb aW.g1).ext h1))) ?_;rintro _ w4 ⟨j,rfl,hj,s4⟩;have ba:=aW.step s4;refine(aZ) (fun g11=>?_) fun g11=>?_
 ·
  simp at g11
  have cZ:∀y∈x.ae,(decide (y.key=k))=false:=by rcases hj with⟨i,y,_,_,_,h⟩ | ⟨h,_⟩;omega;exact h
  have hf:x.ae.find? (fun x=>x.key == k)=none:=um (i:=x.ae.length) (Nat.le_refl _) (fun j x _ hx=>by simpa using cZ x (List.mem_of_getElem? hx));refine(dD) xu ba fun w5 jY j7 bw=>?_;refine(mz) l6 bw.b0<|?_;exact⟨⟨da,⟨#[]⟩,0⟩,rfl,by unfold db;rw [hf];rfl,by unfold db;rw [hf];rfl,(St.cg bw)⟩
 simp at g11
 obtain⟨i,y,hx,hp,gV,rfl⟩:∃i:Nat,∃y,x.ae[i]?=some y∧decide (y.key=k)=true∧(∀j y,j<i→x.ae[j]?=some y→(y.key == k)=false)∧j=i:=by
  rcases hj with⟨i,y,h1,h2,h3,h4⟩ | ⟨_,h⟩
  ·
   exact⟨i,y,h1,h2,fun j y hj hx=>by simpa using h3 j y hj hx,h4⟩
  omega
 obtain⟨cV,rfl⟩:=List.getElem?_eq_some_iff.1 hx;have hf:x.ae.find? (fun x=>x.key == k)=some x.ae[i]:=lG cV gV (by simpa using hp);refine dE ?_;obtain⟨ik,kf,jE,aU,fX,bD,cP,dM⟩:=Rd.at hi cV;have bD:=RR.cy bD;subst bD;refine(bL) oM ba.b2<|nx ?_;refine WP .r (PV.fI ya aU rfl rfl (by omega))<|(bz) l6 (bH cP (St.cg ba) (by simp))<|(dD) xu ba fun w5 sC nt bw=>?_;refine(mz) l6 bw.b0<|?_;exact⟨x.ae[i],rfl,by unfold db;rw [hf];rfl,by unfold db;rw [hf];rfl,(St.cg bw)⟩
theorem HD(hi:Rd RR.aF 4 Z w a1 n1 e1 x.ae) (hr:Rd RR.fV 8 Z w a2 n2 e2 x.ak):CR prog 162 #[.agg (x.row a1 n1 e1 a2 n2 e2).toArray,k.val] w (.string (db x.ae k).value):=by
 refine enter func162 rfl ntmps162 rfl<|?_;have bd:=St.s0 w;refine(fo) bd fun b2 w1 nz fm st1=>?_;refine(fo) st1 fun b3 w2 iR dL st2=>?_;refine(bz) aP st2.b1<|(bz) aq st2.b0<|(dj) UU (u4 (k:=k) (hi.ext (St.cg st2))) ?_;rintro _ w3 ⟨y,rfl,hy,_,s3⟩;have aW:=st2.step s3;refine WP .r (PV.y8 (fs:=[_,_,_]) (f:=1) (off:=2) (T:=102) underlying102 rfl rfl (show ∀w,(isAgg 9).run _ w=.ok false w from isAgg9) rfl rfl)<|(cA) ?_;exact⟨by rw [← hy],(St.cg aW)⟩
set_option maxHeartbeats 400000
theorem HE{ar:Option Addr}{cr c1 c2:Nat}(bJ:St w M Z w []):Calls prog 88 #[.slice ar r cr,.agg (x.row a1 n1 c1 a2 n2 c2).toArray] w fun e w'=>∃s m q,e=.returned (.pointer (some ⟨s,0,none⟩))∧St w M Z w' [As.blk s 184 (SD.cells ⟨ar,a1,a2,r,cr,n1,c1,n2,c2,m,q,s⟩ x),As.map Key.val m [],As.map Key.val q []]:=by
 refine enter func88 rfl ntmps88 rfl<|?_;have bd:=bJ;refine(fo) bd fun b3 w1 iR dL st1=>?_;refine(bz) aP st1.b0<|?_;refine WL.mm Key.val st1 fun b7 w2 vq hm7 st2=>?_;refine WL.mm Key.val st2 fun b8 w3 BN hm8 aW=>?_;refine WP .r (PV.bW (us:=(SD.cells ⟨ar,a1,a2,r,cr,n1,c1,n2,c2,b7,b8,0⟩ x)) acs rfl rfl rfl)<|(fo) aW fun iJ w4 lz fE ba=>?_;refine(cA) ?_;exact⟨_,_,_,rfl,ba.p3.drop.p2.p1⟩
end Go.Rc

