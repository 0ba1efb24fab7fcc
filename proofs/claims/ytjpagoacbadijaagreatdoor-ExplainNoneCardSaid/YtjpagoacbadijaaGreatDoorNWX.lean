/- Walks over the program, part WX. Conditions: as each theorem says. -/
import Derived.Test.YtjpagoacbadijaaGreatDoorNFacts
import Derived.Test.YtjpagoacbadijaaGreatDoorNWU
import Derived.Test.YtjpagoacbadijaaGreatDoorNBf
import Derived.Test.YtjpagoacbadijaaGreatDoorNBg
import Derived.Test.YtjpagoacbadijaaGreatDoorNWB
import Derived.Test.YtjpagoacbadijaaGreatDoorNBh
import Derived.Test.YtjpagoacbadijaaGreatDoorShelf
import Derived.Test.YtjpagoacbadijaaGreatDoorNWLibE
import Derived.Test.YtjpagoacbadijaaGreatDoorNBd
import Derived.Test.YtjpagoacbadijaaGreatDoorNWP
import Derived.Test.YtjpagoacbadijaaGreatDoorNWD
set_option linter.all false
namespace Go.Rc
open Go Go.Proofs Go.Proofs.Tryz
variable {n c n1 e1 n2 e2 r d:Nat}{w:World}{a a1 a2:Option Addr}{ab:List aG}{k:Key}{l:List Key}{f:FuncId}{Z M:Nat→Prop}{x:dQ}{D:SD}{m:Int}
set_option maxHeartbeats 400000
theorem Ba{n:Int} :CR prog 201 #[.int .i64 n] w (.bool false):=by
 refine enter func201 rfl ntmps201 rfl<|?_;have bd:=St.s0 w;refine bf ?_;refine(cA) ?_;exact⟨by simp,(St.cg bd)⟩
theorem EU{a b:Int} :CR prog 150 #[.int .i64 a,.int .i64 b] w (.int .i64 (BC a b)):=by
 refine enter func150 rfl ntmps150 rfl<|?_;have bd:=St.s0 w;refine(iz) (Ba) bd fun w1 s1 st1=>?_;refine(iz) (Ba) st1 fun w2 s2 st2=>?_;refine qi ?_;refine WC.j0 rfl<|kQ ?_;refine WC.j0 rfl<|(aZ) (fun g16=>?_) fun g16=>?_
 ·
  simp at g16
  refine(cA) ?_;exact⟨by unfold BC;rw [if_pos g16],(St.cg st2)⟩
 simp at g16
 refine(aZ) (fun g19=>?_) fun g19=>?_
 ·
  simp at g19
  refine(cA) ?_;exact⟨by unfold BC;rw [if_neg (by omega),if_pos g19],(St.cg st2)⟩
 simp at g19
 refine(cA) ?_;exact⟨by unfold BC;rw [if_neg (by omega),if_neg (by omega)],(St.cg st2)⟩
theorem EV{l:List Int}{A:Nat→Prop}(hl:Ints A w a n c l):CR prog 149 #[.slice a n c] w (.int .i64 (Wg l)):=by
 have hle:=SR.le hl;have hlen:=SR.len hl;refine enter func149 rfl ntmps149 rfl<|?_;have bd:=St.s0 w;refine bf ?_;refine gN ?_;refine WC.ct (σ:=Nat) (eJ:=fun i=>[(3,.int .i64 0),(6,.slice a n c),(7,.int .i64 (n:Int)),(8,.int .i64 (i:Int))]) (F:=fun i=>[]) (I:=fun i=>(i≤n)∧(∀j x,j<i→l[j]?=some x→x=0)∧True) (μ:=fun i=>n - i) (0) (bd) Sub.t (⟨by omega,fun j x h=>by omega,trivial⟩)<|?_;rintro i w1 st1 ⟨hi,gV,_⟩;simp only [CA,NA] at st1 hi gV ⊢;refine(aZ) (fun g9=>?_) fun g9=>?_
 ·
  simp at g9
  have cV:i<l.length:=by omega
  obtain⟨Tt,Tu,Tv,lU,_,rfl,ot,_⟩:=(SR.ext hl (St.cg st1)).at (ao cV);refine ji ?_;refine WP .r (PV.fI Js lU rfl rfl (by omega))<|WP .r (PV.pF aT ot rfl rfl)<|(aZ) (fun g14=>?_) fun g14=>?_
  ·
   simp at g14
   refine(cA) ?_;exact⟨by rw [Wh cV gV g14],(St.cg st1)⟩
  simp at g14
  refine gN ?_;refine fH (i+1) ⟨st1,⟨by omega,dG cV gV (by simpa using g14),trivial⟩⟩
 simp at g9
 refine(cA) ?_;exact⟨by rw [RO (fun x hx=>by obtain⟨j,hj,rfl⟩:=List.mem_iff_getElem.1 hx;exact gV j _ (by omega) (ao hj))],(St.cg st1)⟩
theorem tY{a b:Key} :CR prog 120 #[a.val,b.val] w (.int .i64 (cw a b)):=by
 refine enter func120 rfl ntmps120 rfl<|?_;have bd:=St.s0 w;refine(fo) bd fun b2 w1 nz fm st1=>?_;refine(fo) st1 fun b3 w2 iR dL st2=>?_;refine dW ?_;have AA:=st2.cY;refine WC.eQ (m:=9) (E:=dr [(4,fun v _=>v=.int .i64 (BC a.kind b.kind))]) st2 (bM (⟨fun _ _ _ _ _ _ _ h=>h,trivial⟩)) mixed (by kernel_rfl)<|(lI) aT St.g1<|(lI) aT St.g0<|?_;refine DW.c0 (fun wx hC hF=>EU)<|(lI) iG St.g1<|(lI) iG St.g0<|(eh)<|?_;rintro w3 ⟨fx,aW⟩ ⟨_,_⟩;refine(iz) (sA a.text b.text w3) aW fun w4 s4 ba=>?_;refine WL.go rfl (OX.aR (us:=[.int .i64 (BC a.kind b.kind),.int .i64 (Lib.compareBytes a.text.data.toList b.text.data.toList)]) Xp rfl rfl rfl rfl fun Bq w5 Ep Hc=>?_);have bw:=ba.eF Ep Hc;refine WL.c1 (u:=.int .i64 (cw a b)) (EV (l:=[BC a.kind b.kind,Lib.compareBytes a.text.data.toList b.text.data.toList]) (SR.Rg (rows:=[[.int .i64 (BC a.kind b.kind)],[.int .i64 (Lib.compareBytes a.text.data.toList b.text.data.toList)]]) (As.gb bw.g0) rfl (by simp) (by simp [Value.oneCell']) (by simp) (GG rfl rfl))) (by rw [RP]) bw fun w6 s6 bj=>?_;refine(cA) ?_;exact⟨rfl,(St.cg bj)⟩
theorem yl(hk:gA ab k):CR prog 200 #[k.val] w (.bool false):=by
 obtain⟨i,lC,Vc,xa⟩:=hk.shape;refine enter func200 rfl ntmps200 rfl<|?_;have bd:=St.s0 w;refine(fo) bd fun b1 w1 oY dN st1=>?_;refine(bz) aq st1.b0<|(iz) (jG (k:=k) xa Vc lC) st1 fun w2 s2 st2=>?_;refine(cA) ?_;exact⟨rfl,(St.cg st2)⟩
theorem Bb{p:Key→Bool}(Bz:CF prog f) (hl:Rd RR.key 2 Z w a n c l) (hp:∀w1,aV [] w w1→∀x∈l,Calls prog f #[x.val] w1 fun e w'=>e=.returned (.bool (p x))∧aV [] w1 w'):Calls prog 123 #[.slice a n c,.func (.func f) #[] #[]] w fun e w'=>∃j:Int,e=.returned (.int .i64 j)∧CO l p j∧aV [] w w':=by
 have hlen:=hl.len;have hle:=hl.le;refine enter func123 rfl ntmps123 rfl<|?_;have bd:=St.s0 w;refine bf ?_;refine cS ?_;refine WC.ct (σ:=Nat) (eJ:=fun i=>[(0,.slice a n c),(1,.func (.func f) #[] #[]),(7,.int .i64 (n:Int)),(8,.int .i64 (i:Int))]) (F:=fun i=>[]) (I:=fun i=>(i≤n)∧(∀j x,j<i→l[j]?=some x→p x=false)∧True) (μ:=fun i=>n - i) (0) (bd) Sub.t (⟨by omega,fun j x h=>by omega,trivial⟩)<|?_;rintro i w1 st1 ⟨hi,gV,_⟩;simp only [CA,NA] at st1 hi gV ⊢;refine(aZ) (fun g9=>?_) fun g9=>?_
 ·
  simp at g9
  have cV:i<l.length:=by omega
  refine vE ?_;obtain⟨ik,kf,jE,aU,fX,bD,cP,dM⟩:=Rd.at hl cV;have bD:=RR.cy bD;subst bD;refine dW ?_;refine WP .r (PV.fI fP aU rfl rfl (by omega))<|(bz) aq (bH cP (St.cg st1) (by simp))<|?_;refine WL.go rfl (OX.uj Bz rfl rfl rfl ((Calls.ahB (hp _ (St.cg st1) l[i] (List.getElem_mem cV))).mono ?_));rintro _ w2 ⟨rfl,s2⟩;refine⟨_,rfl,?_⟩;have st2:=st1.step s2;refine(aZ) (fun g16=>?_) fun g16=>?_
  ·
   refine(cA) ?_;exact⟨_,rfl,.inl ⟨i,_,ao cV,g16,gV,rfl⟩,(St.cg st2)⟩
  have g16:p l[i]=false:=by simpa using g16
  refine gN ?_;refine fH (i+1) ⟨st2,⟨by omega,dG cV gV (by simpa using g16),trivial⟩⟩
 simp at g9
 have cZ:∀x∈l,p x=false:=fun x hx=>by obtain⟨j,hj,rfl⟩:=List.getElem_of_mem hx;exact gV j _ (by omega) (ao hj)
 refine(cA) ?_;exact⟨_,rfl,.inr ⟨cZ,rfl⟩,(St.cg st1)⟩
theorem ve{p:Key→Bool}(Bz:CF prog f) (hl:Rd RR.key 2 Z w a n c l) (hp:∀w1,aV [] w w1→∀x∈l,Calls prog f #[x.val] w1 fun e w'=>e=.returned (.bool (p x))∧aV [] w1 w'):CR prog 84 #[.slice a n c,.func (.func f) #[] #[]] w (.bool (l.any p)):=by
 refine enter func84 rfl ntmps84 rfl<|?_;have bd:=St.s0 w;refine(dj) Pn (Bb (w:=w) Bz (hl.ext (St.cg bd)) (fun w1 h1=>hp w1 (aV.trans (St.cg bd) h1))) ?_;rintro _ w1 ⟨j,rfl,hj,s1⟩;have st1:=bd.step s1;have Ut:=hj.any;refine(cA) ?_;exact⟨by rw [Ut],(St.cg st1)⟩
set_option maxHeartbeats 1600000 in
theorem Bc{x:Rec}(hk:Rd RR.key 2 Z w a n c x.reads) (hx:OB ab x):CR prog 148 #[.agg (x.row a n c).toArray] w (.bool true):=by
 have hlen:=hk.len;obtain⟨h1,h2,h3,hv⟩:=hx;obtain⟨i,lC,Vc,xa⟩:=h1.shape;have l4:=h1.gY;rw [gI] at hv;obtain⟨_,_,_,v4,v5,v6,v7,v8,v9,v10,v11⟩:=hv;refine enter func148 rfl ntmps148 rfl<|?_;have bd:=St.s0 w;refine(fo) bd fun b1 w1 oY dN st1=>?_;refine ek ?_;refine WC.fL (t:=34) (v:=.bool false) st1 ?_<|?_
 ·
  refine(j3) aq st1.b0<|(iz) (jG (k:=x.key) xa Vc lC) st1 fun w2 s2 st2=>?_;refine(j3) aq st2.b0<|?_;refine WL.c1 (u:=.bool false) (eV (k:=x.key)) (by rw [h2]) st2 fun w3 s3 aW=>?_;refine(bL) iG aW.b0<|(dY) (fun g19=>?_) (fun g19=>?_)
  ·
   refine bf ?_;exact(dt) (by first | (simp only [g19];done) | (simp [g19];done) | (have h4:x.key.kind=32:=uA h1 (by simpa [g19] using v11);simp [g19,h4];done) | (simp at g19 ⊢ <;> omega) | (simp [g19] <;> omega)) (aW)
  refine(bL) gK aW.b0<|(dY) (fun fb=>?_) (fun fb=>?_)
  ·
   exact(dt) (by first | (simp only [g19,fb];done) | (simp [g19,fb];done) | (have h4:x.key.kind=32:=uA h1 (by simpa [g19,fb] using v11);simp [g19,fb,h4];done) | (simp at g19 fb ⊢ <;> omega) | (simp [g19,fb] <;> omega)) (aW)
  refine(bL) ft aW.b0<|(dY) (fun iP=>?_) (fun iP=>?_)
  ·
   refine(j3) aq aW.b0<|(iz) (oo (k:=x.key) l4) aW fun w4 s4 ba=>?_;exact(dt) (by first | (simp only [g19,fb,iP];done) | (simp [g19,fb,iP];done) | (have h4:x.key.kind=32:=uA h1 (by simpa [g19,fb,iP] using v11);simp [g19,fb,iP,h4];done) | (simp at g19 fb iP ⊢ <;> omega) | (simp [g19,fb,iP] <;> omega)) (ba)
  exact(dt) (by first | (simp only [g19,fb,iP];done) | (simp [g19,fb,iP];done) | (have h4:x.key.kind=32:=uA h1 (by simpa [g19,fb,iP] using v11);simp [g19,fb,iP,h4];done) | (simp at g19 fb iP ⊢ <;> omega) | (simp [g19,fb,iP] <;> omega)) (aW)
 intro w2 st2;refine(aZ) (fun yb=>?_) fun yb=>?_
 ·
  exact gW yb
 refine kQ ?_;refine WC.nS (t:=2) (v:=.bool true) st2 ?_<|?_
 ·
  refine(bL) aT st2.b0<|(dY) (fun wD=>?_) (fun wD=>?_)
  ·
   refine(bL) aT st2.b0<|(bL) aT st2.b0<|(dY) (fun yk=>?_) (fun yk=>?_)
   ·
    refine(bL) aT st2.b0<|(dY) (fun TC=>?_) (fun TC=>?_)
    ·
     refine(bL) aT st2.b0<|(dY) (fun Ag=>?_) (fun Ag=>?_)
     ·
      refine(bL) aT st2.b0<|(dY) (fun Nb=>?_) (fun Nb=>?_)
      ·
       refine(bL) gK st2.b0<|nx ?_;refine WL.c1 (u:=.bool false) (ve (p:=fun _=>false) adz (hk.ext (St.cg st2)) (fun w1 _ y hy=>yl (h3 y hy))) (by rw [List.any_eq_false.2 (fun _ _=>by simp)]) st2 fun w3 s3 aW=>?_;exact(iK) (tG (aj wD<|aj yk<|aj TC<|aj Ag Nb)) (aW)
      exact(iK) (tG (aj wD<|aj yk<|aj TC<|aj Ag Nb)) (st2)
     refine bf ?_;exact(iK) (tG (aj wD<|aj yk<|aj TC Ag)) (st2)
    refine bf ?_;exact(iK) (tG (aj wD<|aj yk TC)) (st2)
   refine bf ?_;exact(iK) (tG (aj wD yk)) (st2)
  refine bf ?_;refine bf ?_;exact(iK) (tG wD) (st2)
 intro w3 aW;refine(cA) ?_;exact⟨rfl,(St.cg aW)⟩
theorem vf{l:List Rec}(hl:Rd RR.fV 8 Z w a n c l) (hG:∀x∈l,OB ab x) (hS:vK l) (h4:l.length≤4000):CR prog 118 #[.slice a n c] w (.bool true):=by
 have hlen:=hl.len;have hle:=hl.le;refine enter func118 rfl ntmps118 rfl<|?_;have bd:=St.s0 w;refine bf ?_;refine cS ?_;refine WC.ct (σ:=Nat) (eJ:=fun j=>[(0,.slice a n c),(5,.slice a n c),(6,.int .i64 (n:Int)),(7,.int .i64 (j:Int))]) (F:=fun j=>[]) (I:=fun j=>(j≤n)∧True) (μ:=fun j=>n - j) (0) (bd) Sub.t (⟨by omega,trivial⟩)<|?_;rintro j w1 st1 ⟨hj,_⟩;simp only [CA,NA] at st1 hj ⊢;refine(aZ) (fun g8=>?_) fun g8=>?_
 ·
  simp at g8
  have kR:j<l.length:=by omega
  refine ek ?_;obtain⟨ik,kf,jE,aU,fX,bD,cP,dM⟩:=Rd.at hl kR;obtain⟨q1,q2,q3,rfl,rJ,qP⟩:=bD;refine cS ?_;refine WP .r (PV.fI ky aU rfl rfl (by omega))<|(bz) ey (bH cP (St.cg st1) (by simp))<|(gu) st1 fun b4 w2 jK bG st2=>?_;refine(dD) iH st2 fun w3 jY j7 aW=>?_;refine dE ?_;refine WC.fL (t:=30) (v:=.bool false) aW ?_<|?_
  ·
   have U8:=aW.cY;refine WC.eQ (m:=15) (E:=dr [(1,fun v _=>v=.bool true)]) aW (bM (⟨fun _ _ _ _ _ _ _ h=>h,trivial⟩)) mixed (by kernel_rfl)<|(jj) ey St.g0<|?_;refine DW.c0 (fun wx hC hF=>Bc (rJ.ext (St.cg hC.2)) (hG _ (List.getElem_mem kR)))<|(rS) (fun g18=>?_) (fun g18=>?_)
   ·
    have hj0:1≤j:=by have h0:=g18;simp at h0;omega
    have TD:j - 1<l.length:=by omega
    have ee:cw l[j - 1].key l[j].key<0:=List.pairwise_iff_getElem.1 hS (j - 1) j TD kR (by simp at g18;omega);obtain⟨wv,JN,Hh,fQ,xD,gB,kD,oP⟩:=Rd.at hl TD;obtain⟨p1,p2,p3,rfl,_,_⟩:=gB;refine dE ?_;refine DP .r (fun _ hC=>PV.Ko ky (j - 1) fQ rfl rfl (by omega) (by omega))<|nx ?_;refine DP .r (fun _ hC=>PV.FU aq (bH kD (St.cg hC.2) (by simp)) rfl rfl)<|(Cy) aq St.g0<|(eh)<|?_;rintro w4 ⟨mr,ba⟩ ⟨_,_⟩;refine(iz) (tY (a:=l[j - 1].key) (b:=l[j].key)) ba fun w5 s5 bw=>?_;exact(dt) (tG g18) (bw)
   refine(eh) ?_;rintro w4 ⟨mr,ba⟩ ⟨_,_⟩;exact(dt) (tG g18) (ba)
  intro w4 ba;refine(aZ) (fun lQ=>?_) fun lQ=>?_
  ·
   exact gW lQ
  refine gN ?_;refine fH (j+1) ⟨ba.drop,⟨by omega,trivial⟩⟩
 simp at g8
 refine bf ?_;refine(cA) ?_;exact⟨by simp;omega,(St.cg st1)⟩
theorem Bd{i:Nat}(lC:i≤99) (hk:k=⟨30,itoa i⟩):CR prog 119 #[k.val] w (.bool true):=by
 subst hk;refine enter func119 rfl ntmps119 rfl<|?_;have bd:=St.s0 w;refine(fo) bd fun b1 w1 oY dN st1=>?_;refine(bz) aq st1.b0<|(iz) (jG (k:=⟨30,itoa i⟩) ⟨(by decide:(30:Int)≤30),(by decide:(30:Int)≤32)⟩ rfl lC) st1 fun w2 s2 st2=>?_;refine(bz) aq st2.b0<|?_;refine WL.c1 (u:=.bool true) (eV (k:=⟨30,itoa i⟩)) (by rw [show az ⟨30,itoa i⟩=true from rfl]) st2 fun w3 s3 aW=>?_;refine(cA) ?_;exact⟨rfl,(St.cg aW)⟩
set_option maxHeartbeats 1600000 in
set_option maxRecDepth 100000 in
theorem wG(hi:Rd RR.aF 4 Z w a1 n1 e1 x.ae) (hr:Rd RR.fV 8 Z w a2 n2 e2 x.ak) (hx:qC ab x):CR prog 83 #[.agg (x.row a1 n1 e1 a2 n2 e2).toArray] w (.bool true):=by
 obtain⟨x0,x1,xi,xk,x6,xr,xs,x4,xv⟩:=hx;have iB:=hi.len;have Bs:=hi.le;have Mf:=hr.len;refine enter func83 rfl ntmps83 rfl<|?_;have bd:=St.s0 w;refine(fo) bd fun b1 w1 oY dN st1=>?_;refine ek ?_;refine WC.fL (t:=24) (v:=.bool false) st1 ?_<|?_
 ·
  refine(bL) aT st1.b0<|(dY) (fun g8=>?_) (fun g8=>?_)
  ·
   refine bf ?_;exact(dt) (tG g8) (st1)
  refine(bL) aT st1.b0<|(dY) (fun g13=>?_) (fun g13=>?_)
  ·
   exact(dt) (tG (aj g8 g13)) (st1)
  refine(bL) oM st1.b0<|(dY) (fun g19=>?_) (fun g19=>?_)
  ·
   exact(dt) (tG (aj g8<|aj g13 g19)) (st1)
  refine(bL) eW st1.b0<|(iz) (vf (hr.ext (St.cg st1)) xr xs x4) st1 fun w2 s2 st2=>?_;exact(dt) (tG (aj g8<|aj g13 g19)) (st2)
 intro w2 st2;refine(aZ) (fun g24=>?_) fun g24=>?_
 ·
  exact gW g24
 refine(bL) oM st2.b0<|ek ?_;refine WC.ct (σ:=Nat) (eJ:=fun j=>[(1,.pointer (some ⟨b1,0,none⟩)),(26,.slice a1 n1 e1),(27,.int .i64 (n1:Int)),(28,.int .i64 (j:Int))]) (F:=fun j=>[]) (I:=fun j=>(j≤n1)∧True) (μ:=fun j=>n1 - j) (0) (st2) Sub.t (⟨by omega,trivial⟩)<|?_;rintro j w3 aW ⟨hj,_⟩;simp only [CA,NA] at aW hj ⊢;refine(aZ) (fun qj=>?_) fun qj=>?_
 ·
  simp at qj
  have kR:j<x.ae.length:=by omega
  obtain⟨y,hy⟩:∃y,x.ae[j]=y:=⟨_,rfl⟩;obtain⟨i,lC,hyk⟩:=xk _ (hy ▸ List.getElem_mem kR);obtain⟨_,_,hv,Nv,hc1⟩:=xi.2 _ (hy ▸ List.getElem_mem kR);refine ek ?_;obtain⟨ik,kf,jE,aU,fX,bD,cP,dM⟩:=Rd.at hi kR;have bD:=RR.cy bD;subst bD;rw [hy] at cP
  have TD:j - 1<x.ae.length:=by omega
  obtain⟨z,hz⟩:∃z,x.ae[j - 1]=z:=⟨_,rfl⟩;refine cS ?_;refine WP .r (PV.fI ya aU rfl rfl (by omega))<|(bz) l6 (bH cP (St.cg aW) (by simp))<|(gu) aW fun b4 w4 jK bG ba=>?_;refine(dD) xu ba fun w5 jY j7 bw=>?_;refine dE ?_;refine WC.fL (t:=71) (v:=.bool false) bw ?_<|?_
  ·
   have Q8:=bw.cY;refine WC.eQ (m:=37) (E:=dr [(2,fun v _=>v=.bool true),(17,fun v _=>v=.int .i64 (cw z.key y.key))]) bw (bM (⟨fun _ _ _ _ _ _ _ h=>h,⟨fun _ _ _ _ _ _ _ h=>h,trivial⟩⟩)) mixed (by kernel_rfl)<|(Cy) aq St.g0<|?_;refine DW.c0 (fun wx hC hF=>Bd lC hyk)<|(rS) (fun xx=>?_) (fun xx=>?_)
   ·
    have hj0:1≤j:=by have h0:=xx;simp at h0;omega
    have ee:cw z.key y.key<0:=by rw [← hy,← hz];exact List.pairwise_iff_getElem.1 xi.1 (j - 1) j TD kR (by omega)
    obtain⟨wv,JN,Hh,fQ,xD,gB,kD,oP⟩:=Rd.at hi TD;have gB:=RR.cy gB;subst gB;rw [hz] at kD;refine(lI) oM St.g1<|cS ?_;refine DP .r (fun _ hC=>PV.Ko ya (j - 1) fQ rfl rfl (by omega) (by omega))<|nx ?_;refine DP .r (fun _ hC=>PV.FU aq (bH kD (St.cg hC.2) (by simp)) rfl rfl)<|(Cy) aq St.g0<|?_;refine DW.c0 (fun wx hC hF=>tY (a:=z.key) (b:=y.key))<|(rS) (fun tM=>?_) (fun tM=>?_)
    ·
     refine bf ?_;refine(eh) ?_;rintro w6 ⟨oQ,bj⟩ ⟨_,⟨_,_⟩⟩;exact(dt) (tG (aj xx tM)) (bj)
    refine(lI) iG St.g0<|(rS) (fun Nb=>?_) (fun Nb=>?_)
    ·
     refine(eh) ?_;rintro w6 ⟨oQ,bj⟩ ⟨_,⟨_,_⟩⟩;exact(dt) (tG (aj xx<|aj tM Nb)) (bj)
    refine(lI) aT St.g0<|(rS) (fun Es=>?_) (fun Es=>?_)
    ·
     refine(eh) ?_;rintro w6 ⟨oQ,bj⟩ ⟨_,⟨_,_⟩⟩;exact(dt) (tG (aj xx<|aj tM<|aj Nb Es)) (bj)
    refine(lI) aT St.g0<|(lI) aT St.g1<|(eh)<|?_;rintro w6 ⟨oQ,bj⟩ ⟨_,⟨_,_⟩⟩;exact(dt) (tG (aj xx<|aj tM<|aj Nb Es)) (bj)
   refine bf ?_;refine(lI) iG St.g0<|(rS) (fun Nb=>?_) (fun Nb=>?_)
   ·
    refine(eh) ?_;rintro w6 ⟨oQ,bj⟩ ⟨_,_⟩;exact(dt) (tG (aj xx Nb)) (bj)
   refine(lI) aT St.g0<|(rS) (fun Es=>?_) (fun Es=>?_)
   ·
    refine(eh) ?_;rintro w6 ⟨oQ,bj⟩ ⟨_,_⟩;exact(dt) (tG (aj xx<|aj Nb Es)) (bj)
   refine(lI) aT St.g0<|(lI) aT St.g1<|(eh)<|?_;rintro w6 ⟨oQ,bj⟩ ⟨_,_⟩;exact(dt) (tG (aj xx<|aj Nb Es)) (bj)
  intro w6 bj;refine(aZ) (fun nN=>?_) fun nN=>?_
  ·
   exact gW nN
  refine gN ?_;refine fH (j+1) ⟨bj.drop,⟨by omega,trivial⟩⟩
 simp at qj
 refine(bL) eW aW.b0<|?_;refine WP .r (PV.func (us:=[]) (vs:=[.pointer (some ⟨b1,0,none⟩)]) rfl rfl)<|(iz) (wE (p:=fun r=>decide (x.ad<r.ax)) ac3 (hr.ext (St.cg aW)) (fun wq hq y _ a n c _=>wF ((As.gb aW.g0).ext hq)) (fun y hy=>by have:=xv y hy;simp;omega)) aW fun w4 s4 ba=>?_;refine(cA) ?_;exact⟨by simp,(St.cg ba)⟩
theorem HI(bJ:St w M Z w [As.os RR.key 39 2 a n c l]) (h0:l≠[]) (hn:l.length≤1000000):Calls prog 158 #[.slice a n c,.func (.func 120) #[] #[]] w fun e w'=>e=.returned (.tuple #[])∧∃l',l'.Perm l∧(l'.Pairwise fun x y=>¬cw y x<0)∧St w M Z w' [As.os RR.key 39 2 a n c l']:=
 Mn (row:=Key.cells) (key:=fun x=>x) (fun _=>rfl) (fun x v hv=>by(simp [Key.cells] at hv;rcases hv with rfl | rfl <;> rfl)) (fun blk cap d w hc hH hb hs=>slices_SortFunc 2 isAgg39 sizeOf39 Key.cells (fun _=>rfl) (fun x v hv=>by(simp [Key.cells] at hv;rcases hv with rfl | rfl <;> rfl)) _ Sd 120 #[] blk 0 cap d w UP hc hH hb hs) (fun x y w=>tY) bJ h0 hn
set_option maxHeartbeats 400000
set_option maxHeartbeats 1600000 in
theorem ou{goals:List Key}{ar ag:Option Addr}{cr g eg f:Nat}{s':ES}(hR:aw ab) (bJ:St w M Z w []) (hu:Rd RR.gQ 4 Z w ar r cr ab) (hi:Rd RR.aF 4 Z w a1 n1 e1 x.ae) (hr:Rd RR.fV 8 Z w a2 n2 e2 x.ak) (hg:Rd RR.key 2 Z w ag g eg goals) (ht:nQ prog Z w) (CE:ia ab x goals=0) (tr:Good ab x.ae ⟨x,[],[],0⟩) (hk:∀k∈goals,gA ab k) (Bs:x.ae.length≤1000000)
 (P3:eD ab (valOf ab x.ae) f ⟨x,[],[],0⟩ goals=some s') (qa:s'.cU.length≤1000000):Calls prog 13 #[.slice ar r cr,.agg (x.row a1 n1 e1 a2 n2 e2).toArray,.slice ag g eg] w fun e w'=>∃PF PG PH PI PJ PK ag' g' eg' Z',e=.returned (.tuple #[.agg ((s'.base x).row PF PG PH PI PJ PK).toArray,.slice ag' g' eg',.int .i64 s'.e])∧cN w.heap.size Z Z'∧Rd RR.aF 4 Z' w' PF PG PH (s'.base x).ae∧Rd RR.fV 8 Z' w' PI PJ PK (s'.base x).ak∧St w M Z' w' [As.os RR.key 39 2 ag' g' eg' s'.list]:=by
 have TE:=hg.len;have Ns:=hg.le
 have h6:x.ak.length≤1000000:=by have:=tr.len;simp only at this;omega
 refine enter func13 rfl ntmps13 rfl<|?_;have bd:=St.rb bJ;have st1:=bd.fr hu;have st2:=st1.fr hi;have aW:=st2.fr hr;have ba:=aW.fr hg;have bw:=ba.fact (B:=As.fz (FZ.Kx prog)) ht (fun _ hx=>hx);refine(fo) bw fun b4 w1 jK bG bj=>?_;refine(gu) bj fun b6 w2 mD eE bX=>?_;refine(bz) aP bX.b1<|?_;have bV:=bX;refine(dj) El (gL bV.e0 (As.gr bV.g5) (As.gr bV.g4) h6 Bs) ?_;rintro _ w3 ⟨f1,f2,f3,f4,f5,f6,Z1,rfl,gq,eN⟩;have cq:=St.lv bV eN gq;have J3:=St.cH eN;have F7:=St.cH eN.p1;have fx:=bV.size;have oO:=gq.le fx;have J7:=St.fresh cq;have aL:=cq.bN (by omega);have J8:=St.fresh aL.p1;have aO:=aL.p1.bN (by omega);have lA:=(oO.trans (cN.fh (F:=fun x=>x∈aI f1) J3) fx).trans (cN.fh (F:=fun x=>x∈aI f4) F7) fx;refine(dD) fT aO.p3 fun w4 jY j7 aS=>?_;refine(bz) aP aS.b0<|(dj) XL (oj (As.gr aS.g8) (As.gr aS.g2) (As.gr aS.g1) (As.gr aS.g5)) ?_;rintro _ w5 ⟨rfl,s5⟩;rw [CE];have bE:=aS.step s5;refine(aZ) (fun g20=>?_) fun g20=>?_
 ·
  exact absurd g20 (by simp)
 refine dE ?_;refine WC.dp (m:=6) [] [2,4] [0,1,2,3,4,5] [(5,.map)] bE (av.k4 M0 M1 M2 M3<|av.k4 M4 M5 M6 M7<|av.cons M8<|av.nil) mixed (by kernel_rfl) (by kernel_rfl) rfl<|(pd) aP SV.g0<|(iN) (fun w6 Tx EN bs uZ=>?_);simp only [CA,NA] at bs;have aY:=bs;refine OX.call acG rfl rfl ((Az (x:=x) aY.e0).mono ?_);rintro _ w7 ⟨d1,d2,d3,rfl,oh⟩;have aQ:=St.lr aY oh;refine⟨_,rfl,oh.cT.size,_,rfl,_,_,_,aQ,ay.k4<|ay.k4<|ay.k4<|ay.nil,av.k4 M3 M4 M5 M6<|av.k4 M7 M8 M9 jL<|av.cons kK<|av.nil,?_⟩;refine(pd) aP SV.g0<|(iN) (fun w8 Qa AX bF oS=>?_);simp only [CA,NA] at bF;have bK:=bF;refine OX.call El rfl rfl ((gL bK.e0 (As.gr bK.g5) (As.gr bK.g4) h6 Bs).mono ?_);rintro _ w9 ⟨q1,q2,q3,q4,q5,q6,Z3,rfl,qS,mu⟩;have br:=St.lv bK mu qS;have akY:=St.cH mu;have akZ:=St.cH mu.p1;have eB:=bK.size;have sF:=lA.trans qS eB;have ak0:=St.fresh br;have bT:=br.bN (by omega);have ak1:=St.fresh bT.p1;have cz:=bT.p1.bN (by omega);have AK:=(sF.trans (cN.fh (F:=fun x=>x∈aI q1) akY) eB).trans (cN.fh (F:=fun x=>x∈aI q4) akZ) eB;refine⟨_,rfl,mu.cT.size,_,rfl,_,_,_,cz,ay.k4<|ay.k4<|ay.k4<|ay.k2<|ay.nil,av.k4 M5 M6 M7 M8<|av.k4 M9 jL kK qf<|av.cons vm<|av.nil,?_⟩;refine DG.side (s:=.map) rfl rfl rfl rfl rfl rfl (fun wx Zx Rx Bx fJ=>OX.makeMap Key.val rfl fun b wy nw hb=>⟨nw.ext.size,_,rfl,⟨b,rfl⟩,fJ.RA nw hb⟩)<|?_;rintro _ ⟨b28,rfl⟩;refine(nU) ?_;intro kB EW cv;simp only [CM,NM,CA,NA,kY.it] at cv;refine WP .r (PV.bW (us:=(EA.cells ⟨q1,q4,none,q2,q3,q5,q6,0,0⟩ d1 b28 ⟨x,[],[],0⟩)) aip rfl rfl rfl)<|(fo) cv fun b30 kC adV adW cR=>?_;refine nx ?_;refine WL.nil (EX.np ?_);have bY:=cR.p5.p5;have cM:=bY.join (C:=As.l3 prog 134 ab x ⟨ar,f1,f4,r,cr,f2,f3,f5,f6,d2,d3,d1⟩) ⟨bY.abC,(As.gb bY.g0),⟨[],bq.nil,(As.gm bY.g1)⟩,⟨(As.gr bY.g15),(As.gr bY.g9),(As.gr bY.g8),(As.gf bY.g11)⟩⟩ (fun y h=>h);have dR:=cM.eP RR.key 39 2;refine nT ?_;refine WC.jC (σ:=Nat × ES × EA × (Nat→Prop)) (eJ:=fun(j,s1,E1,Z5)=>[(4,.pointer (some ⟨b4,0,none⟩)),(6,.pointer (some ⟨b6,0,none⟩)),(10,.pointer (some ⟨b30,0,none⟩)),(31,.slice ag g eg),(32,.int .i64 (g:Int)),(33,.int .i64 (j:Int))]) (F:=fun(j,s1,E1,Z5)=>[As.blk b30 88 (EA.cells E1 d1 b28 s1),As.map Key.val b28 s1.busy,As.os RR.key 39 2 E1.a3 E1.n3 E1.c3 s1.cU,As.ro RR.aF 4 E1.a1 E1.n1 E1.c1 s1.b.ae,As.ro RR.fV 8 E1.a2 E1.n2 E1.c2 s1.b.ak]) (I:=fun(j,s1,E1,Z5)=>(eD ab (valOf ab x.ae) f s1 (goals.drop j)=some s')∧(Good ab x.ae s1)∧(j≤g)∧(cN w.heap.size Z Z5)∧True) (μ:=fun(j,s1,E1,Z5)=>g - j) (Zf:=fun(j,s1,E1,Z5)=>Z5) (0,⟨x,[],[],0⟩,⟨q1,q4,none,q2,q3,q5,q6,0,0⟩,_) (dR.p4.p5.p2.p5.p5) Sub.t (⟨P3,tr,Nat.zero_le _,AK,trivial⟩)<|?_;rintro⟨j,s1,E1,Z5⟩ qb dz ⟨dO,pj,hj,nA,_⟩;simp only [CA,NA] at dz dO pj hj nA ⊢;refine(aZ) (fun yb=>?_) fun yb=>?_
 ·
  simp at yb
  have kR:j<goals.length:=by omega
  rw [List.drop_eq_getElem_cons kR] at dO;simp only [eD] at dO;obtain⟨t,QV,qF⟩:=Option.bind_eq_some_iff.1 dO;have hkj:=hk goals[j] (List.getElem_mem kR);have Ig:=(dm (val:=valOf ab x.ae) hR f).1 _ _ _ QV pj hkj;have hgc:=tn hR qF Ig.1 (fun k nj=>hk k (List.mem_of_mem_drop nj));refine ek ?_;obtain⟨ik,kf,jE,aU,fX,bD,cP,dM⟩:=Rd.at (As.gr dz.g12) kR;have bD:=RR.cy bD;subst bD;have dX:=dz.fg dM cP;refine nx ?_;refine WP .r (PV.fI fP aU rfl rfl (by omega))<|(bz) aq (As.nR dX.g0)<|(gu) dX fun yp tU Qk TF cX=>?_;refine(dD) jx cX fun yB sC nt dx=>?_;refine(bz) aq dx.b0<|?_;have cJ:=dx.p4.p4.p7.p5;refine(dj) XM (YS (D:=⟨ar,f1,f4,r,cr,f2,f3,f5,f6,d2,d3,d1⟩) hR Bs f _ _ _ _ _ _ _ cJ.e4 (As.gr cJ.g6) (As.gr cJ.g7) pj hkj QV (by have:=hgc.2.cU;omega)) ?_;rintro _ tV ⟨E2,Z6,rfl,HJ,hi6,hr6,Be⟩;have dc:=St.lv cJ Be HJ;have Bf:=nA.trans HJ cJ.size;have df:=dc.fr (hi6);have ez:=df.fr (hr6);have dA:=ez.p8.drop;have eC:=dA.p8.drop;refine gN ?_;refine fH (j+1,t,E2,Z6) ⟨eC.p6.drop.p6.drop.p1.p5.p5.p4,⟨qF,Ig.1,by omega,Bf,trivial⟩⟩
 simp at yb
 rw [List.drop_eq_nil_of_le (by omega)] at dO;simp only [eD,Option.some.injEq] at dO;subst dO;refine(bL) Dd dz.b0<|(aZ) (fun yk=>?_) fun yk=>?_
 ·
  simp at yk
  have dX:=dz.eP RR.key 39 2;refine nx ?_;refine WC.dp (m:=7) [] [5] [0,5,1,2,3,4,6] [] dX (av.k4 M0 M1 M2 M3<|av.k4 M4 M5 M6 M7<|av.k4 M8 M9 jL qf<|av.k4 vm FC Vu M16<|av.nil) mixed (by kernel_rfl) (by kernel_rfl) rfl<|(pd) aP SV.g8<|?_;refine DG.cs rfl rfl rfl rfl rfl (fun tU Rb B5 cX pS=>?_);simp only [CA,NA] at cX;refine OX.pG fT (As.gb cX.g11) rfl rfl rfl rfl rfl fun yB BO _ ry=>?_;have dx:=cX.oW.Gh BO ry;refine⟨BO.size,rfl,_,_,_,dx,ay.k4<|ay.k4<|ay.k4<|ay.k4<|ay.cons<|ay.nil,av.k4 M1 M2 M3 M4<|av.k4 M5 M6 M7 M8<|av.k4 M9 jL kK qf<|av.k4 vm FC Vu M16<|av.nil,?_⟩
  iterate 3 refine DG.a ?_
  refine(BA) Dd SV.g1<|(nU) ?_;intro tV Lk cJ;simp only [CM,NM,CA,NA,kY.it] at cJ;refine nx ?_;refine WL.nil (EX.np ?_);refine dE ?_;refine EX.iV rfl (RS.cell aP rfl cJ.b0 rfl<|RS.tmp rfl<|RS.tmp rfl<|RS.nil) rfl<|?_;have hb:s1.base x=x:=if_neg yk;have hl:s1.list=[]:=if_neg yk;exact⟨f1,f2,f3,f4,f5,f6,none,0,0,_,by rw [hb],nA,by rw [hb];exact(As.gr cJ.g11),by rw [hb];exact(As.gr cJ.g10),by rw [hl];exact(St.wk cJ.p1.k1)⟩
 simp at yk
 refine dE ?_;have Nn:=((As.gs dz.g2)).len;have Za:=St.fresh dz.p2;have dX:=dz.p2.bN (by omega);have hZr:=nA.trans (cN.fh (F:=fun x=>x∈aI E1.a3) Za) (Nat.le_refl _);refine WC.dp (m:=9) [] [8] [4,5,6,7,8,0,1,2,3] [] dX (av.k4 M0 M1 M2 M3<|av.k4 M4 M5 M6 M7<|av.k4 M8 M9 jL kK<|av.k4 qf vm FC Vu<|av.nil) mixed (by kernel_rfl) (by kernel_rfl) rfl<|?_
 iterate 3 refine DG.a ?_
 refine(BA) gK SV.g1<|(iN) (fun tU R8x ak3 cX aeT=>?_);simp only [CA,NA] at cX;have dx:=cX;refine OX.call acH rfl rfl ((uU dx.e0 (As.gr dx.g0) (fun _ h _=>h) qa).mono ?_);rintro _ yB ⟨o1,o2,o3,rfl,xP⟩;have cJ:=St.lr dx xP;refine⟨_,rfl,xP.cT.size,_,rfl,_,_,_,cJ,ay.k4<|ay.k4<|ay.k4<|ay.k4<|ay.cons<|ay.nil,av.k4 M1 M2 M3 M4<|av.k4 M5 M6 M7 M8<|av.k4 M9 jL kK qf<|av.k4 vm FC Vu M16<|av.nil,?_⟩
 iterate 3 refine DG.a ?_
 refine(LM) aP SV.g1<|(nU)<|?_;intro tV Hv dc;simp only [CM,NM,CA,NA,kY.it] at dc;refine(dD) fT dc.oW fun xE Q5 vJ df=>?_;refine cS ?_;refine WL.nil (EX.np ?_);refine cS ?_;refine EX.iV rfl (RS.cell aP rfl df.b0 rfl<|RS.tmp rfl<|RS.tmp rfl<|RS.nil) rfl<|?_;have hb:s1.base x=s1.b:=if_pos yk;have hl:s1.list=mb s1.cU:=if_pos yk;exact⟨E1.a1,E1.n1,E1.c1,E1.a2,E1.n2,E1.c2,o1,o2,o3,_,by rw [hb,yk];rfl,hZr,by rw [hb];exact(As.gr df.g5),by rw [hb];exact(As.gr df.g6),by rw [hl];exact(St.wk df.p1.k1)⟩
set_option maxHeartbeats 400000
set_option maxHeartbeats 400000
set_option maxHeartbeats 400000
theorem TG(hR:aw ab) (hS:∀k,(valOf ab x.ae k).size≤1000):∀i:Nat,i<ab.length→Vd ab x D (aN ab (i:Int)):=by
 intro i;have rT:=hR.len;have low:∀n:Nat,n≤15→Vd ab x D (du (n:Int)):=fun n hn w M Z ml al bJ hf hm _=>xO bJ hf hm (cE (by omega))
 induction i using Nat.strongRecOn with
 | _ i IH=>
  intro hi w M Z ml al bJ hf hm th
  have lC:i≤99:=by omega
  have ak4:pg ab i al:=by
   have h:=th (eG hi lC);rw [dy hi lC,Int.toNat_natCast] at h;exact h
  refine J6 bJ hf hm hR hi hS ak4 (fun hr w M Z ml al bJ hf hm th=>?_) (fun hr a ha=>?_)
  ·
   rw [dy hi lC,Int.toNat_natCast] at th;refine ET bJ hf hm hR hS hi hr th fun j hj a ha hc=>?_;have tq:=ha.cyc hR
   rcases ha with⟨n,hn,rfl⟩ | ⟨m,hm,rfl,h1,h2,h3,h4⟩
   ·
    exact low n hn
   have hrm:aD ab m=false:=by
    rw [hc,fM hm (by omega)] at tq
    cases h:aD ab m
    ·
     rfl
    rw [h] at tq;simp at tq
   have Ib:cj ab j≤i:=Nat.le_trans (mP hR hj) (iv ab i)
   have hmj:m<i:=by
    have:=h4 hrm (kZ hi hr hj).2
    omega
   exact IH m hmj hm
  rcases ha with⟨n,hn,rfl⟩ | ⟨m,hm,rfl,_,h2,_⟩
  ·
   exact low n hn
  exact IH m (h2 hr) hm
theorem Zc(hR:aw ab) (hS:∀k,(valOf ab x.ae k).size≤1000) {k:Key}(hk:gA ab k):Vd ab x D k:=by
 cases hk with
 | cell h=>exact fun w M Z ml al bJ hf hm _=>xO bJ hf hm (cE h)
 | gQ h _=>exact TG hR hS _ h
set_option maxHeartbeats 400000
theorem HK{l:List Int}(bJ:St w M Z w []) (hl:Rd RR.int 1 Z w a n c l) (h4:n≤400):Calls prog 8 #[.slice a n c] w fun e w'=>∃d,e=.returned (.pointer (some ⟨d,0,none⟩))∧St w M Z w' [As.ju 74 d]:=
 (JF (A:=Z) (l:=l) hl h4).mono fun e w' ⟨d,h1,h2,h3,hc⟩=>⟨d,h1,bJ.new hc h3 fun x hx=>by have hx:x=d:=hx;subst hx;exact h2⟩
theorem bR(bJ:St w M Z w [As.ju 74 d]) (hm:m≤4611686018427387904):Calls prog 38 #[.pointer (some ⟨d,0,none⟩),.int .i64 m] w fun e w'=>∃z:Int,e=.returned (.int .i64 z)∧0≤z∧(1≤m→z<m)∧St w M Z w' [As.ju 74 d]:=
 (JG (A:=Z) (As.gd bJ.g0) (bJ.o9 (As.ju 74 d) (by simp) d rfl) hm).mono fun e w' ⟨z,h1,h2,h3,hc,hd⟩=>⟨z,h1,h2,h3,bJ.nP (hc.p.mono fun x _ hx=>show x=d from by simpa using hx) hd fun x hx=>.inl hx⟩
theorem HL{l:List ByteArray}(bJ:St w M Z w [As.ju 74 d,As.os RR.str 9 1 a r c l]) (h0:0<r) (h1:r≤1000):Calls prog 73 #[.pointer (some ⟨d,0,none⟩),.slice a r c] w fun e w'=>∃s:ByteArray,e=.returned (.string s)∧s∈l∧St w M Z w' [As.ju 74 d,As.os RR.str 9 1 a r c l]:=by
 have hlen:=(As.gs bJ.g1).len;refine enter func73 rfl ntmps73 rfl<|?_;have bd:=bJ;refine vE ?_;have st1:=bd;refine(dj) lP (bR st1.e1 (m:=(r:Int)) (by omega)) ?_;rintro _ w1 ⟨z,rfl,asm,aeU,AV⟩;have st2:=St.lr st1 AV;have aeU:=aeU (by omega);obtain⟨i,rfl⟩:∃i:Nat,z=i:=⟨z.toNat,by omega⟩
 have hi:i<l.length:=by omega
 obtain⟨ik,aU⟩:=Ow.addr (As.gs st2.g1) (ao hi);refine WP .r (PV.fI sy aU rfl rfl (by omega))<|WP .r (PV.pF iG (Ow.qu (As.gs st2.g1) (by omega) aU (ao hi)) rfl rfl)<|(cA) ?_;exact⟨_,rfl,List.getElem_mem hi,st2⟩
theorem B8(bJ:St w M Z w [As.ju 74 d]):Calls prog 47 #[.pointer (some ⟨d,0,none⟩)] w fun e w'=>∃x:Change,e=.returned (.agg x.cells.toArray)∧x.small∧St w M Z w' [As.ju 74 d]:=by
 refine enter func47 rfl ntmps47 rfl<|?_;have bd:=bJ;refine(gu) bd fun b2 w1 nz fm st1=>?_;refine ek ?_;have st2:=st1.p1;refine(dj) lP (bR st2.e1 (m:=4) (by omega)) ?_;rintro _ w2 ⟨z4,rfl,Ql,HM,u7⟩;have aW:=St.lr st2 u7;have HM:=HM (by omega);refine(iz) (je (n:=z4)) aW fun w3 s3 ba=>?_;refine nx ?_;refine WL.go rfl (OX.aR (us:=words.map Value.string) Pc rfl rfl rfl rfl fun b7 w4 vq oe=>?_);have bw:=St.tc (R:=RR.str) (E:=9) (k:=1) (a:=some ⟨b7,0,none⟩) (n:=10) (c:=10) (xs:=words) ba vq.ext (Ow.flat oe rfl (by simp) (by simp [words,Value.oneCell']) rfl (by decide)) (fun x hx=>by simp [aI] at hx;subst hx;exact vq.ge);have bj:=bw.p1;refine(dj) ai2 (HL bj.e2 (by decide) (by decide)) ?_;rintro _ w5 ⟨s,rfl,hs,jF⟩;have bX:=St.lr bj jF;refine WP .r (PV.bW (us:=(Change.mk (du z4) s).cells) acp rfl rfl rfl)<|(dD) Pg bX.p2 fun w6 jY j7 bV=>?_;refine(mz) G1 bV.b0<|?_;exact⟨⟨du z4,s⟩,rfl,⟨⟨z4,Ql,by omega,rfl⟩,PC s hs⟩,bV.drop.p1.drop⟩
theorem qU(bJ:St w M Z w [As.ju 74 d]) (hm:0≤m) (kM:m≤1000):Calls prog 22 #[.pointer (some ⟨d,0,none⟩),.int .i64 m] w fun e w'=>∃a n c,∃l:List Change,e=.returned (.slice a n c)∧(l.length:Int)≤m∧(∀x∈l,x.small)∧St w M Z w' [As.ju 74 d,As.os RR.cT 71 3 a n c l]:=by
 refine enter func22 rfl ntmps22 rfl<|?_;have bd:=bJ;have st1:=bd.eP RR.cT 71 3;refine bf ?_;refine dW ?_;have st2:=st1.p1;refine(dj) lP (bR st2.e1 (m:=m+1) (by omega)) ?_;rintro _ w1 ⟨z0,rfl,Qm,qV,AV⟩;have aW:=St.lr st2 AV;have qV:=qV (by omega);obtain⟨z,rfl⟩:∃z:Nat,z0=z:=⟨z0.toNat,by omega⟩;refine dW ?_;refine WC.ct (σ:=Nat × (List Change) × (Option Addr) × Nat × Nat) (eJ:=fun(i,l,fY,eA,fZ)=>[(0,.pointer (some ⟨d,0,none⟩)),(5,.slice fY eA fZ),(6,.int .i64 (i:Int))]) (F:=fun(i,l,fY,eA,fZ)=>[As.os RR.cT 71 3 fY eA fZ (l),As.ju 74 d]) (I:=fun(i,l,fY,eA,fZ)=>(l.length+i≤z)∧(∀x∈l,x.small)∧True) (μ:=fun(i,l,fY,eA,fZ)=>i) (z,[],none,0,0) (aW.p1) Sub.t (⟨by simp,by simp,trivial⟩)<|?_;rintro⟨i,l,fY,eA,fZ⟩ w2 ba ⟨hlz,Dm,_⟩;simp only [CA,NA] at ba hlz Dm ⊢;have Ur:=((As.gs ba.g0)).len;refine(aZ) (fun g12=>?_) fun g12=>?_
 ·
  simp at g12
  refine gN ?_;have bw:=ba.p1;refine(dj) aiJ (B8 bw.e1) ?_;rintro _ w3 ⟨x,rfl,hx,eN⟩;have bj:=St.lr bw eN;refine WL.go rfl (OX.aR (us:=x.cells) Pb rfl rfl rfl rfl fun b18 w4 Yf Yg=>?_);have bX:=bj.eF Yf Yg;refine WL.ap rfl rfl bX.p2 (SR.ew (A:=fun _=>True) (x:=x) (As.gb bX.g0) trivial rfl (by simp [Change.cells,Value.oneCell']) rfl) fun a19 Yh w5 ajG ajH bV=>?_;refine qi ?_;refine fH (i - 1,l++[x],a19,(eA+1),Yh) ⟨bV.p1.drop,⟨by simp;omega,fun y hy=>by rcases List.mem_append.1 hy with h | h;exact Dm y h;simp at h;subst h;exact hx,trivial⟩⟩
 simp at g12
 refine(cA) ?_;exact⟨_,_,_,l,rfl,by omega,Dm,ba.p1⟩
set_option maxHeartbeats 4000000 in
theorem EY(bJ:St w M Z w [As.ju 74 d]):Calls prog 20 #[.pointer (some ⟨d,0,none⟩)] w fun e w'=>∃a n c,∃l:List aG,∃Z',e=.returned (.slice a n c)∧aw l∧2≤l.length∧l.length≤8∧cN w.heap.size Z Z'∧St w M Z' w' [As.ju 74 d,As.os RR.gQ 59 4 a n c l]:=by
 refine enter func20 rfl ntmps20 rfl<|?_;have bd:=bJ;have st1:=bd.eP RR.gQ 59 4;refine bf ?_;refine cS ?_;have st2:=st1.p1;refine(dj) lP (bR st2.e1 (m:=7) (by omega)) ?_;rintro _ w1 ⟨z0,rfl,Qm,qV,AV⟩;have aW:=St.lr st2 AV;have qV:=qV (by omega);obtain⟨z,rfl⟩:∃z:Nat,z0=z:=⟨z0.toNat,by omega⟩;refine ek ?_;refine WC.ct (σ:=Nat × (List aG) × (Option Addr) × Nat × Nat) (eJ:=fun(i,l,fY,eA,fZ)=>[(0,.pointer (some ⟨d,0,none⟩)),(3,.slice fY eA fZ),(4,.int .i64 (i:Int))]) (F:=fun(i,l,fY,eA,fZ)=>[As.os RR.gQ 59 4 fY eA fZ (l),As.ju 74 d]) (I:=fun(i,l,fY,eA,fZ)=>(l.length+i=z+2)∧True) (μ:=fun(i,l,fY,eA,fZ)=>i) (z+2,[],none,0,0) (aW.p1) Sub.t (⟨by simp,trivial⟩)<|?_;rintro⟨i,l,fY,eA,fZ⟩ w2 ba ⟨hlz,_⟩;simp only [CA,NA] at ba hlz ⊢;have Ur:=((As.gs ba.g0)).len;refine(aZ) (fun g16=>?_) fun g16=>?_
 ·
  simp at g16
  refine gN ?_;have bw:=ba.p1;refine(dj) lP (bR bw.e1 (m:=3) (by omega)) ?_;rintro _ w3 ⟨z1,rfl,aog,Vg,eN⟩;have bj:=St.lr bw eN;have Vg:=Vg (by omega);obtain⟨g,hg⟩:∃g:Bool,g=decide (z1=1):=⟨_,rfl⟩;refine nx ?_;refine WP .r (PV.bW (us:=[.bool (decide (z1=1)),.slice none 0 0,.int .i64 0,.int .i64 0]) Sv rfl rfl rfl)<|?_;refine WL.go rfl (OX.aR (us:=[.bool (decide (z1=1)),.slice none 0 0,.int .i64 0,.int .i64 0]) Pa rfl rfl rfl rfl fun b24 w4 ak5 ak6=>?_);have bX:=bj.eF ak5 ak6;refine WL.ap rfl rfl bX.p2 (SR.ew (A:=fun _=>True) (x:=begun g) (As.gb bX.g0) trivial rfl (by simp [Value.oneCell']) ⟨none,0,0,by rw [hg];rfl,SR.nil _ _ _ _⟩) fun a25 ak7 w5 asn aso bV=>?_;refine qi ?_;refine fH (i - 1,l++[begun g],a25,(eA+1),ak7) ⟨bV.p1.drop,⟨by simp;omega,trivial⟩⟩
 simp at g16
 refine bf ?_;refine cS ?_;refine WC.jC (σ:=Nat × (List aG) × (Nat→Prop)) (eJ:=fun(i,l1,Z1)=>[(0,.pointer (some ⟨d,0,none⟩)),(3,.slice fY eA fZ),(27,.int .i64 (eA:Int)),(28,.int .i64 (i:Int))]) (F:=fun(i,l1,Z1)=>[As.ju 74 d,As.os RR.gQ 59 4 fY eA fZ l1]) (I:=fun(i,l1,Z1)=>(i≤eA)∧(nY l1 i)∧(cN w.heap.size Z Z1)∧True) (μ:=fun(i,l1,Z1)=>eA - i) (Zf:=fun(i,l1,Z1)=>Z1) (0,l,Z) (ba.p1) Sub.t (⟨Nat.zero_le _,nY.start (by omega),cN.refl _ _,trivial⟩)<|?_;rintro⟨i,l1,Z1⟩ w3 bw ⟨hi,hPo,hZ,_⟩;simp only [CA,NA] at bw hi hPo hZ ⊢;have jJ:=((As.gs bw.g1)).len;have hP8:=hPo.1;refine(aZ) (fun qj=>?_) fun qj=>?_
 ·
  simp at qj
  have cV:i<l1.length:=by omega
  have hrt:=cQ cV;have EB:=BD cV;refine bf ?_;refine(iz) (xw (n:=(i:Int)) (Ow.rd (As.gs bw.g1) (by omega))) bw fun w4 s4 bj=>?_;refine qi ?_;obtain⟨bx,lU⟩:=Ow.addr (As.gs bj.g1) (ao cV);refine dE ?_;refine WP .r (PV.fI lq lU rfl rfl (by omega))<|nx ?_;refine WP .r (PV.pF ft (Ow.ring (As.gs bj.g1) lU (by omega) cV) rfl rfl)<|dE ?_;have bX:=bj;refine WC.mN (σ:=Int) [] (fun most=>[(0,.pointer (some ⟨d,0,none⟩)),(3,.slice fY eA fZ),(5,.int .i64 (i:Int)),(7,.int .i64 most),(27,.int .i64 (eA:Int)),(28,.int .i64 (i:Int))]) (fun most=>[]) (fun most=>(most=gP l1 i)∧True) bX ?_ ?_
  ·
   refine(aZ) (fun lW=>?_) fun lW=>?_
   ·
    have lW:l1[i].ring=false:=by simpa using lW
    refine dW ?_;exact sg ((block l1 (i:Int)).1) ⟨bX,⟨by unfold gP;rw [hrt,lW];rfl,trivial⟩⟩
   have lW:l1[i].ring=true:=by simpa using lW
   refine nx ?_;exact sg ((block l1 (i:Int)).2) ⟨bX,⟨by unfold gP;rw [hrt,lW];rfl,trivial⟩⟩
  rintro most w5 bV ⟨Vh,_⟩;simp only [CA,NA] at bV Vh ⊢;refine cS ?_;refine WC.dp (m:=12) [] [6,9] [5,6,8,9,0,1,2,3,4,7,10,11] [(11,.blk 59 [.bool false,.slice none 0 0,.int .i64 0,.int .i64 0])] bV (av.cons M1<|av.nil) mixed (by kernel_rfl) (by kernel_rfl) rfl<|(iN) (fun w6 R6x Na cq vd=>?_);simp only [CA,NA] at cq;have aL:=cq;refine OX.call lP rfl rfl ((bR aL.e1 (m:=4) (by omega)).mono ?_);rintro _ w7 ⟨z2,rfl,aeW,HN,oh⟩;have aO:=St.lr aL oh;have HN:=HN (by omega);refine⟨_,rfl,oh.cT.size,_,rfl,_,_,_,aO,ay.k2<|ay.nil,av.cons M1<|av.nil,?_⟩;refine(iN) (fun w8 R9x Qc aS AY=>?_);simp only [CA,NA] at aS;have bE:=aS;refine OX.call lP rfl rfl ((bR bE.e1 (m:=6) (by omega)).mono ?_);rintro _ w9 ⟨z3,rfl,aeX,HO,mu⟩;have bs:=St.lr bE mu;have HO:=HO (by omega);refine⟨_,rfl,mu.cT.size,_,rfl,_,_,_,bs,ay.k2<|ay.nil,av.cons M1<|av.nil,?_⟩
  iterate 2 refine DG.a ?_
  refine DQ .r (fun wx Zx Rx _ fJ kU=>PV.fI lq lU rfl rfl (by omega))<|?_;refine DG.a<|?_;refine DQ .r (fun wx Zx Rx _ fJ kU=>PV.pF ft (Ow.ring (As.gs (fJ.sv kU).g0) lU (by omega) cV) rfl rfl)<|?_;refine DG.a<|?_;refine DQ .r (fun wx Zx Rx _ fJ kU=>PV.bW (us:=[.bool l1[i].ring,.slice none 0 0,.int .i64 (1+z2),.int .i64 z3]) Sv rfl rfl rfl)<|?_;refine DG.side (s:=.blk 59 [.bool false,.slice none 0 0,.int .i64 0,.int .i64 0]) rfl rfl rfl rfl rfl rfl (fun wx Zx Rx Bx fJ=>OX.alloc Sx rfl fun b wy nw hb=>⟨nw.ext.size,_,rfl,⟨b,rfl⟩,fJ.eF nw hb⟩)<|?_;rintro _ ⟨b8,rfl⟩;refine(nU) ?_;intro kB Lk aY;simp only [CM,NM,CA,NA,kY.it] at aY;refine(dD) Jt aY fun kC jY j7 aQ=>?_;refine WL.nil (EX.np ?_);refine(bL) ft aQ.b0<|cS ?_;have bF:=aQ;refine WC.mN (σ:=Int × Int) [_] (fun(f0,c0)=>[(0,.pointer (some ⟨d,0,none⟩)),(3,.slice fY eA fZ),(5,.int .i64 (i:Int)),(7,.int .i64 most),(8,.pointer (some ⟨b8,0,none⟩)),(27,.int .i64 (eA:Int)),(28,.int .i64 (i:Int))]) (fun(f0,c0)=>[As.blk b8 59 [.bool l1[i].ring,.slice none 0 0,.int .i64 f0,.int .i64 c0]]) (fun(f0,c0)=>(∀xs:List Ask,jB ⟨l1[i].ring,xs,f0,c0⟩=true)∧True) bF ?_ ?_
  ·
   refine(aZ) (fun MX=>?_) fun MX=>?_
   ·
    have ak8:d<kC.heap.size:=(As.ju 74 d).lt (bF.g1) d rfl;have Qn:b8<kC.heap.size:=((As.gb bF.g0)).lt;have bK:=bF;have br:=bK.conv (B:=As.ahH (ι:=Int) b8 59 fun f=>[.bool l1[i].ring,.slice none 0 0,.int .i64 f,.int .i64 z3]) ⟨_,(As.gb bK.g0)⟩ (fun _ h=>h);have ak9:=br.cY;have aeY:=br.ma;have aeZ:=br.size;refine WC.Ob (m:=8) (fun j w w'=>match j with | 2=>jb (fun x=>x=d) w w' | 6=>jb (fun x=>x=b8) w w' | _=>jb (fun _=>False) w w') (E:=dr [(0,PS kC.heap.size 3 6 [.int .i64 0,.int .i64 1,.int .i64 2,.int .i64 4,.int .i64 8,.int .i64 16]),(2,fun v _=>∃z:Nat,v=.int .i64 (z:Int)∧z<6),(3,fun v wx=>∃b k:Nat,v=.pointer (some ⟨b,0+k*1,none⟩)∧k<6∧kC.heap.size≤b∧cW wx b 3 [.int .i64 0,.int .i64 1,.int .i64 2,.int .i64 4,.int .i64 8,.int .i64 16]),(4,fun v _=>∃z:Int,v=.int .i64 z∧0≤z∧z≤65535),(6,fun _ wx=>wx.cell? ⟨b8,2,none⟩=some (.int .i64 5))]) br (oB (⟨⟨trivial,fun _ _ _ _ _ c h=>PS.st (fun x hx=>by subst hx;exact ak8) c h,fun _ _ _ _ _ c h=>PS.st (fun x hx=>hx.elim) c h,fun _ _ _ _ _ c h=>PS.st (fun x hx=>hx.elim) c h,fun _ _ _ _ _ c h=>PS.st (fun x hx=>by subst hx;exact Qn) c h,trivial⟩,⟨⟨fun _ _ _ _ _ _ h=>h,trivial,fun _ _ _ _ _ _ h=>h,fun _ _ _ _ _ _ h=>h,fun _ _ _ _ _ _ h=>h,trivial⟩,⟨⟨trivial,trivial,trivial,fun _ _ _ _ _ c ⟨b,k,h1,h2,h3,h4⟩=>⟨b,k,h1,h2,h3,(PB.get (PB.st (fun x hx=>hx.elim) c (v:=.pointer (some ⟨b,0,none⟩)) ⟨b,rfl,h3,h4⟩)).2⟩,fun _ _ _ _ _ c ⟨b,k,h1,h2,h3,h4⟩=>⟨b,k,h1,h2,h3,(PB.get (PB.st (fun x hx=>by subst hx;exact Qn) c (v:=.pointer (some ⟨b,0,none⟩)) ⟨b,rfl,h3,h4⟩)).2⟩,trivial⟩,⟨⟨fun _ _ _ _ _ _ h=>h,fun _ _ _ _ _ _ h=>h,trivial,trivial,fun _ _ _ _ _ _ h=>h,trivial⟩,⟨⟨fun _ _ _ _ _ c h=>by rw [← h];exact World.cell?_of_block (c.block b8 (by omega) (fun hx=>hx.elim)),trivial,fun _ _ _ _ _ c h=>by rw [← h];exact World.cell?_of_block (c.block b8 (by omega) (fun hx=>hx.elim)),fun _ _ _ _ _ c h=>by rw [← h];exact World.cell?_of_block (c.block b8 (by omega) (fun hx=>hx.elim)),trivial,trivial⟩,trivial⟩⟩⟩⟩⟩)) mixed (by kernel_rfl)<|?_;refine DW.e rfl rfl rfl rfl rfl (fun wx hC hF=>OX.aR (us:=[.int .i64 0,.int .i64 1,.int .i64 2,.int .i64 4,.int .i64 8,.int .i64 16]) Xs rfl rfl rfl rfl fun b wy nw hb=>⟨⟨Nat.le_trans hC.1 nw.ext.size,hC.2.step nw.ext⟩,nw.ext.p0,_,rfl,_,rfl,Nat.le_trans hC.1 nw.ge,hb⟩)<|?_;rintro _ wz _ ⟨b57,rfl,_,_⟩;refine nx ?_;refine DW.e rfl rfl rfl rfl rfl (fun wx hC hF=>OX.call lP rfl rfl ((bR (hC.2.one (.tail _ (.head _))) (m:=6) (by omega)).mono ?_))<|?_
    ·
     rintro _ wy ⟨z,rfl,h0,h1,hy⟩;exact⟨_,rfl,⟨Nat.le_trans hC.1 hy.cT.size,hC.2.CI M1 hy⟩,hy.cT.mono (fun x _ hx=>by obtain⟨A,hA,hx⟩:=hx;simp at hA;subst hA;exact hx),_,rfl,⟨z.toNat,by congr 1;omega,by have:=h1 (by omega);omega⟩⟩
    rintro _ wz _ ⟨z13,rfl,z131⟩
    refine DW.e rfl rfl rfl rfl rfl (fun wx hC hF=>by
     obtain⟨_,⟨b1_,dN,fm,dL⟩,_⟩:=hF;simp only [Value.slice.injEq,Option.some.injEq,Addr.mk.injEq,and_true,true_and] at dN;subst dN;exact OX.pv (PV.ix (i:=z13) Js rfl rfl z131) rfl ⟨hC,jb.refl _ _,_,rfl,_,z13,rfl,z131,fm,dL⟩) ?_
    rintro _ wz _ ⟨b3,k3,rfl,xa,Hi,dL⟩
    refine DW.e rfl rfl rfl rfl rfl (fun wx hC hF=>by
     obtain⟨⟨b1_,k1_,sn,nj,_,qP⟩,_⟩:=hF;simp only [Value.pointer.injEq,Option.some.injEq,Addr.mk.injEq,and_true] at sn;obtain⟨rfl,KC⟩:=sn
     obtain⟨z,hz,h0,h1⟩:∃z:Int,nth [.int .i64 0,.int .i64 1,.int .i64 2,.int .i64 4,.int .i64 8,.int .i64 16] (k3*1)=some (.int .i64 z)∧0≤z∧z≤65535:=by
      have h6:k3=0∨k3=1∨k3=2∨k3=3∨k3=4∨k3=5:=by omega
      rcases h6 with rfl | rfl | rfl | rfl | rfl | rfl <;> exact⟨_,rfl,by decide,by decide⟩
     exact OX.pv (PV.ld1 (o:=0) (j:=k3*1) aT (cW.range qP) rfl hz) rfl ⟨hC,jb.refl _ _,_,rfl,z,rfl,h0,h1⟩) ?_
    rintro _ wz _ ⟨z5,rfl,h5a,h5b⟩;refine nx ?_
    refine DW.e0 rfl rfl rfl rfl (fun wx hC hF=>by
     obtain⟨f,hb⟩:∃f:Int,cW wx b8 59 [.bool l1[i].ring,.slice none 0 0,.int .i64 f,.int .i64 z3]:=hC.2.ok _ M0;exact OX.st (j:=2) Q0 hb rfl rfl (by simp [nth]) rfl rfl fun wy s hsz fm=>⟨⟨Nat.le_trans hC.1 s.size,hC.2.same M0 (s.p.mono fun x _ hx=>show x=b8 from by simpa using hx) ⟨5,fm⟩⟩,s.p.mono (fun x _ hx=>by simpa using hx),fun _=>cW.range fm 2 _ rfl⟩) ?_
    rintro _ wz _ h6c;refine(eh) ?_;rintro qb ⟨ae0,bT⟩ ⟨YH,⟨_,⟨_,⟨_,⟨hF0,_⟩⟩⟩⟩⟩;have cz:=bT.xW (PS.pb hF0) ak9 aeY aeZ;have cv:=cz.p1
    have cR:=cv.conv (B:=As.blk b8 59 [.bool l1[i].ring,.slice none 0 0,.int .i64 5,.int .i64 z3]) (by
     obtain⟨f,hb⟩:∃f:Int,cW qb b8 59 [.bool l1[i].ring,.slice none 0 0,.int .i64 f,.int .i64 z3]:=cv.ok _ M0;have h1:=(cW.range hb 2 _ rfl).symm.trans YH
     have h2:f=5:=by simpa using h1
     subst h2;exact hb) (fun _ h=>h)
    refine WL.s1 cR fun tU _ bY=>?_;refine nx ?_;exact sg (5,z5) ⟨bY.p1.drop,⟨fun _=>by unfold jB;simp [MX,h5a,h5b],trivial⟩⟩
   have MX:l1[i].ring=false:=by simpa using MX
   refine nx ?_;exact sg (1+z2,z3) ⟨bF,⟨fun _=>by unfold jB;simp [MX];omega,trivial⟩⟩
  rintro⟨f0,c0⟩ qb bK ⟨TH,_⟩;simp only [CA,NA] at bK TH ⊢;refine ek ?_;have br:=bK.p1;refine(dj) lP (bR br.e1 (m:=4) (by omega)) ?_;rintro _ tU ⟨z6,rfl,aoi,Vi,Hs⟩;have bT:=St.lr br Hs;have Vi:=Vi (by omega);obtain⟨z,hz6⟩:∃z:Nat,z6=z:=⟨z6.toNat,by omega⟩;subst hz6;refine dW ?_;have cz:=bT.eP RR.ask 61 4;refine WC.ct (σ:=Nat × (List Ask) × (Option Addr) × Nat × Nat) (eJ:=fun(k,xs,EZ,HP,J9)=>[(0,.pointer (some ⟨d,0,none⟩)),(3,.slice fY eA fZ),(5,.int .i64 (i:Int)),(7,.int .i64 most),(8,.pointer (some ⟨b8,0,none⟩)),(9,.int .i64 (k:Int)),(27,.int .i64 (eA:Int)),(28,.int .i64 (i:Int))]) (F:=fun(k,xs,EZ,HP,J9)=>[As.os RR.ask 61 4 EZ HP J9 (xs),As.blk b8 59 [.bool l1[i].ring,.slice EZ HP J9,.int .i64 f0,.int .i64 c0],As.ju 74 d]) (I:=fun(k,xs,EZ,HP,J9)=>(∀x∈aI EZ,w.heap.size≤x)∧(xs.length+k≤3)∧(∀(k:Nat) x,xs[k]?=some x→gG l1 i l1[i].ring k x=true)∧True) (μ:=fun(k,xs,EZ,HP,J9)=>k) (z,[],none,0,0) (cz.p1.p2.p2) Sub.t (⟨by simp [aI],by simp;omega,by simp,trivial⟩)<|?_;rintro⟨k,xs,EZ,HP,J9⟩ yB cv ⟨hga,hxk,eX,_⟩;simp only [CA,NA] at cv hga hxk eX ⊢;have hxl:=((As.gs cv.g0)).len;refine(aZ) (fun jl=>?_) fun jl=>?_
  ·
   simp at jl
   refine ek ?_;have cR:=cv.p2;refine WC.mN (σ:=Nat × Bool) [_] (fun(iJ,cell)=>[(0,.pointer (some ⟨d,0,none⟩)),(3,.slice fY eA fZ),(5,.int .i64 (i:Int)),(7,.int .i64 most),(8,.pointer (some ⟨b8,0,none⟩)),(9,.int .i64 (k:Int)),(10,.pointer (some ⟨iJ,0,none⟩)),(27,.int .i64 (eA:Int)),(28,.int .i64 (i:Int))]) (fun(iJ,cell)=>[As.blk iJ 61 [.bool cell,.bool false,.int .i64 0,.int .i64 0],As.ju 74 d]) (fun(iJ,cell)=>(cell=false→most≠0)∧True) cR ?_ ?_
   ·
    refine cS ?_;have bY:=cR;refine(dj) lP (bR bY.e1 (m:=3) (by omega)) ?_;rintro _ tV ⟨z7,rfl,ae1,HQ,Be⟩;have cM:=St.lr bY Be;have HQ:=HQ (by omega);refine(dY) (fun Re=>?_) (fun Re=>?_)
    ·
     refine dE ?_;refine WP .r (PV.bW (us:=_) Sw rfl rfl rfl)<|(gu) cM fun iJ xE lz fE dR=>?_;refine(dD) Ju dR fun BR sC nt dz=>?_;refine nx ?_;exact sg (iJ,true) ⟨dz,⟨(fun h=>by cases h),trivial⟩⟩
    refine dE ?_;refine WP .r (PV.bW (us:=_) Sw rfl rfl rfl)<|(gu) cM fun iJ xE lz fE dR=>?_;refine(dD) Ju dR fun BR BO ry dz=>?_;refine nx ?_;exact sg (iJ,decide (most=0)) ⟨dz,⟨fun h=>by simpa using h,trivial⟩⟩
   rintro⟨iJ,cell⟩ tV bY ⟨Cm,_⟩;simp only [CA,NA] at bY Cm ⊢;refine(bL) ft bY.b0<|cS ?_;have cM:=bY;refine WC.mN (σ:=Int) [] (fun m2=>[(0,.pointer (some ⟨d,0,none⟩)),(3,.slice fY eA fZ),(5,.int .i64 (i:Int)),(7,.int .i64 most),(8,.pointer (some ⟨b8,0,none⟩)),(9,.int .i64 (k:Int)),(10,.pointer (some ⟨iJ,0,none⟩)),(11,.int .i64 m2),(27,.int .i64 (eA:Int)),(28,.int .i64 (i:Int))]) (fun m2=>[]) (fun m2=>(m2=if cell then 4 else gP l1 i)∧True) cM ?_ ?_
   ·
    refine(aZ) (fun g80=>?_) fun g80=>?_
    ·
     refine dE ?_;exact sg (4) ⟨cM,⟨by rw [g80];rfl,trivial⟩⟩
    have g80:cell=false:=by simpa using g80
    refine nx ?_;exact sg (most) ⟨cM,⟨by rw [g80,Vh];rfl,trivial⟩⟩
   rintro m2 xE dR ⟨Q7,_⟩;simp only [CA,NA] at dR Q7 ⊢
   have Bu:1≤m2∧m2≤24:=by
    cases cell
    ·
     simp at Q7;have:=Cm rfl;omega
    simp at Q7;omega
   refine ek ?_;have dz:=dR.p1;refine(dj) lP (bR dz.e1 (m:=m2) (by omega)) ?_;rintro _ BR ⟨z8,rfl,ae3,HR,AL⟩;have dX:=St.lr dz AL;have HR:=HR (by omega);refine nx ?_;refine WL.s1 dX.p1 fun Bw _ cX=>?_;refine dW ?_;have dx:=cX.p1;refine WC.mN (σ:=Bool) [_] (fun b92=>[(0,.pointer (some ⟨d,0,none⟩)),(3,.slice fY eA fZ),(5,.int .i64 (i:Int)),(7,.int .i64 most),(8,.pointer (some ⟨b8,0,none⟩)),(9,.int .i64 (k:Int)),(10,.pointer (some ⟨iJ,0,none⟩)),(11,.int .i64 m2),(27,.int .i64 (eA:Int)),(28,.int .i64 (i:Int)),(92,.bool b92)]) (fun b92=>[As.ju 74 d]) (fun b92=>True) dx ?_ ?_
   ·
    refine(bL) ft dx.b1<|(dY) (fun g88=>?_) (fun g88=>?_)
    ·
     refine nx ?_;have cJ:=dx;refine(dj) lP (bR cJ.e1 (m:=2) (by omega)) ?_;rintro _ Il ⟨z9,rfl,ae4,HS,Qo⟩;have dc:=St.lr cJ Qo;have HS:=HS (by omega);refine dE ?_;exact sg (decide (z9=0)) ⟨dc,trivial⟩
    refine ek ?_;exact sg (false) ⟨dx,trivial⟩
   rintro b92 Il cJ _;simp only [CA,NA] at cJ ⊢;refine nx ?_;have dc:=cJ.p1;refine WC.mN (σ:=Int) [_,_] (fun nn=>[(0,.pointer (some ⟨d,0,none⟩)),(3,.slice fY eA fZ),(5,.int .i64 (i:Int)),(7,.int .i64 most),(8,.pointer (some ⟨b8,0,none⟩)),(9,.int .i64 (k:Int)),(10,.pointer (some ⟨iJ,0,none⟩)),(11,.int .i64 m2),(27,.int .i64 (eA:Int)),(28,.int .i64 (i:Int))]) (fun nn=>[As.blk iJ 61 [.bool cell,.bool false,.int .i64 nn,.int .i64 0],As.ju 74 d]) (fun nn=>(0≤nn)∧(nn<m2)∧True) dc ?_ ?_
   ·
    refine(aZ) (fun g92=>?_) fun g92=>?_
    ·
     refine ji ?_;have df:=dc.p1;refine(dj) lP (bR df.e1 (m:=(min m2 3)) (by omega)) ?_;rintro _ Nz ⟨z10,rfl,alb,Qp,AZ⟩;have ez:=St.lr df AZ;have Qp:=Qp (by omega);refine cS ?_;refine WL.s1 ez.p1 fun Qj _ dA=>?_;refine nx ?_;exact sg (m2 - 1 - z10) ⟨dA,⟨by omega,by omega,trivial⟩⟩
    refine nx ?_;exact sg (z8) ⟨dc,⟨by omega,by omega,trivial⟩⟩
   rintro nn Nz df ⟨hn0,hn1,_⟩;simp only [CA,NA] at df hn0 hn1 ⊢;refine dE ?_;have ez:=df.p1;refine WC.mN (σ:=Bool) [_] (fun Qq=>[(0,.pointer (some ⟨d,0,none⟩)),(3,.slice fY eA fZ),(5,.int .i64 (i:Int)),(7,.int .i64 most),(8,.pointer (some ⟨b8,0,none⟩)),(9,.int .i64 (k:Int)),(10,.pointer (some ⟨iJ,0,none⟩)),(11,.int .i64 m2),(27,.int .i64 (eA:Int)),(28,.int .i64 (i:Int)),(114,.bool Qq)]) (fun Qq=>[As.ju 74 d]) (fun Qq=>(Qq=true→l1[i].ring=false∧xs.length≠0)∧True) ez ?_ ?_
   ·
    refine(bL) ft ez.b3<|(dY) (fun ae5=>?_) (fun ae5=>?_)
    ·
     refine(bL) mW ez.b3<|(dY) (fun rY=>?_) (fun rY=>?_)
     ·
      refine nx ?_;have dA:=ez;refine(dj) lP (bR dA.e1 (m:=3) (by omega)) ?_;rintro _ Qj ⟨z11,rfl,alc,Qr,ae6⟩;have eC:=St.lr dA ae6;have Qr:=Qr (by omega);refine dE ?_;exact sg (decide (z11=1)) ⟨eC,⟨fun _=>⟨by simpa using ae5,by have h0:=rY;simp at h0;omega⟩,trivial⟩⟩
     refine ek ?_;exact sg (false) ⟨ez,⟨(fun h=>by cases h),trivial⟩⟩
    refine vE ?_;exact sg (false) ⟨ez,⟨(fun h=>by cases h),trivial⟩⟩
   rintro Qq Qj dA ⟨hb,_⟩;simp only [CA,NA] at dA hb ⊢;refine nx ?_;have eC:=dA.p1;refine WC.mN (σ:=Bool × Int) [_,_] (fun(pk,el)=>[(0,.pointer (some ⟨d,0,none⟩)),(3,.slice fY eA fZ),(5,.int .i64 (i:Int)),(7,.int .i64 most),(8,.pointer (some ⟨b8,0,none⟩)),(9,.int .i64 (k:Int)),(10,.pointer (some ⟨iJ,0,none⟩)),(27,.int .i64 (eA:Int)),(28,.int .i64 (i:Int))]) (fun(pk,el)=>[As.blk iJ 61 [.bool cell,.bool pk,.int .i64 nn,.int .i64 el],As.ju 74 d]) (fun(pk,el)=>(pk=true→l1[i].ring=false∧xs.length≠0∧0≤el∧el<m2)∧(pk=false→el=0)∧True) eC ?_ ?_
   ·
    refine(aZ) (fun E0=>?_) fun E0=>?_
    ·
     refine dE ?_;have eO:=eC.p1;refine(dj) lP (bR eO.e1 (m:=m2) (by omega)) ?_;rintro _ TB ⟨z12,rfl,ald,Qs,Ln⟩;have fc:=St.lr eO Ln;have Qs:=Qs (by omega);refine nx ?_;refine WL.s1 fc.p1 fun Y7 _ gU=>?_;refine nx ?_;refine WL.s1 gU fun Y8 _ jz=>?_;refine nx ?_;exact sg (true,z12) ⟨jz,⟨fun _=>⟨(hb E0).1,(hb E0).2,by omega,by omega⟩,(fun h=>by cases h),trivial⟩⟩
    refine nx ?_;exact sg (false,0) ⟨eC,⟨(fun h=>by cases h),fun _=>rfl,trivial⟩⟩
   rintro⟨pk,el⟩ TB eO ⟨hpk,V2,_⟩;simp only [CA,NA] at eO hpk V2 ⊢;refine(bL) mW eO.b3<|(bz) sw eO.b0<|?_;refine WL.go rfl (OX.aR (us:=(Ask.mk cell pk nn el).cells) Jr rfl rfl rfl rfl fun Nc Y7 ae7 ae8=>?_);have fc:=eO.eF ae7 ae8;have hzs:=fc.size;refine WL.ap rfl rfl fc.p3 (SR.ew (A:=fun _=>True) (x:=Ask.mk cell pk nn el) (As.gb fc.g0) trivial rfl (by simp [Ask.cells,Value.oneCell']) rfl) fun a124 ae9 Y8 afa aoj gU=>?_;refine nx ?_;refine WL.s1 gU.p4 fun w25 _ jz=>?_;refine kQ ?_;refine fH (k - 1,xs++[⟨cell,pk,nn,el⟩],a124,(HP+1),ae9) ⟨jz.p2.drop.p2.drop.p1,⟨fun x hx=>(afa x hx).elim (hga x) (Nat.le_trans hzs),by simp;omega,L5 eX (Wi (x:=⟨cell,pk,nn,el⟩) Q7 hn0 hn1 hpk V2),trivial⟩⟩
  simp at jl
  refine ek ?_;have TH:=TH xs;have cR:=cv.bN (by omega);have sF:=hZ.trans (cN.fh (F:=fun x=>x∈aI EZ) hga) (Nat.le_refl _);refine(bz) xo cR.b1<|?_;refine WP .r (PV.fI lq lU rfl rfl (by omega))<|?_;refine WL.go rfl (OX.abd (i:=i) Jt (As.gs cR.g3) lU cV rfl rfl rfl (by simp [Value.oneCell']) ⟨l1[i].ring,xs,f0,c0⟩ ⟨EZ,HP,J9,rfl,(As.gr cR.g0)⟩ fun tV s8 h8=>?_);have bY:=cR.p3.jm s8 h8 (fun x h=>.inl h);refine gN ?_;refine fH (i+1,l1.set i ⟨l1[i].ring,xs,f0,c0⟩,_) ⟨bY.p1.drop.p1.drop.p1,⟨by omega,nY.set hPo cV (cQ cV).symm ⟨show xs.length≤6 by omega,eX,TH⟩,sF,trivial⟩⟩
 simp at qj
 have Bs:i=l1.length:=by omega
 subst Bs;have hRk:=hPo.ok;refine(cA) ?_;exact⟨_,_,_,l1,_,rfl,hRk,by omega,by omega,hZ,bw⟩
end Go.Rc

