/- Walks over the program, part WX. Conditions: as each theorem says. -/
import Derived.Test.YtjpagoacbadijaaGreatDoorVFacts
import Derived.Test.YtjpagoacbadijaaGreatDoorVWU
import Derived.Test.YtjpagoacbadijaaGreatDoorVBf
import Derived.Test.YtjpagoacbadijaaGreatDoorVBg
import Derived.Test.YtjpagoacbadijaaGreatDoorVWB
import Derived.Test.YtjpagoacbadijaaGreatDoorVBh
import Derived.Test.YtjpagoacbadijaaGreatDoorShelf
import Derived.Test.YtjpagoacbadijaaGreatDoorVWLibE
import Derived.Test.YtjpagoacbadijaaGreatDoorVBd
import Derived.Test.YtjpagoacbadijaaGreatDoorVWP
import Derived.Test.YtjpagoacbadijaaGreatDoorVWD
set_option linter.all false
namespace Go.Rc
open Go Go.Proofs Go.Proofs.Tryz
variable {n c n1 e1 n2 e2 r d:Nat}{w:World}{a a1 a2:Option Addr}{ab:List aG}{k:Key}{l:List Key}{f:FuncId}{Z M:Nat→Prop}{x:dP}{D:SD}{m:Int}
set_option maxHeartbeats 400000
theorem AU{n:Int} :CR prog 201 #[.int .i64 n] w (.bool false):=by
 refine enter func201 rfl ntmps201 rfl<|?_;have bd:=St.s0 w;refine bf ?_;refine(cy) ?_;exact⟨by simp,(St.cg bd)⟩
theorem EH{a b:Int} :CR prog 150 #[.int .i64 a,.int .i64 b] w (.int .i64 (Br a b)):=by
 refine enter func150 rfl ntmps150 rfl<|?_;have bd:=St.s0 w;refine(iu) (AU) bd fun w1 s1 st1=>?_;refine(iu) (AU) st1 fun w2 s2 st2=>?_;refine qd ?_;refine WC.ke rfl<|kP ?_;refine WC.ke rfl<|(aZ) (fun g16=>?_) fun g16=>?_
 ·
  simp at g16
  refine(cy) ?_;exact⟨by unfold Br;rw [if_pos g16],(St.cg st2)⟩
 simp at g16
 refine(aZ) (fun g19=>?_) fun g19=>?_
 ·
  simp at g19
  refine(cy) ?_;exact⟨by unfold Br;rw [if_neg (by omega),if_pos g19],(St.cg st2)⟩
 simp at g19
 refine(cy) ?_;exact⟨by unfold Br;rw [if_neg (by omega),if_neg (by omega)],(St.cg st2)⟩
theorem EJ{l:List Int}{A:Nat→Prop}(hl:Ints A w a n c l):CR prog 149 #[.slice a n c] w (.int .i64 (V2 l)):=by
 have hle:=SR.le hl;have hlen:=SR.len hl;refine enter func149 rfl ntmps149 rfl<|?_;have bd:=St.s0 w;refine bf ?_;refine gM ?_;refine WC.cq (σ:=Nat) (eP:=fun i=>[(3,.int .i64 0),(6,.slice a n c),(7,.int .i64 (n:Int)),(8,.int .i64 (i:Int))]) (F:=fun i=>[]) (I:=fun i=>(i≤n)∧(∀j x,j<i→l[j]?=some x→x=0)∧True) (μ:=fun i=>n - i) (0) (bd) Sub.t (⟨by omega,fun j x h=>by omega,trivial⟩)<|?_;rintro i w1 st1 ⟨hi,gR,_⟩;simp only [CA,NA] at st1 hi gR ⊢;refine(aZ) (fun g9=>?_) fun g9=>?_
 ·
  simp at g9
  have cT:i<l.length:=by omega
  obtain⟨Tk,Tl,Tm,lT,_,rfl,oh,_⟩:=(SR.ext hl (St.cg st1)).at (ao cT);refine jo ?_;refine WP .r (PV.fO Jo lT rfl rfl (by omega))<|WP .r (PV.pA aU oh rfl rfl)<|(aZ) (fun g14=>?_) fun g14=>?_
  ·
   simp at g14
   refine(cy) ?_;exact⟨by rw [V3 cT gR g14],(St.cg st1)⟩
  simp at g14
  refine gM ?_;refine fJ (i+1) ⟨st1,⟨by omega,dD cT gR (by simpa using g14),trivial⟩⟩
 simp at g9
 refine(cy) ?_;exact⟨by rw [RC (fun x hx=>by obtain⟨j,hj,rfl⟩:=List.mem_iff_getElem.1 hx;exact gR j _ (by omega) (ao hj))],(St.cg st1)⟩
theorem tR{a b:Key} :CR prog 120 #[a.val,b.val] w (.int .i64 (cv a b)):=by
 refine enter func120 rfl ntmps120 rfl<|?_;have bd:=St.s0 w;refine(fm) bd fun b2 w1 nv fl st1=>?_;refine(fm) st1 fun b3 w2 iO dJ st2=>?_;refine dV ?_;have Au:=st2.cX;refine WC.eJ (m:=9) (E:=dm [(4,fun v _=>v=.int .i64 (Br a.kind b.kind))]) st2 (bK (⟨fun _ _ _ _ _ _ _ h=>h,trivial⟩)) mixed (by kernel_rfl)<|(kQ) aU St.g1<|(kQ) aU St.g0<|?_;refine DW.c0 (fun wx hC hF=>EH)<|(kQ) iF St.g1<|(kQ) iF St.g0<|(eb)<|?_;rintro w3 ⟨fx,aW⟩ ⟨_,_⟩;refine(iu) (sy a.text b.text w3) aW fun w4 s4 ba=>?_;refine WL.go rfl (OX.aR (us:=[.int .i64 (Br a.kind b.kind),.int .i64 (Lib.compareBytes a.text.data.toList b.text.data.toList)]) Xc rfl rfl rfl rfl fun yu w5 BB Eh=>?_);have bs:=ba.eI BB Eh;refine WL.c1 (u:=.int .i64 (cv a b)) (EJ (l:=[Br a.kind b.kind,Lib.compareBytes a.text.data.toList b.text.data.toList]) (SR.Q5 (rows:=[[.int .i64 (Br a.kind b.kind)],[.int .i64 (Lib.compareBytes a.text.data.toList b.text.data.toList)]]) (As.gb bs.g0) rfl (by simp) (by simp [Value.oneCell']) (by simp) (Gy rfl rfl))) (by rw [RD]) bs fun w6 s6 bj=>?_;refine(cy) ?_;exact⟨rfl,(St.cg bj)⟩
theorem ya(hk:gG ab k):CR prog 200 #[k.val] w (.bool false):=by
 obtain⟨i,lB,US,wT⟩:=hk.shape;refine enter func200 rfl ntmps200 rfl<|?_;have bd:=St.s0 w;refine(fm) bd fun b1 w1 oU dK st1=>?_;refine(bA) aq st1.b0<|(iu) (jC (k:=k) wT US lB) st1 fun w2 s2 st2=>?_;refine(cy) ?_;exact⟨rfl,(St.cg st2)⟩
theorem AV{p:Key→Bool}(Bn:CF prog f) (hl:Rd RR.key 2 Z w a n c l) (hp:∀w1,aV [] w w1→∀x∈l,Calls prog f #[x.val] w1 fun e w'=>e=.returned (.bool (p x))∧aV [] w1 w'):Calls prog 123 #[.slice a n c,.func (.func f) #[] #[]] w fun e w'=>∃j:Int,e=.returned (.int .i64 j)∧CB l p j∧aV [] w w':=by
 have hlen:=hl.len;have hle:=hl.le;refine enter func123 rfl ntmps123 rfl<|?_;have bd:=St.s0 w;refine bf ?_;refine cS ?_;refine WC.cq (σ:=Nat) (eP:=fun i=>[(0,.slice a n c),(1,.func (.func f) #[] #[]),(7,.int .i64 (n:Int)),(8,.int .i64 (i:Int))]) (F:=fun i=>[]) (I:=fun i=>(i≤n)∧(∀j x,j<i→l[j]?=some x→p x=false)∧True) (μ:=fun i=>n - i) (0) (bd) Sub.t (⟨by omega,fun j x h=>by omega,trivial⟩)<|?_;rintro i w1 st1 ⟨hi,gR,_⟩;simp only [CA,NA] at st1 hi gR ⊢;refine(aZ) (fun g9=>?_) fun g9=>?_
 ·
  simp at g9
  have cT:i<l.length:=by omega
  refine uj ?_;obtain⟨iz,ku,jW,aX,gk,bF,cQ,dO⟩:=Rd.at hl cT;have bF:=RR.cG bF;subst bF;refine dV ?_;refine WP .r (PV.fO fV aX rfl rfl (by omega))<|(bA) aq (bH cQ (St.cg st1) (by simp))<|?_;refine WL.go rfl (OX.ud Bn rfl rfl rfl ((Calls.ahq (hp _ (St.cg st1) l[i] (List.getElem_mem cT))).mono ?_));rintro _ w2 ⟨rfl,s2⟩;refine⟨_,rfl,?_⟩;have st2:=st1.step s2;refine(aZ) (fun g16=>?_) fun g16=>?_
  ·
   refine(cy) ?_;exact⟨_,rfl,.inl ⟨i,_,ao cT,g16,gR,rfl⟩,(St.cg st2)⟩
  have g16:p l[i]=false:=by simpa using g16
  refine gM ?_;refine fJ (i+1) ⟨st2,⟨by omega,dD cT gR (by simpa using g16),trivial⟩⟩
 simp at g9
 have cY:∀x∈l,p x=false:=fun x hx=>by obtain⟨j,hj,rfl⟩:=List.getElem_of_mem hx;exact gR j _ (by omega) (ao hj)
 refine(cy) ?_;exact⟨_,rfl,.inr ⟨cY,rfl⟩,(St.cg st1)⟩
theorem u4{p:Key→Bool}(Bn:CF prog f) (hl:Rd RR.key 2 Z w a n c l) (hp:∀w1,aV [] w w1→∀x∈l,Calls prog f #[x.val] w1 fun e w'=>e=.returned (.bool (p x))∧aV [] w1 w'):CR prog 84 #[.slice a n c,.func (.func f) #[] #[]] w (.bool (l.any p)):=by
 refine enter func84 rfl ntmps84 rfl<|?_;have bd:=St.s0 w;refine(dh) Ph (AV (w:=w) Bn (hl.ext (St.cg bd)) (fun w1 h1=>hp w1 (aV.trans (St.cg bd) h1))) ?_;rintro _ w1 ⟨j,rfl,hj,s1⟩;have st1:=bd.step s1;have Uc:=hj.any;refine(cy) ?_;exact⟨by rw [Uc],(St.cg st1)⟩
set_option maxHeartbeats 1600000 in
theorem AW{x:Rec}(hk:Rd RR.key 2 Z w a n c x.reads) (hx:Oy ab x):CR prog 148 #[.agg (x.row a n c).toArray] w (.bool true):=by
 have hlen:=hk.len;obtain⟨h1,h2,h3,hv⟩:=hx;obtain⟨i,lB,US,wT⟩:=h1.shape;have l4:=h1.gT;rw [gH] at hv;obtain⟨_,_,_,v4,v5,v6,v7,v8,v9,v10,v11⟩:=hv;refine enter func148 rfl ntmps148 rfl<|?_;have bd:=St.s0 w;refine(fm) bd fun b1 w1 oU dK st1=>?_;refine eC ?_;refine WC.fE (t:=34) (v:=.bool false) st1 ?_<|?_
 ·
  refine(kB) aq st1.b0<|(iu) (jC (k:=x.key) wT US lB) st1 fun w2 s2 st2=>?_;refine(kB) aq st2.b0<|?_;refine WL.c1 (u:=.bool false) (eU (k:=x.key)) (by rw [h2]) st2 fun w3 s3 aW=>?_;refine(bM) iF aW.b0<|(ed) (fun g19=>?_) (fun g19=>?_)
  ·
   refine bf ?_;exact(dp) (by first | (simp only [g19];done) | (simp [g19];done) | (have h4:x.key.kind=32:=uv h1 (by simpa [g19] using v11);simp [g19,h4];done) | (simp at g19 ⊢ <;> omega) | (simp [g19] <;> omega)) (aW)
  refine(bM) gJ aW.b0<|(ed) (fun eZ=>?_) (fun eZ=>?_)
  ·
   exact(dp) (by first | (simp only [g19,eZ];done) | (simp [g19,eZ];done) | (have h4:x.key.kind=32:=uv h1 (by simpa [g19,eZ] using v11);simp [g19,eZ,h4];done) | (simp at g19 eZ ⊢ <;> omega) | (simp [g19,eZ] <;> omega)) (aW)
  refine(bM) fq aW.b0<|(ed) (fun iN=>?_) (fun iN=>?_)
  ·
   refine(kB) aq aW.b0<|(iu) (oe (k:=x.key) l4) aW fun w4 s4 ba=>?_;exact(dp) (by first | (simp only [g19,eZ,iN];done) | (simp [g19,eZ,iN];done) | (have h4:x.key.kind=32:=uv h1 (by simpa [g19,eZ,iN] using v11);simp [g19,eZ,iN,h4];done) | (simp at g19 eZ iN ⊢ <;> omega) | (simp [g19,eZ,iN] <;> omega)) (ba)
  exact(dp) (by first | (simp only [g19,eZ,iN];done) | (simp [g19,eZ,iN];done) | (have h4:x.key.kind=32:=uv h1 (by simpa [g19,eZ,iN] using v11);simp [g19,eZ,iN,h4];done) | (simp at g19 eZ iN ⊢ <;> omega) | (simp [g19,eZ,iN] <;> omega)) (aW)
 intro w2 st2;refine(aZ) (fun xV=>?_) fun xV=>?_
 ·
  exact ic xV
 refine kP ?_;refine WC.nP (t:=2) (v:=.bool true) st2 ?_<|?_
 ·
  refine(bM) aU st2.b0<|(ed) (fun wt=>?_) (fun wt=>?_)
  ·
   refine(bM) aU st2.b0<|(bM) aU st2.b0<|(ed) (fun x9=>?_) (fun x9=>?_)
   ·
    refine(bM) aU st2.b0<|(ed) (fun Ts=>?_) (fun Ts=>?_)
    ·
     refine(bM) aU st2.b0<|(ed) (fun zX=>?_) (fun zX=>?_)
     ·
      refine(bM) aU st2.b0<|(ed) (fun MX=>?_) (fun MX=>?_)
      ·
       refine(bM) gJ st2.b0<|nx ?_;refine WL.c1 (u:=.bool false) (u4 (p:=fun _=>false) adp (hk.ext (St.cg st2)) (fun w1 _ y hy=>ya (h3 y hy))) (by rw [List.any_eq_false.2 (fun _ _=>by simp)]) st2 fun w3 s3 aW=>?_;exact(iH) (tG (aj wt<|aj x9<|aj Ts<|aj zX MX)) (aW)
      exact(iH) (tG (aj wt<|aj x9<|aj Ts<|aj zX MX)) (st2)
     refine bf ?_;exact(iH) (tG (aj wt<|aj x9<|aj Ts zX)) (st2)
    refine bf ?_;exact(iH) (tG (aj wt<|aj x9 Ts)) (st2)
   refine bf ?_;exact(iH) (tG (aj wt x9)) (st2)
  refine bf ?_;refine bf ?_;exact(iH) (tG wt) (st2)
 intro w3 aW;refine(cy) ?_;exact⟨rfl,(St.cg aW)⟩
theorem u5{l:List Rec}(hl:Rd RR.fT 8 Z w a n c l) (hG:∀x∈l,Oy ab x) (hS:vF l) (h4:l.length≤4000):CR prog 118 #[.slice a n c] w (.bool true):=by
 have hlen:=hl.len;have hle:=hl.le;refine enter func118 rfl ntmps118 rfl<|?_;have bd:=St.s0 w;refine bf ?_;refine cS ?_;refine WC.cq (σ:=Nat) (eP:=fun j=>[(0,.slice a n c),(5,.slice a n c),(6,.int .i64 (n:Int)),(7,.int .i64 (j:Int))]) (F:=fun j=>[]) (I:=fun j=>(j≤n)∧True) (μ:=fun j=>n - j) (0) (bd) Sub.t (⟨by omega,trivial⟩)<|?_;rintro j w1 st1 ⟨hj,_⟩;simp only [CA,NA] at st1 hj ⊢;refine(aZ) (fun g8=>?_) fun g8=>?_
 ·
  simp at g8
  have lV:j<l.length:=by omega
  refine eC ?_;obtain⟨iz,ku,jW,aX,gk,bF,cQ,dO⟩:=Rd.at hl lV;obtain⟨q1,q2,q3,rfl,sB,rI⟩:=bF;refine cS ?_;refine WP .r (PV.fO kK aX rfl rfl (by omega))<|(bA) eB (bH cQ (St.cg st1) (by simp))<|(gy) st1 fun b4 w2 jG bE st2=>?_;refine(dB) iM st2 fun w3 jV j0 aW=>?_;refine dA ?_;refine WC.fE (t:=30) (v:=.bool false) aW ?_<|?_
  ·
   have UO:=aW.cX;refine WC.eJ (m:=15) (E:=dm [(1,fun v _=>v=.bool true)]) aW (bK (⟨fun _ _ _ _ _ _ _ h=>h,trivial⟩)) mixed (by kernel_rfl)<|(iX) eB St.g0<|?_;refine DW.c0 (fun wx hC hF=>AW (sB.ext (St.cg hC.2)) (hG _ (List.getElem_mem lV)))<|(qe) (fun g18=>?_) (fun g18=>?_)
   ·
    have hj0:1≤j:=by have h0:=g18;simp at h0;omega
    have Tt:j - 1<l.length:=by omega
    have dZ:cv l[j - 1].key l[j].key<0:=List.pairwise_iff_getElem.1 hS (j - 1) j Tt lV (by simp at g18;omega);obtain⟨xX,MG,JI,gp,An,im,lS,qO⟩:=Rd.at hl Tt;obtain⟨p1,p2,p3,rfl,_,_⟩:=im;refine dA ?_;refine DP .r (fun _ hC=>PV.Kk kK (j - 1) gp rfl rfl (by omega) (by omega))<|nx ?_;refine DP .r (fun _ hC=>PV.FL aq (bH lS (St.cg hC.2) (by simp)) rfl rfl)<|(Cp) aq St.g0<|(eb)<|?_;rintro w4 ⟨mr,ba⟩ ⟨_,_⟩;refine(iu) (tR (a:=l[j - 1].key) (b:=l[j].key)) ba fun w5 s5 bs=>?_;exact(dp) (tG g18) (bs)
   refine(eb) ?_;rintro w4 ⟨mr,ba⟩ ⟨_,_⟩;exact(dp) (tG g18) (ba)
  intro w4 ba;refine(aZ) (fun lO=>?_) fun lO=>?_
  ·
   exact ic lO
  refine gM ?_;refine fJ (j+1) ⟨ba.drop,⟨by omega,trivial⟩⟩
 simp at g8
 refine bf ?_;refine(cy) ?_;exact⟨by simp;omega,(St.cg st1)⟩
theorem AX{i:Nat}(lB:i≤99) (hk:k=⟨30,itoa i⟩):CR prog 119 #[k.val] w (.bool true):=by
 subst hk;refine enter func119 rfl ntmps119 rfl<|?_;have bd:=St.s0 w;refine(fm) bd fun b1 w1 oU dK st1=>?_;refine(bA) aq st1.b0<|(iu) (jC (k:=⟨30,itoa i⟩) ⟨(by decide:(30:Int)≤30),(by decide:(30:Int)≤32)⟩ rfl lB) st1 fun w2 s2 st2=>?_;refine(bA) aq st2.b0<|?_;refine WL.c1 (u:=.bool true) (eU (k:=⟨30,itoa i⟩)) (by rw [show az ⟨30,itoa i⟩=true from rfl]) st2 fun w3 s3 aW=>?_;refine(cy) ?_;exact⟨rfl,(St.cg aW)⟩
set_option maxHeartbeats 1600000 in
set_option maxRecDepth 100000 in
theorem wA(hi:Rd RR.aF 4 Z w a1 n1 e1 x.ad) (hr:Rd RR.fT 8 Z w a2 n2 e2 x.ak) (hx:qA ab x):CR prog 83 #[.agg (x.row a1 n1 e1 a2 n2 e2).toArray] w (.bool true):=by
 obtain⟨x0,x1,xi,xk,x6,xr,xs,x4,xv⟩:=hx;have ij:=hi.len;have Bg:=hi.le;have KS:=hr.len;refine enter func83 rfl ntmps83 rfl<|?_;have bd:=St.s0 w;refine(fm) bd fun b1 w1 oU dK st1=>?_;refine eC ?_;refine WC.fE (t:=24) (v:=.bool false) st1 ?_<|?_
 ·
  refine(bM) aU st1.b0<|(ed) (fun g8=>?_) (fun g8=>?_)
  ·
   refine bf ?_;exact(dp) (tG g8) (st1)
  refine(bM) aU st1.b0<|(ed) (fun g13=>?_) (fun g13=>?_)
  ·
   exact(dp) (tG (aj g8 g13)) (st1)
  refine(bM) oI st1.b0<|(ed) (fun g19=>?_) (fun g19=>?_)
  ·
   exact(dp) (tG (aj g8<|aj g13 g19)) (st1)
  refine(bM) fk st1.b0<|(iu) (u5 (hr.ext (St.cg st1)) xr xs x4) st1 fun w2 s2 st2=>?_;exact(dp) (tG (aj g8<|aj g13 g19)) (st2)
 intro w2 st2;refine(aZ) (fun g24=>?_) fun g24=>?_
 ·
  exact ic g24
 refine(bM) oI st2.b0<|eC ?_;refine WC.cq (σ:=Nat) (eP:=fun j=>[(1,.pointer (some ⟨b1,0,none⟩)),(26,.slice a1 n1 e1),(27,.int .i64 (n1:Int)),(28,.int .i64 (j:Int))]) (F:=fun j=>[]) (I:=fun j=>(j≤n1)∧True) (μ:=fun j=>n1 - j) (0) (st2) Sub.t (⟨by omega,trivial⟩)<|?_;rintro j w3 aW ⟨hj,_⟩;simp only [CA,NA] at aW hj ⊢;refine(aZ) (fun qg=>?_) fun qg=>?_
 ·
  simp at qg
  have lV:j<x.ad.length:=by omega
  obtain⟨y,hy⟩:∃y,x.ad[j]=y:=⟨_,rfl⟩;obtain⟨i,lB,hyk⟩:=xk _ (hy ▸ List.getElem_mem lV);obtain⟨_,_,hv,Nq,hc1⟩:=xi.2 _ (hy ▸ List.getElem_mem lV);refine eC ?_;obtain⟨iz,ku,jW,aX,gk,bF,cQ,dO⟩:=Rd.at hi lV;have bF:=RR.cG bF;subst bF;rw [hy] at cQ
  have Tt:j - 1<x.ad.length:=by omega
  obtain⟨z,hz⟩:∃z,x.ad[j - 1]=z:=⟨_,rfl⟩;refine cS ?_;refine WP .r (PV.fO xU aX rfl rfl (by omega))<|(bA) l6 (bH cQ (St.cg aW) (by simp))<|(gy) aW fun b4 w4 jG bE ba=>?_;refine(dB) xh ba fun w5 jV j0 bs=>?_;refine dA ?_;refine WC.fE (t:=71) (v:=.bool false) bs ?_<|?_
  ·
   have QZ:=bs.cX;refine WC.eJ (m:=37) (E:=dm [(2,fun v _=>v=.bool true),(17,fun v _=>v=.int .i64 (cv z.key y.key))]) bs (bK (⟨fun _ _ _ _ _ _ _ h=>h,⟨fun _ _ _ _ _ _ _ h=>h,trivial⟩⟩)) mixed (by kernel_rfl)<|(Cp) aq St.g0<|?_;refine DW.c0 (fun wx hC hF=>AX lB hyk)<|(qe) (fun Ae=>?_) (fun Ae=>?_)
   ·
    have hj0:1≤j:=by have h0:=Ae;simp at h0;omega
    have dZ:cv z.key y.key<0:=by rw [← hy,← hz];exact List.pairwise_iff_getElem.1 xi.1 (j - 1) j Tt lV (by omega)
    obtain⟨xX,MG,JI,gp,An,im,lS,qO⟩:=Rd.at hi Tt;have im:=RR.cG im;subst im;rw [hz] at lS;refine(kQ) oI St.g1<|cS ?_;refine DP .r (fun _ hC=>PV.Kk xU (j - 1) gp rfl rfl (by omega) (by omega))<|nx ?_;refine DP .r (fun _ hC=>PV.FL aq (bH lS (St.cg hC.2) (by simp)) rfl rfl)<|(Cp) aq St.g0<|?_;refine DW.c0 (fun wx hC hF=>tR (a:=z.key) (b:=y.key))<|(qe) (fun tI=>?_) (fun tI=>?_)
    ·
     refine bf ?_;refine(eb) ?_;rintro w6 ⟨oM,bj⟩ ⟨_,⟨_,_⟩⟩;exact(dp) (tG (aj Ae tI)) (bj)
    refine(kQ) iF St.g0<|(qe) (fun MX=>?_) (fun MX=>?_)
    ·
     refine(eb) ?_;rintro w6 ⟨oM,bj⟩ ⟨_,⟨_,_⟩⟩;exact(dp) (tG (aj Ae<|aj tI MX)) (bj)
    refine(kQ) aU St.g0<|(qe) (fun Ej=>?_) (fun Ej=>?_)
    ·
     refine(eb) ?_;rintro w6 ⟨oM,bj⟩ ⟨_,⟨_,_⟩⟩;exact(dp) (tG (aj Ae<|aj tI<|aj MX Ej)) (bj)
    refine(kQ) aU St.g0<|(kQ) aU St.g1<|(eb)<|?_;rintro w6 ⟨oM,bj⟩ ⟨_,⟨_,_⟩⟩;exact(dp) (tG (aj Ae<|aj tI<|aj MX Ej)) (bj)
   refine bf ?_;refine(kQ) iF St.g0<|(qe) (fun MX=>?_) (fun MX=>?_)
   ·
    refine(eb) ?_;rintro w6 ⟨oM,bj⟩ ⟨_,_⟩;exact(dp) (tG (aj Ae MX)) (bj)
   refine(kQ) aU St.g0<|(qe) (fun Ej=>?_) (fun Ej=>?_)
   ·
    refine(eb) ?_;rintro w6 ⟨oM,bj⟩ ⟨_,_⟩;exact(dp) (tG (aj Ae<|aj MX Ej)) (bj)
   refine(kQ) aU St.g0<|(kQ) aU St.g1<|(eb)<|?_;rintro w6 ⟨oM,bj⟩ ⟨_,_⟩;exact(dp) (tG (aj Ae<|aj MX Ej)) (bj)
  intro w6 bj;refine(aZ) (fun nL=>?_) fun nL=>?_
  ·
   exact ic nL
  refine gM ?_;refine fJ (j+1) ⟨bj.drop,⟨by omega,trivial⟩⟩
 simp at qg
 refine(bM) fk aW.b0<|?_;refine WP .r (PV.func (us:=[]) (vs:=[.pointer (some ⟨b1,0,none⟩)]) rfl rfl)<|(iu) (wu (p:=fun r=>decide (x.ae<r.ax)) acU (hr.ext (St.cg aW)) (fun wq hq y _ a n c _=>wv ((As.gb aW.g0).ext hq)) (fun y hy=>by have:=xv y hy;simp;omega)) aW fun w4 s4 ba=>?_;refine(cy) ?_;exact⟨by simp,(St.cg ba)⟩
theorem HB(bJ:St w M Z w [As.os RR.key 39 2 a n c l]) (h0:l≠[]) (hn:l.length≤1000000):Calls prog 158 #[.slice a n c,.func (.func 120) #[] #[]] w fun e w'=>e=.returned (.tuple #[])∧∃l',l'.Perm l∧(l'.Pairwise fun x y=>¬cv y x<0)∧St w M Z w' [As.os RR.key 39 2 a n c l']:=
 Ml (row:=Key.cells) (key:=fun x=>x) (fun _=>rfl) (fun x v hv=>by(simp [Key.cells] at hv;rcases hv with rfl | rfl <;> rfl)) (fun blk cap d w hc hH hb hs=>slices_SortFunc 2 isAgg39 sizeOf39 Key.cells (fun _=>rfl) (fun x v hv=>by(simp [Key.cells] at hv;rcases hv with rfl | rfl <;> rfl)) _ R2 120 #[] blk 0 cap d w Uy hc hH hb hs) (fun x y w=>tR) bJ h0 hn
set_option maxHeartbeats 400000
set_option maxHeartbeats 1600000 in
theorem oi{goals:List Key}{ar ag:Option Addr}{cr g eg f:Nat}{s':ES}(hR:aw ab) (bJ:St w M Z w []) (hu:Rd RR.gF 4 Z w ar r cr ab) (hi:Rd RR.aF 4 Z w a1 n1 e1 x.ad) (hr:Rd RR.fT 8 Z w a2 n2 e2 x.ak) (hg:Rd RR.key 2 Z w ag g eg goals) (ht:nO prog Z w) (Cu:gV ab x goals=0) (tm:Good ab x.ad ⟨x,[],[],0⟩) (hk:∀k∈goals,gG ab k) (Bg:x.ad.length≤1000000)
 (P1:eD ab (valOf ab x.ad) f ⟨x,[],[],0⟩ goals=some s') (pX:s'.cP.length≤1000000):Calls prog 13 #[.slice ar r cr,.agg (x.row a1 n1 e1 a2 n2 e2).toArray,.slice ag g eg] w fun e w'=>∃PA PC PD PE PF PG ag' g' eg' Z',e=.returned (.tuple #[.agg ((s'.base x).row PA PC PD PE PF PG).toArray,.slice ag' g' eg',.int .i64 s'.e])∧cI w.heap.size Z Z'∧Rd RR.aF 4 Z' w' PA PC PD (s'.base x).ad∧Rd RR.fT 8 Z' w' PE PF PG (s'.base x).ak∧St w M Z' w' [As.os RR.key 39 2 ag' g' eg' s'.list]:=by
 have UZ:=hg.len;have Ou:=hg.le
 have h6:x.ak.length≤1000000:=by have:=tm.len;simp only at this;omega
 refine enter func13 rfl ntmps13 rfl<|?_;have bd:=St.rb bJ;have st1:=bd.fr hu;have st2:=st1.fr hi;have aW:=st2.fr hr;have ba:=aW.fr hg;have bs:=ba.fact (B:=As.fz (FZ.Kt prog)) ht (fun _ hx=>hx);refine(fm) bs fun b4 w1 jG bE bj=>?_;refine(gy) bj fun b6 w2 mC eE bV=>?_;refine(bA) aP bV.b1<|?_;have bT:=bV;refine(dh) Ed (gK bT.e0 (As.gr bT.g5) (As.gr bT.g4) h6 Bg) ?_;rintro _ w3 ⟨f1,f2,f3,f4,f5,f6,Z1,rfl,gq,eN⟩;have cm:=St.lv bT eN gq;have JZ:=St.cH eN;have F0:=St.cH eN.p1;have fx:=bT.size;have oL:=gq.le fx;have J2:=St.fresh cm;have aM:=cm.bN (by omega);have J3:=St.fresh aM.p1;have aO:=aM.p1.bN (by omega);have ly:=(oL.trans (cI.fc (F:=fun x=>x∈aI f1) JZ) fx).trans (cI.fc (F:=fun x=>x∈aI f4) F0) fx;refine(dB) fR aO.p3 fun w4 jV j0 aS=>?_;refine(bA) aP aS.b0<|(dh) Xw (ob (As.gr aS.g8) (As.gr aS.g2) (As.gr aS.g1) (As.gr aS.g5)) ?_;rintro _ w5 ⟨rfl,s5⟩;rw [Cu];have bC:=aS.step s5;refine(aZ) (fun g20=>?_) fun g20=>?_
 ·
  exact absurd g20 (by simp)
 refine dA ?_;refine WC.du (m:=6) [] [2,4] [0,1,2,3,4,5] [(5,.map)] bC (av.k4 M0 M1 M2 M3<|av.k4 M4 M5 M6 M7<|av.cons M8<|av.nil) mixed (by kernel_rfl) (by kernel_rfl) rfl<|(pS) aP SV.g0<|(jb) (fun w6 UT Hu br xD=>?_);simp only [CA,NA] at br;have aY:=br;refine OX.call acx rfl rfl ((Ar (x:=x) aY.e0).mono ?_);rintro _ w7 ⟨d1,d2,d3,rfl,n9⟩;have aQ:=St.lr aY n9;refine⟨_,rfl,n9.cW.size,_,rfl,_,_,_,aQ,ay.k4<|ay.k4<|ay.k4<|ay.nil,av.k4 M3 M4 M5 M6<|av.k4 M7 M8 M9 j7<|av.cons lz<|av.nil,?_⟩;refine(pS) aP SV.g0<|(jb) (fun w8 Q3 BV bB pN=>?_);simp only [CA,NA] at bB;have bL:=bB;refine OX.call Ed rfl rfl ((gK bL.e0 (As.gr bL.g5) (As.gr bL.g4) h6 Bg).mono ?_);rintro _ w9 ⟨q1,q2,q3,q4,q5,q6,Z3,rfl,qQ,ny⟩;have bG:=St.lv bL ny qQ;have akR:=St.cH ny;have akS:=St.cH ny.p1;have ez:=bL.size;have sE:=ly.trans qQ ez;have akT:=St.fresh bG;have ck:=bG.bN (by omega);have akU:=St.fresh ck.p1;have cw:=ck.p1.bN (by omega);have AF:=(sE.trans (cI.fc (F:=fun x=>x∈aI q1) akR) ez).trans (cI.fc (F:=fun x=>x∈aI q4) akS) ez;refine⟨_,rfl,ny.cW.size,_,rfl,_,_,_,cw,ay.k4<|ay.k4<|ay.k4<|ay.k2<|ay.nil,av.k4 M5 M6 M7 M8<|av.k4 M9 j7 lz qh<|av.cons vk<|av.nil,?_⟩;refine DG.side (s:=.map) rfl rfl rfl rfl rfl rfl (fun wx Zx Rx BU fN=>OX.makeMap Key.val rfl fun b wy nw hb=>⟨nw.ext.size,_,rfl,⟨b,rfl⟩,fN.Rq nw hb⟩)<|?_;rintro _ ⟨b28,rfl⟩;refine(oD) ?_;intro kE EL cx;simp only [CM,NM,CA,NA,lG.it] at cx;refine WP .r (PV.bU (us:=(EA.cells ⟨q1,q4,none,q2,q3,q5,q6,0,0⟩ d1 b28 ⟨x,[],[],0⟩)) aic rfl rfl rfl)<|(fm) cx fun b30 kF adL adM cU=>?_;refine nx ?_;refine WL.nil (EX.np ?_);have ct:=cU.p5.p5;have cN:=ct.join (C:=As.l3 prog 134 ab x ⟨ar,f1,f4,r,cr,f2,f3,f5,f6,d2,d3,d1⟩) ⟨ct.abr,(As.gb ct.g0),⟨[],bq.nil,(As.gm ct.g1)⟩,⟨(As.gr ct.g15),(As.gr ct.g9),(As.gr ct.g8),(As.gf ct.g11)⟩⟩ (fun y h=>h);have ef:=cN.eR RR.key 39 2;refine oC ?_;refine WC.kh (σ:=Nat × ES × EA × (Nat→Prop)) (eP:=fun(j,s1,E1,Z5)=>[(4,.pointer (some ⟨b4,0,none⟩)),(6,.pointer (some ⟨b6,0,none⟩)),(10,.pointer (some ⟨b30,0,none⟩)),(31,.slice ag g eg),(32,.int .i64 (g:Int)),(33,.int .i64 (j:Int))]) (F:=fun(j,s1,E1,Z5)=>[As.blk b30 88 (EA.cells E1 d1 b28 s1),As.map Key.val b28 s1.busy,As.os RR.key 39 2 E1.a3 E1.n3 E1.c3 s1.cP,As.ro RR.aF 4 E1.a1 E1.n1 E1.c1 s1.b.ad,As.ro RR.fT 8 E1.a2 E1.n2 E1.c2 s1.b.ak]) (I:=fun(j,s1,E1,Z5)=>(eD ab (valOf ab x.ad) f s1 (goals.drop j)=some s')∧(Good ab x.ad s1)∧(j≤g)∧(cI w.heap.size Z Z5)∧True) (μ:=fun(j,s1,E1,Z5)=>g - j) (Zf:=fun(j,s1,E1,Z5)=>Z5) (0,⟨x,[],[],0⟩,⟨q1,q4,none,q2,q3,q5,q6,0,0⟩,_) (ef.p4.p5.p2.p5.p5) Sub.t (⟨P1,tm,Nat.zero_le _,AF,trivial⟩)<|?_;rintro⟨j,s1,E1,Z5⟩ qf dq ⟨dL,pW,hj,nz,_⟩;simp only [CA,NA] at dq dL pW hj nz ⊢;refine(aZ) (fun xV=>?_) fun xV=>?_
 ·
  simp at xV
  have lV:j<goals.length:=by omega
  rw [List.drop_eq_getElem_cons lV] at dL;simp only [eD] at dL;obtain⟨t,QP,qD⟩:=Option.bind_eq_some_iff.1 dL;have hkj:=hk goals[j] (List.getElem_mem lV);have H7:=(df (val:=valOf ab x.ad) hR f).1 _ _ _ QP pW hkj;have hgc:=ti hR qD H7.1 (fun k nc=>hk k (List.mem_of_mem_drop nc));refine eC ?_;obtain⟨iz,ku,jW,aX,gk,bF,cQ,dO⟩:=Rd.at (As.gr dq.g12) lV;have bF:=RR.cG bF;subst bF;have ew:=dq.fg dO cQ;refine nx ?_;refine WP .r (PV.fO fV aX rfl rfl (by omega))<|(bA) aq (As.oS ew.g0)<|(gy) ew fun yg tU Qh Tu db=>?_;refine(dB) jz db fun Ay sC nj dM=>?_;refine(bA) aq dM.b0<|?_;have cR:=dM.p4.p4.p7.p5;refine(dh) Xx (YD (D:=⟨ar,f1,f4,r,cr,f2,f3,f5,f6,d2,d3,d1⟩) hR Bg f _ _ _ _ _ _ _ cR.e4 (As.gr cR.g6) (As.gr cR.g7) pW hkj QP (by have:=hgc.2.cP;omega)) ?_;rintro _ uP ⟨E2,Z6,rfl,HC,hi6,hr6,u6⟩;have di:=St.lv cR u6 HC;have BW:=nz.trans HC cR.size;have dr:=di.fr (hi6);have eQ:=dr.fr (hr6);have dR:=eQ.p8.drop;have eA:=dR.p8.drop;refine gM ?_;refine fJ (j+1,t,E2,Z6) ⟨eA.p6.drop.p6.drop.p1.p5.p5.p4,⟨qD,H7.1,by omega,BW,trivial⟩⟩
 simp at xV
 rw [List.drop_eq_nil_of_le (by omega)] at dL;simp only [eD,Option.some.injEq] at dL;subst dL;refine(bM) C3 dq.b0<|(aZ) (fun x9=>?_) fun x9=>?_
 ·
  simp at x9
  have ew:=dq.eR RR.key 39 2;refine nx ?_;refine WC.du (m:=7) [] [5] [0,5,1,2,3,4,6] [] ew (av.k4 M0 M1 M2 M3<|av.k4 M4 M5 M6 M7<|av.k4 M8 M9 j7 qh<|av.k4 vk Ft Vg M16<|av.nil) mixed (by kernel_rfl) (by kernel_rfl) rfl<|(pS) aP SV.g8<|?_;refine DG.cs rfl rfl rfl rfl rfl (fun tU To ED db qS=>?_);simp only [CA,NA] at db;refine OX.pB fR (As.gb db.g11) rfl rfl rfl rfl rfl fun Ay BC _ rq=>?_;have dM:=db.oR.Ga BC rq;refine⟨BC.size,rfl,_,_,_,dM,ay.k4<|ay.k4<|ay.k4<|ay.k4<|ay.cons<|ay.nil,av.k4 M1 M2 M3 M4<|av.k4 M5 M6 M7 M8<|av.k4 M9 j7 lz qh<|av.k4 vk Ft Vg M16<|av.nil,?_⟩
  iterate 3 refine DG.a ?_
  refine(Bo) C3 SV.g1<|(oD) ?_;intro uP Lj cR;simp only [CM,NM,CA,NA,lG.it] at cR;refine nx ?_;refine WL.nil (EX.np ?_);refine dA ?_;refine EX.iT rfl (RS.cell aP rfl cR.b0 rfl<|RS.tmp rfl<|RS.tmp rfl<|RS.nil) rfl<|?_;have hb:s1.base x=x:=if_neg x9;have hl:s1.list=[]:=if_neg x9;exact⟨f1,f2,f3,f4,f5,f6,none,0,0,_,by rw [hb],nz,by rw [hb];exact(As.gr cR.g11),by rw [hb];exact(As.gr cR.g10),by rw [hl];exact(St.wk cR.p1.k1)⟩
 simp at x9
 refine dA ?_;have Nh:=((As.gs dq.g2)).len;have YT:=St.fresh dq.p2;have ew:=dq.p2.bN (by omega);have hZr:=nz.trans (cI.fc (F:=fun x=>x∈aI E1.a3) YT) (Nat.le_refl _);refine WC.du (m:=9) [] [8] [4,5,6,7,8,0,1,2,3] [] ew (av.k4 M0 M1 M2 M3<|av.k4 M4 M5 M6 M7<|av.k4 M8 M9 j7 lz<|av.k4 qh vk Ft Vg<|av.nil) mixed (by kernel_rfl) (by kernel_rfl) rfl<|?_
 iterate 3 refine DG.a ?_
 refine(Bo) gJ SV.g1<|(jb) (fun tU R8x akW db aeE=>?_);simp only [CA,NA] at db;have dM:=db;refine OX.call acy rfl rfl ((uQ dM.e0 (As.gr dM.g0) (fun _ h _=>h) pX).mono ?_);rintro _ Ay ⟨o1,o2,o3,rfl,xG⟩;have cR:=St.lr dM xG;refine⟨_,rfl,xG.cW.size,_,rfl,_,_,_,cR,ay.k4<|ay.k4<|ay.k4<|ay.k4<|ay.cons<|ay.nil,av.k4 M1 M2 M3 M4<|av.k4 M5 M6 M7 M8<|av.k4 M9 j7 lz qh<|av.k4 vk Ft Vg M16<|av.nil,?_⟩
 iterate 3 refine DG.a ?_
 refine(LL) aP SV.g1<|(oD)<|?_;intro uP Hm di;simp only [CM,NM,CA,NA,lG.it] at di;refine(dB) fR di.oR fun yq QW vE dr=>?_;refine cS ?_;refine WL.nil (EX.np ?_);refine cS ?_;refine EX.iT rfl (RS.cell aP rfl dr.b0 rfl<|RS.tmp rfl<|RS.tmp rfl<|RS.nil) rfl<|?_;have hb:s1.base x=s1.b:=if_pos x9;have hl:s1.list=kR s1.cP:=if_pos x9;exact⟨E1.a1,E1.n1,E1.c1,E1.a2,E1.n2,E1.c2,o1,o2,o3,_,by rw [hb,x9];rfl,hZr,by rw [hb];exact(As.gr dr.g5),by rw [hb];exact(As.gr dr.g6),by rw [hl];exact(St.wk dr.p1.k1)⟩
set_option maxHeartbeats 400000
set_option maxHeartbeats 400000
set_option maxHeartbeats 400000
theorem Tv(hR:aw ab) (hS:∀k,(valOf ab x.ad k).size≤1000):∀i:Nat,i<ab.length→UU ab x D (aL ab (i:Int)):=by
 intro i;have rS:=hR.len;have low:∀n:Nat,n≤15→UU ab x D (dx (n:Int)):=fun n hn w M Z ml al bJ hf hm _=>xE bJ hf hm (cO (by omega))
 induction i using Nat.strongRecOn with
 | _ i IH=>
  intro hi w M Z ml al bJ hf hm td
  have lB:i≤99:=by omega
  have akX:pa ab i al:=by
   have h:=td (eh hi lB);rw [dw hi lB,Int.toNat_natCast] at h;exact h
  refine J1 bJ hf hm hR hi hS akX (fun hr w M Z ml al bJ hf hm td=>?_) (fun hr a ha=>?_)
  ·
   rw [dw hi lB,Int.toNat_natCast] at td;refine EG bJ hf hm hR hS hi hr td fun j hj a ha hc=>?_;have tk:=ha.cyc hR
   rcases ha with⟨n,hn,rfl⟩ | ⟨m,hm,rfl,h1,h2,h3,h4⟩
   ·
    exact low n hn
   have ZZ:aD ab m=false:=by
    rw [hc,fK hm (by omega)] at tk
    cases h:aD ab m
    ·
     rfl
    rw [h] at tk;simp at tk
   have H4:bY ab j≤i:=Nat.le_trans (mO hR hj) (iv ab i)
   have hmj:m<i:=by
    have:=h4 ZZ (kX hi hr hj).2
    omega
   exact IH m hmj hm
  rcases ha with⟨n,hn,rfl⟩ | ⟨m,hm,rfl,_,h2,_⟩
  ·
   exact low n hn
  exact IH m (h2 hr) hm
theorem YU(hR:aw ab) (hS:∀k,(valOf ab x.ad k).size≤1000) {k:Key}(hk:gG ab k):UU ab x D k:=by
 cases hk with
 | cell h=>exact fun w M Z ml al bJ hf hm _=>xE bJ hf hm (cO h)
 | gF h _=>exact Tv hR hS _ h
set_option maxHeartbeats 400000
theorem HD{l:List Int}(bJ:St w M Z w []) (hl:Rd RR.int 1 Z w a n c l) (h4:n≤400):Calls prog 8 #[.slice a n c] w fun e w'=>∃d,e=.returned (.pointer (some ⟨d,0,none⟩))∧St w M Z w' [As.jt 74 d]:=
 (JA (A:=Z) (l:=l) hl h4).mono fun e w' ⟨d,h1,h2,h3,hc⟩=>⟨d,h1,bJ.new hc h3 fun x hx=>by have hx:x=d:=hx;subst hx;exact h2⟩
theorem bP(bJ:St w M Z w [As.jt 74 d]) (hm:m≤4611686018427387904):Calls prog 38 #[.pointer (some ⟨d,0,none⟩),.int .i64 m] w fun e w'=>∃z:Int,e=.returned (.int .i64 z)∧0≤z∧(1≤m→z<m)∧St w M Z w' [As.jt 74 d]:=
 (JB (A:=Z) (As.gd bJ.g0) (bJ.o5 (As.jt 74 d) (by simp) d rfl) hm).mono fun e w' ⟨z,h1,h2,h3,hc,hd⟩=>⟨z,h1,h2,h3,bJ.nN (hc.p.mono fun x _ hx=>show x=d from by simpa using hx) hd fun x hx=>.inl hx⟩
theorem HE{l:List ByteArray}(bJ:St w M Z w [As.jt 74 d,As.os RR.str 9 1 a r c l]) (h0:0<r) (h1:r≤1000):Calls prog 73 #[.pointer (some ⟨d,0,none⟩),.slice a r c] w fun e w'=>∃s:ByteArray,e=.returned (.string s)∧s∈l∧St w M Z w' [As.jt 74 d,As.os RR.str 9 1 a r c l]:=by
 have hlen:=(As.gs bJ.g1).len;refine enter func73 rfl ntmps73 rfl<|?_;have bd:=bJ;refine uj ?_;have st1:=bd;refine(dh) lN (bP st1.e1 (m:=(r:Int)) (by omega)) ?_;rintro _ w1 ⟨z,rfl,ase,aeF,AL⟩;have st2:=St.lr st1 AL;have aeF:=aeF (by omega);obtain⟨i,rfl⟩:∃i:Nat,z=i:=⟨z.toNat,by omega⟩
 have hi:i<l.length:=by omega
 obtain⟨iz,aX⟩:=Ow.addr (As.gs st2.g1) (ao hi);refine WP .r (PV.fO sw aX rfl rfl (by omega))<|WP .r (PV.pA iF (Ow.qq (As.gs st2.g1) (by omega) aX (ao hi)) rfl rfl)<|(cy) ?_;exact⟨_,rfl,List.getElem_mem hi,st2⟩
theorem BX(bJ:St w M Z w [As.jt 74 d]):Calls prog 47 #[.pointer (some ⟨d,0,none⟩)] w fun e w'=>∃x:Change,e=.returned (.agg x.cells.toArray)∧x.small∧St w M Z w' [As.jt 74 d]:=by
 refine enter func47 rfl ntmps47 rfl<|?_;have bd:=bJ;refine(gy) bd fun b2 w1 nv fl st1=>?_;refine eC ?_;have st2:=st1.p1;refine(dh) lN (bP st2.e1 (m:=4) (by omega)) ?_;rintro _ w2 ⟨z4,rfl,Qi,HF,uY⟩;have aW:=St.lr st2 uY;have HF:=HF (by omega);refine(iu) (jU (n:=z4)) aW fun w3 s3 ba=>?_;refine nx ?_;refine WL.go rfl (OX.aR (us:=words.map Value.string) O8 rfl rfl rfl rfl fun b7 w4 vZ om=>?_);have bs:=St.rP (R:=RR.str) (E:=9) (k:=1) (a:=some ⟨b7,0,none⟩) (n:=10) (c:=10) (xs:=words) ba vZ.ext (Ow.flat om rfl (by simp) (by simp [words,Value.oneCell']) rfl (by decide)) (fun x hx=>by simp [aI] at hx;subst hx;exact vZ.ge);have bj:=bs.p1;refine(dh) aiR (HE bj.e2 (by decide) (by decide)) ?_;rintro _ w5 ⟨s,rfl,hs,jB⟩;have bV:=St.lr bj jB;refine WP .r (PV.bU (us:=(Change.mk (dx z4) s).cells) ace rfl rfl rfl)<|(dB) Pc bV.p2 fun w6 jV j0 bT=>?_;refine(my) GU bT.b0<|?_;exact⟨⟨dx z4,s⟩,rfl,⟨⟨z4,Qi,by omega,rfl⟩,Px s hs⟩,bT.drop.p1.drop⟩
theorem qT(bJ:St w M Z w [As.jt 74 d]) (hm:0≤m) (kI:m≤1000):Calls prog 22 #[.pointer (some ⟨d,0,none⟩),.int .i64 m] w fun e w'=>∃a n c,∃l:List Change,e=.returned (.slice a n c)∧(l.length:Int)≤m∧(∀x∈l,x.small)∧St w M Z w' [As.jt 74 d,As.os RR.cW 71 3 a n c l]:=by
 refine enter func22 rfl ntmps22 rfl<|?_;have bd:=bJ;have st1:=bd.eR RR.cW 71 3;refine bf ?_;refine dV ?_;have st2:=st1.p1;refine(dh) lN (bP st2.e1 (m:=m+1) (by omega)) ?_;rintro _ w1 ⟨z0,rfl,Qj,qU,AL⟩;have aW:=St.lr st2 AL;have qU:=qU (by omega);obtain⟨z,rfl⟩:∃z:Nat,z0=z:=⟨z0.toNat,by omega⟩;refine dV ?_;refine WC.cq (σ:=Nat × (List Change) × (Option Addr) × Nat × Nat) (eP:=fun(i,l,fW,ey,fX)=>[(0,.pointer (some ⟨d,0,none⟩)),(5,.slice fW ey fX),(6,.int .i64 (i:Int))]) (F:=fun(i,l,fW,ey,fX)=>[As.os RR.cW 71 3 fW ey fX (l),As.jt 74 d]) (I:=fun(i,l,fW,ey,fX)=>(l.length+i≤z)∧(∀x∈l,x.small)∧True) (μ:=fun(i,l,fW,ey,fX)=>i) (z,[],none,0,0) (aW.p1) Sub.t (⟨by simp,by simp,trivial⟩)<|?_;rintro⟨i,l,fW,ey,fX⟩ w2 ba ⟨hlz,Df,_⟩;simp only [CA,NA] at ba hlz Df ⊢;have Ua:=((As.gs ba.g0)).len;refine(aZ) (fun g12=>?_) fun g12=>?_
 ·
  simp at g12
  refine gM ?_;have bs:=ba.p1;refine(dh) aiy (BX bs.e1) ?_;rintro _ w3 ⟨x,rfl,hx,eN⟩;have bj:=St.lr bs eN;refine WL.go rfl (OX.aR (us:=x.cells) O7 rfl rfl rfl rfl fun b18 w4 X0 X2=>?_);have bV:=bj.eI X0 X2;refine WL.ap rfl rfl bV.p2 (SR.ek (A:=fun _=>True) (x:=x) (As.gb bV.g0) trivial rfl (by simp [Change.cells,Value.oneCell']) rfl) fun a19 X3 w5 ajx ajy bT=>?_;refine qd ?_;refine fJ (i - 1,l++[x],a19,(ey+1),X3) ⟨bT.p1.drop,⟨by simp;omega,fun y hy=>by rcases List.mem_append.1 hy with h | h;exact Df y h;simp at h;subst h;exact hx,trivial⟩⟩
 simp at g12
 refine(cy) ?_;exact⟨_,_,_,l,rfl,by omega,Df,ba.p1⟩
set_option maxHeartbeats 4000000 in
theorem EM(bJ:St w M Z w [As.jt 74 d]):Calls prog 20 #[.pointer (some ⟨d,0,none⟩)] w fun e w'=>∃a n c,∃l:List aG,∃Z',e=.returned (.slice a n c)∧aw l∧2≤l.length∧l.length≤8∧cI w.heap.size Z Z'∧St w M Z' w' [As.jt 74 d,As.os RR.gF 59 4 a n c l]:=by
 refine enter func20 rfl ntmps20 rfl<|?_;have bd:=bJ;have st1:=bd.eR RR.gF 59 4;refine bf ?_;refine cS ?_;have st2:=st1.p1;refine(dh) lN (bP st2.e1 (m:=7) (by omega)) ?_;rintro _ w1 ⟨z0,rfl,Qj,qU,AL⟩;have aW:=St.lr st2 AL;have qU:=qU (by omega);obtain⟨z,rfl⟩:∃z:Nat,z0=z:=⟨z0.toNat,by omega⟩;refine eC ?_;refine WC.cq (σ:=Nat × (List aG) × (Option Addr) × Nat × Nat) (eP:=fun(i,l,fW,ey,fX)=>[(0,.pointer (some ⟨d,0,none⟩)),(3,.slice fW ey fX),(4,.int .i64 (i:Int))]) (F:=fun(i,l,fW,ey,fX)=>[As.os RR.gF 59 4 fW ey fX (l),As.jt 74 d]) (I:=fun(i,l,fW,ey,fX)=>(l.length+i=z+2)∧True) (μ:=fun(i,l,fW,ey,fX)=>i) (z+2,[],none,0,0) (aW.p1) Sub.t (⟨by simp,trivial⟩)<|?_;rintro⟨i,l,fW,ey,fX⟩ w2 ba ⟨hlz,_⟩;simp only [CA,NA] at ba hlz ⊢;have Ua:=((As.gs ba.g0)).len;refine(aZ) (fun g16=>?_) fun g16=>?_
 ·
  simp at g16
  refine gM ?_;have bs:=ba.p1;refine(dh) lN (bP bs.e1 (m:=3) (by omega)) ?_;rintro _ w3 ⟨z1,rfl,an9,U0,eN⟩;have bj:=St.lr bs eN;have U0:=U0 (by omega);obtain⟨g,hg⟩:∃g:Bool,g=decide (z1=1):=⟨_,rfl⟩;refine nx ?_;refine WP .r (PV.bU (us:=[.bool (decide (z1=1)),.slice none 0 0,.int .i64 0,.int .i64 0]) Sl rfl rfl rfl)<|?_;refine WL.go rfl (OX.aR (us:=[.bool (decide (z1=1)),.slice none 0 0,.int .i64 0,.int .i64 0]) O6 rfl rfl rfl rfl fun b24 w4 akY akZ=>?_);have bV:=bj.eI akY akZ;refine WL.ap rfl rfl bV.p2 (SR.ek (A:=fun _=>True) (x:=begun g) (As.gb bV.g0) trivial rfl (by simp [Value.oneCell']) ⟨none,0,0,by rw [hg];rfl,SR.nil _ _ _ _⟩) fun a25 ak0 w5 asf asg bT=>?_;refine qd ?_;refine fJ (i - 1,l++[begun g],a25,(ey+1),ak0) ⟨bT.p1.drop,⟨by simp;omega,trivial⟩⟩
 simp at g16
 refine bf ?_;refine cS ?_;refine WC.kh (σ:=Nat × (List aG) × (Nat→Prop)) (eP:=fun(i,l1,Z1)=>[(0,.pointer (some ⟨d,0,none⟩)),(3,.slice fW ey fX),(27,.int .i64 (ey:Int)),(28,.int .i64 (i:Int))]) (F:=fun(i,l1,Z1)=>[As.jt 74 d,As.os RR.gF 59 4 fW ey fX l1]) (I:=fun(i,l1,Z1)=>(i≤ey)∧(nT l1 i)∧(cI w.heap.size Z Z1)∧True) (μ:=fun(i,l1,Z1)=>ey - i) (Zf:=fun(i,l1,Z1)=>Z1) (0,l,Z) (ba.p1) Sub.t (⟨Nat.zero_le _,nT.start (by omega),cI.refl _ _,trivial⟩)<|?_;rintro⟨i,l1,Z1⟩ w3 bs ⟨hi,hPo,hZ,_⟩;simp only [CA,NA] at bs hi hPo hZ ⊢;have jF:=((As.gs bs.g1)).len;have hP8:=hPo.1;refine(aZ) (fun qg=>?_) fun qg=>?_
 ·
  simp at qg
  have cT:i<l1.length:=by omega
  have hrt:=cM cT;have Es:=Bs cT;refine bf ?_;refine(iu) (xj (n:=(i:Int)) (Ow.rd (As.gs bs.g1) (by omega))) bs fun w4 s4 bj=>?_;refine qd ?_;obtain⟨bx,lT⟩:=Ow.addr (As.gs bj.g1) (ao cT);refine dA ?_;refine WP .r (PV.fO ll lT rfl rfl (by omega))<|nx ?_;refine WP .r (PV.pA fq (Ow.ring (As.gs bj.g1) lT (by omega) cT) rfl rfl)<|dA ?_;have bV:=bj;refine WC.mM (σ:=Int) [] (fun most=>[(0,.pointer (some ⟨d,0,none⟩)),(3,.slice fW ey fX),(5,.int .i64 (i:Int)),(7,.int .i64 most),(27,.int .i64 (ey:Int)),(28,.int .i64 (i:Int))]) (fun most=>[]) (fun most=>(most=gO l1 i)∧True) bV ?_ ?_
  ·
   refine(aZ) (fun lW=>?_) fun lW=>?_
   ·
    have lW:l1[i].ring=false:=by simpa using lW
    refine dV ?_;exact sf ((block l1 (i:Int)).1) ⟨bV,⟨by unfold gO;rw [hrt,lW];rfl,trivial⟩⟩
   have lW:l1[i].ring=true:=by simpa using lW
   refine nx ?_;exact sf ((block l1 (i:Int)).2) ⟨bV,⟨by unfold gO;rw [hrt,lW];rfl,trivial⟩⟩
  rintro most w5 bT ⟨U1,_⟩;simp only [CA,NA] at bT U1 ⊢;refine cS ?_;refine WC.du (m:=12) [] [6,9] [5,6,8,9,0,1,2,3,4,7,10,11] [(11,.blk 59 [.bool false,.slice none 0 0,.int .i64 0,.int .i64 0])] bT (av.cons M1<|av.nil) mixed (by kernel_rfl) (by kernel_rfl) rfl<|(jb) (fun w6 R6x MW cm uZ=>?_);simp only [CA,NA] at cm;have aM:=cm;refine OX.call lN rfl rfl ((bP aM.e1 (m:=4) (by omega)).mono ?_);rintro _ w7 ⟨z2,rfl,aeH,HG,n9⟩;have aO:=St.lr aM n9;have HG:=HG (by omega);refine⟨_,rfl,n9.cW.size,_,rfl,_,_,_,aO,ay.k2<|ay.nil,av.cons M1<|av.nil,?_⟩;refine(jb) (fun w8 R9x Qa aS AQ=>?_);simp only [CA,NA] at aS;have bC:=aS;refine OX.call lN rfl rfl ((bP bC.e1 (m:=6) (by omega)).mono ?_);rintro _ w9 ⟨z3,rfl,aeI,HH,ny⟩;have br:=St.lr bC ny;have HH:=HH (by omega);refine⟨_,rfl,ny.cW.size,_,rfl,_,_,_,br,ay.k2<|ay.nil,av.cons M1<|av.nil,?_⟩
  iterate 2 refine DG.a ?_
  refine DQ .r (fun wx Zx Rx _ fN kT=>PV.fO ll lT rfl rfl (by omega))<|?_;refine DG.a<|?_;refine DQ .r (fun wx Zx Rx _ fN kT=>PV.pA fq (Ow.ring (As.gs (fN.sv kT).g0) lT (by omega) cT) rfl rfl)<|?_;refine DG.a<|?_;refine DQ .r (fun wx Zx Rx _ fN kT=>PV.bU (us:=[.bool l1[i].ring,.slice none 0 0,.int .i64 (1+z2),.int .i64 z3]) Sl rfl rfl rfl)<|?_;refine DG.side (s:=.blk 59 [.bool false,.slice none 0 0,.int .i64 0,.int .i64 0]) rfl rfl rfl rfl rfl rfl (fun wx Zx Rx BU fN=>OX.alloc Sn rfl fun b wy nw hb=>⟨nw.ext.size,_,rfl,⟨b,rfl⟩,fN.eI nw hb⟩)<|?_;rintro _ ⟨b8,rfl⟩;refine(oD) ?_;intro kE Lj aY;simp only [CM,NM,CA,NA,lG.it] at aY;refine(dB) Jp aY fun kF jV j0 aQ=>?_;refine WL.nil (EX.np ?_);refine(bM) fq aQ.b0<|cS ?_;have bB:=aQ;refine WC.mM (σ:=Int × Int) [_] (fun(f0,c0)=>[(0,.pointer (some ⟨d,0,none⟩)),(3,.slice fW ey fX),(5,.int .i64 (i:Int)),(7,.int .i64 most),(8,.pointer (some ⟨b8,0,none⟩)),(27,.int .i64 (ey:Int)),(28,.int .i64 (i:Int))]) (fun(f0,c0)=>[As.blk b8 59 [.bool l1[i].ring,.slice none 0 0,.int .i64 f0,.int .i64 c0]]) (fun(f0,c0)=>(∀xs:List Ask,jy ⟨l1[i].ring,xs,f0,c0⟩=true)∧True) bB ?_ ?_
  ·
   refine(aZ) (fun MT=>?_) fun MT=>?_
   ·
    have ak1:d<kF.heap.size:=(As.jt 74 d).lt (bB.g1) d rfl;have Qk:b8<kF.heap.size:=((As.gb bB.g0)).lt;have bL:=bB;have bG:=bL.conv (B:=As.ahx (ι:=Int) b8 59 fun f=>[.bool l1[i].ring,.slice none 0 0,.int .i64 f,.int .i64 z3]) ⟨_,(As.gb bL.g0)⟩ (fun _ h=>h);have ak2:=bG.cX;have aeJ:=bG.ma;have aeK:=bG.size;refine WC.N7 (m:=8) (fun j w w'=>match j with | 2=>ja (fun x=>x=d) w w' | 6=>ja (fun x=>x=b8) w w' | _=>ja (fun _=>False) w w') (E:=dm [(0,PS kF.heap.size 3 6 [.int .i64 0,.int .i64 1,.int .i64 2,.int .i64 4,.int .i64 8,.int .i64 16]),(2,fun v _=>∃z:Nat,v=.int .i64 (z:Int)∧z<6),(3,fun v wx=>∃b k:Nat,v=.pointer (some ⟨b,0+k*1,none⟩)∧k<6∧kF.heap.size≤b∧cV wx b 3 [.int .i64 0,.int .i64 1,.int .i64 2,.int .i64 4,.int .i64 8,.int .i64 16]),(4,fun v _=>∃z:Int,v=.int .i64 z∧0≤z∧z≤65535),(6,fun _ wx=>wx.cell? ⟨b8,2,none⟩=some (.int .i64 5))]) bG (ov (⟨⟨trivial,fun _ _ _ _ _ c h=>PS.st (fun x hx=>by subst hx;exact ak1) c h,fun _ _ _ _ _ c h=>PS.st (fun x hx=>hx.elim) c h,fun _ _ _ _ _ c h=>PS.st (fun x hx=>hx.elim) c h,fun _ _ _ _ _ c h=>PS.st (fun x hx=>by subst hx;exact Qk) c h,trivial⟩,⟨⟨fun _ _ _ _ _ _ h=>h,trivial,fun _ _ _ _ _ _ h=>h,fun _ _ _ _ _ _ h=>h,fun _ _ _ _ _ _ h=>h,trivial⟩,⟨⟨trivial,trivial,trivial,fun _ _ _ _ _ c ⟨b,k,h1,h2,h3,h4⟩=>⟨b,k,h1,h2,h3,(PB.get (PB.st (fun x hx=>hx.elim) c (v:=.pointer (some ⟨b,0,none⟩)) ⟨b,rfl,h3,h4⟩)).2⟩,fun _ _ _ _ _ c ⟨b,k,h1,h2,h3,h4⟩=>⟨b,k,h1,h2,h3,(PB.get (PB.st (fun x hx=>by subst hx;exact Qk) c (v:=.pointer (some ⟨b,0,none⟩)) ⟨b,rfl,h3,h4⟩)).2⟩,trivial⟩,⟨⟨fun _ _ _ _ _ _ h=>h,fun _ _ _ _ _ _ h=>h,trivial,trivial,fun _ _ _ _ _ _ h=>h,trivial⟩,⟨⟨fun _ _ _ _ _ c h=>by rw [← h];exact World.cell?_of_block (c.block b8 (by omega) (fun hx=>hx.elim)),trivial,fun _ _ _ _ _ c h=>by rw [← h];exact World.cell?_of_block (c.block b8 (by omega) (fun hx=>hx.elim)),fun _ _ _ _ _ c h=>by rw [← h];exact World.cell?_of_block (c.block b8 (by omega) (fun hx=>hx.elim)),trivial,trivial⟩,trivial⟩⟩⟩⟩⟩)) mixed (by kernel_rfl)<|?_;refine DW.e rfl rfl rfl rfl rfl (fun wx hC hF=>OX.aR (us:=[.int .i64 0,.int .i64 1,.int .i64 2,.int .i64 4,.int .i64 8,.int .i64 16]) Xf rfl rfl rfl rfl fun b wy nw hb=>⟨⟨Nat.le_trans hC.1 nw.ext.size,hC.2.step nw.ext⟩,nw.ext.p0,_,rfl,_,rfl,Nat.le_trans hC.1 nw.ge,hb⟩)<|?_;rintro _ wz _ ⟨b57,rfl,_,_⟩;refine nx ?_;refine DW.e rfl rfl rfl rfl rfl (fun wx hC hF=>OX.call lN rfl rfl ((bP (hC.2.one (.tail _ (.head _))) (m:=6) (by omega)).mono ?_))<|?_
    ·
     rintro _ wy ⟨z,rfl,h0,h1,hy⟩;exact⟨_,rfl,⟨Nat.le_trans hC.1 hy.cW.size,hC.2.Cw M1 hy⟩,hy.cW.mono (fun x _ hx=>by obtain⟨A,hA,hx⟩:=hx;simp at hA;subst hA;exact hx),_,rfl,⟨z.toNat,by congr 1;omega,by have:=h1 (by omega);omega⟩⟩
    rintro _ wz _ ⟨z13,rfl,z131⟩
    refine DW.e rfl rfl rfl rfl rfl (fun wx hC hF=>by
     obtain⟨_,⟨b1_,dK,fl,dJ⟩,_⟩:=hF;simp only [Value.slice.injEq,Option.some.injEq,Addr.mk.injEq,and_true,true_and] at dK;subst dK;exact OX.pv (PV.ix (i:=z13) Jo rfl rfl z131) rfl ⟨hC,ja.refl _ _,_,rfl,_,z13,rfl,z131,fl,dJ⟩) ?_
    rintro _ wz _ ⟨b3,k3,rfl,wT,G9,dJ⟩
    refine DW.e rfl rfl rfl rfl rfl (fun wx hC hF=>by
     obtain⟨⟨b1_,k1_,sk,nc,_,rI⟩,_⟩:=hF;simp only [Value.pointer.injEq,Option.some.injEq,Addr.mk.injEq,and_true] at sk;obtain⟨rfl,Ky⟩:=sk
     obtain⟨z,hz,h0,h1⟩:∃z:Int,nth [.int .i64 0,.int .i64 1,.int .i64 2,.int .i64 4,.int .i64 8,.int .i64 16] (k3*1)=some (.int .i64 z)∧0≤z∧z≤65535:=by
      have h6:k3=0∨k3=1∨k3=2∨k3=3∨k3=4∨k3=5:=by omega
      rcases h6 with rfl | rfl | rfl | rfl | rfl | rfl <;> exact⟨_,rfl,by decide,by decide⟩
     exact OX.pv (PV.ld1 (o:=0) (j:=k3*1) aU (cV.range rI) rfl hz) rfl ⟨hC,ja.refl _ _,_,rfl,z,rfl,h0,h1⟩) ?_
    rintro _ wz _ ⟨z5,rfl,h5a,h5b⟩;refine nx ?_
    refine DW.e0 rfl rfl rfl rfl (fun wx hC hF=>by
     obtain⟨f,hb⟩:∃f:Int,cV wx b8 59 [.bool l1[i].ring,.slice none 0 0,.int .i64 f,.int .i64 z3]:=hC.2.ok _ M0;exact OX.st (j:=2) QT hb rfl rfl (by simp [nth]) rfl rfl fun wy s hsz fl=>⟨⟨Nat.le_trans hC.1 s.size,hC.2.same M0 (s.p.mono fun x _ hx=>show x=b8 from by simpa using hx) ⟨5,fl⟩⟩,s.p.mono (fun x _ hx=>by simpa using hx),fun _=>cV.range fl 2 _ rfl⟩) ?_
    rintro _ wz _ h6c;refine(eb) ?_;rintro qf ⟨aeL,ck⟩ ⟨Ys,⟨_,⟨_,⟨_,⟨hF0,_⟩⟩⟩⟩⟩;have cw:=ck.xN (PS.pb hF0) ak2 aeJ aeK;have cx:=cw.p1
    have cU:=cx.conv (B:=As.blk b8 59 [.bool l1[i].ring,.slice none 0 0,.int .i64 5,.int .i64 z3]) (by
     obtain⟨f,hb⟩:∃f:Int,cV qf b8 59 [.bool l1[i].ring,.slice none 0 0,.int .i64 f,.int .i64 z3]:=cx.ok _ M0;have h1:=(cV.range hb 2 _ rfl).symm.trans Ys
     have h2:f=5:=by simpa using h1
     subst h2;exact hb) (fun _ h=>h)
    refine WL.s1 cU fun tU _ ct=>?_;refine nx ?_;exact sf (5,z5) ⟨ct.p1.drop,⟨fun _=>by unfold jy;simp [MT,h5a,h5b],trivial⟩⟩
   have MT:l1[i].ring=false:=by simpa using MT
   refine nx ?_;exact sf (1+z2,z3) ⟨bB,⟨fun _=>by unfold jy;simp [MT];omega,trivial⟩⟩
  rintro⟨f0,c0⟩ qf bL ⟨Tw,_⟩;simp only [CA,NA] at bL Tw ⊢;refine eC ?_;have bG:=bL.p1;refine(dh) lN (bP bG.e1 (m:=4) (by omega)) ?_;rintro _ tU ⟨z6,rfl,aob,U3,P4⟩;have ck:=St.lr bG P4;have U3:=U3 (by omega);obtain⟨z,hz6⟩:∃z:Nat,z6=z:=⟨z6.toNat,by omega⟩;subst hz6;refine dV ?_;have cw:=ck.eR RR.ask 61 4;refine WC.cq (σ:=Nat × (List Ask) × (Option Addr) × Nat × Nat) (eP:=fun(k,xs,EN,HI,J4)=>[(0,.pointer (some ⟨d,0,none⟩)),(3,.slice fW ey fX),(5,.int .i64 (i:Int)),(7,.int .i64 most),(8,.pointer (some ⟨b8,0,none⟩)),(9,.int .i64 (k:Int)),(27,.int .i64 (ey:Int)),(28,.int .i64 (i:Int))]) (F:=fun(k,xs,EN,HI,J4)=>[As.os RR.ask 61 4 EN HI J4 (xs),As.blk b8 59 [.bool l1[i].ring,.slice EN HI J4,.int .i64 f0,.int .i64 c0],As.jt 74 d]) (I:=fun(k,xs,EN,HI,J4)=>(∀x∈aI EN,w.heap.size≤x)∧(xs.length+k≤3)∧(∀(k:Nat) x,xs[k]?=some x→gD l1 i l1[i].ring k x=true)∧True) (μ:=fun(k,xs,EN,HI,J4)=>k) (z,[],none,0,0) (cw.p1.p2.p2) Sub.t (⟨by simp [aI],by simp;omega,by simp,trivial⟩)<|?_;rintro⟨k,xs,EN,HI,J4⟩ Ay cx ⟨hga,hxk,eV,_⟩;simp only [CA,NA] at cx hga hxk eV ⊢;have hxl:=((As.gs cx.g0)).len;refine(aZ) (fun jj=>?_) fun jj=>?_
  ·
   simp at jj
   refine eC ?_;have cU:=cx.p2;refine WC.mM (σ:=Nat × Bool) [_] (fun(iA,cell)=>[(0,.pointer (some ⟨d,0,none⟩)),(3,.slice fW ey fX),(5,.int .i64 (i:Int)),(7,.int .i64 most),(8,.pointer (some ⟨b8,0,none⟩)),(9,.int .i64 (k:Int)),(10,.pointer (some ⟨iA,0,none⟩)),(27,.int .i64 (ey:Int)),(28,.int .i64 (i:Int))]) (fun(iA,cell)=>[As.blk iA 61 [.bool cell,.bool false,.int .i64 0,.int .i64 0],As.jt 74 d]) (fun(iA,cell)=>(cell=false→most≠0)∧True) cU ?_ ?_
   ·
    refine cS ?_;have ct:=cU;refine(dh) lN (bP ct.e1 (m:=3) (by omega)) ?_;rintro _ uP ⟨z7,rfl,aeM,HJ,u6⟩;have cN:=St.lr ct u6;have HJ:=HJ (by omega);refine(ed) (fun J5=>?_) (fun J5=>?_)
    ·
     refine dA ?_;refine WP .r (PV.bU (us:=_) Sm rfl rfl rfl)<|(gy) cN fun iA yq kL ft ef=>?_;refine(dB) Jq ef fun En sC nj dq=>?_;refine nx ?_;exact sf (iA,true) ⟨dq,⟨(fun h=>by cases h),trivial⟩⟩
    refine dA ?_;refine WP .r (PV.bU (us:=_) Sm rfl rfl rfl)<|(gy) cN fun iA yq kL ft ef=>?_;refine(dB) Jq ef fun En BC rq dq=>?_;refine nx ?_;exact sf (iA,decide (most=0)) ⟨dq,⟨fun h=>by simpa using h,trivial⟩⟩
   rintro⟨iA,cell⟩ uP ct ⟨Cd,_⟩;simp only [CA,NA] at ct Cd ⊢;refine(bM) fq ct.b0<|cS ?_;have cN:=ct;refine WC.mM (σ:=Int) [] (fun m2=>[(0,.pointer (some ⟨d,0,none⟩)),(3,.slice fW ey fX),(5,.int .i64 (i:Int)),(7,.int .i64 most),(8,.pointer (some ⟨b8,0,none⟩)),(9,.int .i64 (k:Int)),(10,.pointer (some ⟨iA,0,none⟩)),(11,.int .i64 m2),(27,.int .i64 (ey:Int)),(28,.int .i64 (i:Int))]) (fun m2=>[]) (fun m2=>(m2=if cell then 4 else gO l1 i)∧True) cN ?_ ?_
   ·
    refine(aZ) (fun g80=>?_) fun g80=>?_
    ·
     refine dA ?_;exact sf (4) ⟨cN,⟨by rw [g80];rfl,trivial⟩⟩
    have g80:cell=false:=by simpa using g80
    refine nx ?_;exact sf (most) ⟨cN,⟨by rw [g80,U1];rfl,trivial⟩⟩
   rintro m2 yq ef ⟨QY,_⟩;simp only [CA,NA] at ef QY ⊢
   have Bk:1≤m2∧m2≤24:=by
    cases cell
    ·
     simp at QY;have:=Cd rfl;omega
    simp at QY;omega
   refine eC ?_;have dq:=ef.p1;refine(dh) lN (bP dq.e1 (m:=m2) (by omega)) ?_;rintro _ En ⟨z8,rfl,aeO,HK,Hj⟩;have ew:=St.lr dq Hj;have HK:=HK (by omega);refine nx ?_;refine WL.s1 ew.p1 fun De _ db=>?_;refine dV ?_;have dM:=db.p1;refine WC.mM (σ:=Bool) [_] (fun b92=>[(0,.pointer (some ⟨d,0,none⟩)),(3,.slice fW ey fX),(5,.int .i64 (i:Int)),(7,.int .i64 most),(8,.pointer (some ⟨b8,0,none⟩)),(9,.int .i64 (k:Int)),(10,.pointer (some ⟨iA,0,none⟩)),(11,.int .i64 m2),(27,.int .i64 (ey:Int)),(28,.int .i64 (i:Int)),(92,.bool b92)]) (fun b92=>[As.jt 74 d]) (fun b92=>True) dM ?_ ?_
   ·
    refine(bM) fq dM.b1<|(ed) (fun g88=>?_) (fun g88=>?_)
    ·
     refine nx ?_;have cR:=dM;refine(dh) lN (bP cR.e1 (m:=2) (by omega)) ?_;rintro _ JT ⟨z9,rfl,aeP,HL,Ql⟩;have di:=St.lr cR Ql;have HL:=HL (by omega);refine dA ?_;exact sf (decide (z9=0)) ⟨di,trivial⟩
    refine eC ?_;exact sf (false) ⟨dM,trivial⟩
   rintro b92 JT cR _;simp only [CA,NA] at cR ⊢;refine nx ?_;have di:=cR.p1;refine WC.mM (σ:=Int) [_,_] (fun nn=>[(0,.pointer (some ⟨d,0,none⟩)),(3,.slice fW ey fX),(5,.int .i64 (i:Int)),(7,.int .i64 most),(8,.pointer (some ⟨b8,0,none⟩)),(9,.int .i64 (k:Int)),(10,.pointer (some ⟨iA,0,none⟩)),(11,.int .i64 m2),(27,.int .i64 (ey:Int)),(28,.int .i64 (i:Int))]) (fun nn=>[As.blk iA 61 [.bool cell,.bool false,.int .i64 nn,.int .i64 0],As.jt 74 d]) (fun nn=>(0≤nn)∧(nn<m2)∧True) di ?_ ?_
   ·
    refine(aZ) (fun g92=>?_) fun g92=>?_
    ·
     refine jo ?_;have dr:=di.p1;refine(dh) lN (bP dr.e1 (m:=(min m2 3)) (by omega)) ?_;rintro _ MM ⟨z10,rfl,ak4,Qm,AR⟩;have eQ:=St.lr dr AR;have Qm:=Qm (by omega);refine cS ?_;refine WL.s1 eQ.p1 fun Lm _ dR=>?_;refine nx ?_;exact sf (m2 - 1 - z10) ⟨dR,⟨by omega,by omega,trivial⟩⟩
    refine nx ?_;exact sf (z8) ⟨di,⟨by omega,by omega,trivial⟩⟩
   rintro nn MM dr ⟨hn0,hn1,_⟩;simp only [CA,NA] at dr hn0 hn1 ⊢;refine dA ?_;have eQ:=dr.p1;refine WC.mM (σ:=Bool) [_] (fun Qn=>[(0,.pointer (some ⟨d,0,none⟩)),(3,.slice fW ey fX),(5,.int .i64 (i:Int)),(7,.int .i64 most),(8,.pointer (some ⟨b8,0,none⟩)),(9,.int .i64 (k:Int)),(10,.pointer (some ⟨iA,0,none⟩)),(11,.int .i64 m2),(27,.int .i64 (ey:Int)),(28,.int .i64 (i:Int)),(114,.bool Qn)]) (fun Qn=>[As.jt 74 d]) (fun Qn=>(Qn=true→l1[i].ring=false∧xs.length≠0)∧True) eQ ?_ ?_
   ·
    refine(bM) fq eQ.b3<|(ed) (fun aeQ=>?_) (fun aeQ=>?_)
    ·
     refine(bM) mT eQ.b3<|(ed) (fun rX=>?_) (fun rX=>?_)
     ·
      refine nx ?_;have dR:=eQ;refine(dh) lN (bP dR.e1 (m:=3) (by omega)) ?_;rintro _ Lm ⟨z11,rfl,ak5,Qo,aeR⟩;have eA:=St.lr dR aeR;have Qo:=Qo (by omega);refine dA ?_;exact sf (decide (z11=1)) ⟨eA,⟨fun _=>⟨by simpa using aeQ,by have h0:=rX;simp at h0;omega⟩,trivial⟩⟩
     refine eC ?_;exact sf (false) ⟨eQ,⟨(fun h=>by cases h),trivial⟩⟩
    refine uj ?_;exact sf (false) ⟨eQ,⟨(fun h=>by cases h),trivial⟩⟩
   rintro Qn Lm dR ⟨hb,_⟩;simp only [CA,NA] at dR hb ⊢;refine nx ?_;have eA:=dR.p1;refine WC.mM (σ:=Bool × Int) [_,_] (fun(pk,el)=>[(0,.pointer (some ⟨d,0,none⟩)),(3,.slice fW ey fX),(5,.int .i64 (i:Int)),(7,.int .i64 most),(8,.pointer (some ⟨b8,0,none⟩)),(9,.int .i64 (k:Int)),(10,.pointer (some ⟨iA,0,none⟩)),(27,.int .i64 (ey:Int)),(28,.int .i64 (i:Int))]) (fun(pk,el)=>[As.blk iA 61 [.bool cell,.bool pk,.int .i64 nn,.int .i64 el],As.jt 74 d]) (fun(pk,el)=>(pk=true→l1[i].ring=false∧xs.length≠0∧0≤el∧el<m2)∧(pk=false→el=0)∧True) eA ?_ ?_
   ·
    refine(aZ) (fun EO=>?_) fun EO=>?_
    ·
     refine dA ?_;have eO:=eA.p1;refine(dh) lN (bP eO.e1 (m:=m2) (by omega)) ?_;rintro _ Tr ⟨z12,rfl,ak6,Qp,Ln⟩;have fH:=St.lr eO Ln;have Qp:=Qp (by omega);refine nx ?_;refine WL.s1 fH.p1 fun YQ _ iG=>?_;refine nx ?_;refine WL.s1 iG fun YR _ jw=>?_;refine nx ?_;exact sf (true,z12) ⟨jw,⟨fun _=>⟨(hb EO).1,(hb EO).2,by omega,by omega⟩,(fun h=>by cases h),trivial⟩⟩
    refine nx ?_;exact sf (false,0) ⟨eA,⟨(fun h=>by cases h),fun _=>rfl,trivial⟩⟩
   rintro⟨pk,el⟩ Tr eO ⟨hpk,VN,_⟩;simp only [CA,NA] at eO hpk VN ⊢;refine(bM) mT eO.b3<|(bA) su eO.b0<|?_;refine WL.go rfl (OX.aR (us:=(Ask.mk cell pk nn el).cells) Jn rfl rfl rfl rfl fun MY YQ aeS aeT=>?_);have fH:=eO.eI aeS aeT;have hzs:=fH.size;refine WL.ap rfl rfl fH.p3 (SR.ek (A:=fun _=>True) (x:=Ask.mk cell pk nn el) (As.gb fH.g0) trivial rfl (by simp [Ask.cells,Value.oneCell']) rfl) fun a124 aeU YR aeV aoc iG=>?_;refine nx ?_;refine WL.s1 iG.p4 fun w25 _ jw=>?_;refine kP ?_;refine fJ (k - 1,xs++[⟨cell,pk,nn,el⟩],a124,(HI+1),aeU) ⟨jw.p2.drop.p2.drop.p1,⟨fun x hx=>(aeV x hx).elim (hga x) (Nat.le_trans hzs),by simp;omega,L4 eV (V4 (x:=⟨cell,pk,nn,el⟩) QY hn0 hn1 hpk VN),trivial⟩⟩
  simp at jj
  refine eC ?_;have Tw:=Tw xs;have cU:=cx.bN (by omega);have sE:=hZ.trans (cI.fc (F:=fun x=>x∈aI EN) hga) (Nat.le_refl _);refine(bA) xd cU.b1<|?_;refine WP .r (PV.fO ll lT rfl rfl (by omega))<|?_;refine WL.go rfl (OX.aa4 (i:=i) Jp (As.gs cU.g3) lT cT rfl rfl rfl (by simp [Value.oneCell']) ⟨l1[i].ring,xs,f0,c0⟩ ⟨EN,HI,J4,rfl,(As.gr cU.g0)⟩ fun uP s8 h8=>?_);have ct:=cU.p3.jk s8 h8 (fun x h=>.inl h);refine gM ?_;refine fJ (i+1,l1.set i ⟨l1[i].ring,xs,f0,c0⟩,_) ⟨ct.p1.drop.p1.drop.p1,⟨by omega,nT.set hPo cT (cM cT).symm ⟨show xs.length≤6 by omega,eV,Tw⟩,sE,trivial⟩⟩
 simp at qg
 have Bg:i=l1.length:=by omega
 subst Bg;have hRk:=hPo.ok;refine(cy) ?_;exact⟨_,_,_,l1,_,rfl,hRk,by omega,by omega,hZ,bs⟩
end Go.Rc

