/- Walks over the program, part WO. Conditions: as each theorem says. -/
import Derived.Test.YtfamnpoplgkkcaaGreatDoorSFacts
import Derived.Test.YtfamnpoplgkkcaaGreatDoorSWLibE
import Derived.Test.YtfamnpoplgkkcaaGreatDoorSBe
import Derived.Test.YtfamnpoplgkkcaaGreatDoorSBd
import Derived.Test.YtfamnpoplgkkcaaGreatDoorSWF
set_option linter.all false
namespace Go.Rc
open Go Go.Proofs Go.Proofs.Tryz
variable {n r c i r2 e2 n1 e1 n2:Nat}{w:World}{aa:List aG}{A B C M Z:Nat→Prop}{a a2 a1:Option Addr}{k:Key}{s:ByteArray}{l:List Rec}{ae:List ByteArray}{x:Rec}{f:FuncId}{cap:Value}
set_option maxHeartbeats 400000
theorem tk{n:Int} :CR prog 207 #[.int .i64 n] w ((bX n).val):=by
 refine enter func207 rfl ntmps207 rfl<|?_;have aQ:=St.s0 w;refine(eT) aQ fun b2 w1 e g st1=>?_;refine ck ?_;refine WC.dJ (t:=8) (v:=.bool (decide (n<0) || decide (99<n))) st1 ?_<|?_
 ·
  refine(de) (fun g5=>?_) (fun g5=>?_)
  ·
   exact(bZ) (by simp only [g5];first | rfl | simp) (st1)
  exact(bZ) (by simp only [g5];first | rfl | simp) (st1)
 intro w2 st2;refine(aS) (fun g8=>?_) fun g8=>?_
 ·
  have hk:bX n=dW:=by unfold bX;rw [if_pos (by simp at g8;omega)]
  refine(cI) gR st2 fun w3 h j b=>?_;refine(kV) ao b.b0<|?_;rw [hk];exact⟨rfl,(St.cg b)⟩
 simp at g8
 have hk:bX n=⟨30,itoa n⟩:=by unfold bX;rw [if_neg (by omega)]
 refine(eV) (jj (n:=n) (by omega) (by omega) w2) st2 fun w3 m b=>?_;refine WP .r (PV.bC (us:=[.int .i64 30,.string (itoa n)]) Cg rfl rfl rfl)<|(cI) gR b fun w4 o p d=>?_;refine(kV) ao d.b0<|?_;rw [hk];exact⟨rfl,(St.cg d)⟩
theorem zT{n:Int}(hr:fG A w a r c aa):CR prog 202 #[.slice a r c,.int .i64 n] w (.tuple #[.int .i64 (block aa n).1,.int .i64 (block aa n).2]):=by
 have hle:=hr.le;have hlen:=hr.len;refine enter func202 rfl ntmps202 rfl<|?_;have aQ:=St.s0 w;refine gK ?_;refine WC.dJ (t:=15) (v:=.bool (decide (n<0) || decide ((r:Int)≤n))) aQ ?_<|?_
 ·
  refine(de) (fun g10=>?_) (fun g10=>?_)
  ·
   exact(bZ) (by simp only [g10];first | rfl | simp) (aQ)
  exact(bZ) (by simp only [g10];first | rfl | simp) (aQ)
 intro w1 st1;refine(aS) (fun g15=>?_) fun g15=>?_
 ·
  have hb:=xC aa n (by simp at g15;omega);refine(yP) ?_;exact⟨by rw [hb],(St.cg st1)⟩
 obtain⟨b,rfl⟩:∃i:Nat,n=i:=⟨n.toNat,by simp at g15;omega⟩
 have o:b<aa.length:=by simp at g15;omega
 have h:block aa b=if aF aa b then ((bF aa b:Int),(dL aa (b+1):Int)) else ((b:Int),(b:Int)+1):=by
  unfold block;rw [if_neg (by omega)];rfl
 refine aW ?_;refine nx ?_;obtain⟨X,Y,r_x,H,_,⟨q1,q2,q3,rfl,_⟩,J,_⟩:=(hr.ext (St.cg st1)).at (ak o);refine cm ?_;refine WP .r (PV.dV iU H rfl rfl (by omega))<|nx ?_;refine WP .r (PV.ld1 (j:=0) dA J rfl rfl)<|(aS) (fun g24=>?_) fun g24=>?_
 ·
  simp at g24
  have hb:block aa b=((b:Int),(b:Int)+1):=by rw [h,if_neg (by rw [bU o,g24];simp)]
  refine(yP) ?_;exact⟨by rw [hb],(St.cg st1)⟩
 simp at g24
 rw [if_pos (by rw [bU o];exact g24)] at h;refine ck ?_;refine WC.bm (σ:=Nat) (dn:=fun k=>[(0,.slice a r c),(6,.int .i64 (k:Int)),(7,.int .i64 ((b:Int)+1))]) (F:=fun k=>[]) (I:=fun k=>(k≤b)∧(bF aa k=bF aa b)∧True) (μ:=fun k=>k) (b) (st1) Sub.t (⟨Nat.le_refl _,rfl,trivial⟩)<|?_;rintro k w2 st2 ⟨hk,p,_⟩;simp only [CA,NA] at st2 hk p ⊢;refine bO ?_;refine WC.dJ (t:=36) (v:=.bool (decide ((0:Int)<k) && aF aa (k - 1))) st2 ?_<|?_
 ·
  refine(de) (fun q=>?_) (fun q=>?_)
  ·
   simp at q
   obtain⟨b_y,o_y,r_y,K,_,⟨L,N,O,rfl,_⟩,P,_⟩:=(hr.ext (St.cg st2)).at (ak (show k - 1<aa.length by omega));have DR:aa[k-1].ring=aF aa (k-1):=(bU (by omega)).symm;refine cm ?_;refine WP .r (PV.D3 iU (i:=k - 1) K rfl rfl (by omega) (by omega))<|nx ?_;refine WP .r (PV.ld1 (j:=0) dA P rfl rfl)<|?_;exact(bZ) (by simp [*]) (st2)
  simp at q
  have Q:¬(0<k):=by omega
  exact(bZ) (by simp [*]) (st2)
 intro w3 z;refine(aS) (fun d=>?_) fun d=>?_
 ·
  simp at d
  obtain⟨g1,g2⟩:=d;obtain⟨j,rfl⟩:∃j,k=j+1:=⟨k - 1,by omega⟩;refine kU ?_;refine ez (j) ⟨z,⟨by omega,by rw [← p,pZ (by simpa using g2)],trivial⟩⟩
 simp at d
 have R:(block aa b).1=k:=by
  rw [h]
  show(bF aa b:Int)=k
  rw [← p,sD]
  by_cases h0:k=0
  ·
   exact .inl h0
  exact .inr (d (by omega))
 refine eD ?_;refine WC.bm (σ:=Nat) (dn:=fun m=>[(0,.slice a r c),(6,.int .i64 (k:Int)),(7,.int .i64 (m:Int))]) (F:=fun m=>[]) (I:=fun m=>(b+1≤m)∧(m≤r)∧(dL aa m=dL aa (b+1))∧True) (μ:=fun m=>r - m) (b+1) (z) Sub.t (⟨Nat.le_refl _,by omega,rfl,trivial⟩)<|?_;rintro m w4 e ⟨S,T,u,_⟩;simp only [CA,NA] at e S T u ⊢;refine bO ?_;refine WC.dJ (t:=49) (v:=.bool (decide ((m:Int)<r) && aF aa m)) e ?_<|?_
 ·
  refine(de) (fun y=>?_) (fun y=>?_)
  ·
   simp at y
   obtain⟨b_z,o_z,r_z,U,_,⟨L,N,O,rfl,_⟩,V,_⟩:=(hr.ext (St.cg e)).at (ak (show m<aa.length by omega));have D:aa[m].ring=aF aa m:=(bU (by omega)).symm
   have E:decide ((m:Int)<r)=true:=by simp;omega
   refine bO ?_;refine WP .r (PV.dV iU U rfl rfl (by omega))<|nx ?_;refine WP .r (PV.ld1 (j:=0) dA V rfl rfl)<|?_;exact(bZ) (by first | (rw [D,E];rfl) | simp [*]) (e)
  simp at y
  have Q:¬(m<aa.length):=by omega
  exact(bZ) (by first | (rw [D,E];rfl) | simp [*]) (e)
 intro w5 G;refine(aS) (fun g=>?_) fun g=>?_
 ·
  simp at g
  obtain⟨g3,g4⟩:=g;refine kU ?_;refine ez (m+1) ⟨G,⟨by omega,by omega,by rw [← u,← sC g4],trivial⟩⟩
 simp at g
 have W:(block aa b).2=m:=by
  rw [h]
  show(dL aa (b+1):Int)=m
  rw [← u,uh]
  rcases Nat.lt_or_ge m r with h0 | h0
  ·
   exact g (by omega)
  exact lR (by omega)
 refine aW ?_;refine(yP) ?_;exact⟨by rw [R,W],(St.cg G)⟩
theorem pK{cell:Bool}{n:Int}(hr:fG A w a r c aa) (hi:i<aa.length):CR prog 148 #[.slice a r c,.int .i64 (i:Int),.bool cell,.int .i64 n] w (.bool (gy aa i cell n)):=by
 have hle:=hr.le;have hlen:=hr.len;have g:=bU hi;have o:=Ek hi
 have ht:fA aa i=if aa[i].ring=true then (block aa (i:Int)).2 else (block aa (i:Int)).1:=by unfold fA;rw [g]
 refine enter func148 rfl ntmps148 rfl<|?_;have aQ:=St.s0 w;refine(aS) (fun g11=>?_) fun g11=>?_
 ·
  refine nx ?_;refine WC.kf (t:=8) (v:=.bool (decide (0≤n) && decide (n≤15))) aQ ?_<|?_
  ·
   refine(de) (fun g14=>?_) (fun g14=>?_)
   ·
    exact(gu) (by simp only [g14];first | rfl | simp) (aQ)
   exact(gu) (by simp only [g14];first | rfl | simp) (aQ)
  intro w1 st1;refine(bA) ?_;exact⟨by unfold gy;rw [if_pos g11],(St.cg st1)⟩
 refine(eV) (zT (n:=(i:Int)) (hr.ext (St.cg aQ))) aQ fun w1 s1 st1=>?_;refine gK ?_;obtain⟨p,q,u,h,_,⟨q1,y,z,rfl,_⟩,m,_⟩:=(hr.ext (St.cg st1)).at (ak hi);refine WC.kf (t:=8) (v:=.bool (decide (0≤n) && decide (n<fA aa i))) st1 ?_<|?_
 ·
  refine(de) (fun b=>?_) (fun b=>?_)
  ·
   refine(de) (fun d=>?_) (fun d=>?_)
   ·
    refine aW ?_;exact(gu) (by rw [ht];first | (simp [b,d];done) | (simp at b d;simp [b,d];done) | (simp at b d ⊢;split <;> omega) | (simp at b d;simp [b,d];omega)) (st1)
   refine bO ?_;refine WP .r (PV.dV iU h rfl rfl (by omega))<|nx ?_;refine WP .r (PV.ld1 (j:=0) dA m rfl rfl)<|(de) (fun e=>?_) (fun e=>?_)
   ·
    exact(gu) (by rw [ht];first | (simp [b,d,e];done) | (simp at b d e;simp [b,d,e];done) | (simp at b d e ⊢;split <;> omega) | (simp at b d e;simp [b,d,e];omega)) (st1)
   exact(gu) (by rw [ht];first | (simp [b,d,e];done) | (simp at b d e;simp [b,d,e];done) | (simp at b d e ⊢;split <;> omega) | (simp at b d e;simp [b,d,e];omega)) (st1)
  refine aW ?_;exact(gu) (by rw [ht];first | (simp [b];done) | (simp at b;simp [b];done) | (simp at b ⊢;split <;> omega) | (simp at b;simp [b];omega)) (st1)
 intro w2 st2;refine(bA) ?_;exact⟨by unfold gy;rw [g11];rfl,(St.cg st2)⟩
theorem qQ{k:Nat}{x:Ask}(hr:fG A w a r c aa) (hi:i<aa.length):CR prog 104 #[.slice a r c,.int .i64 (i:Int),x.val,.bool (decide ((k:Int)=0))] w (.bool (fm aa i aa[i].ring k x)):=by
 have hle:=hr.le;have hlen:=hr.len;obtain⟨q,u,y,g,_,⟨q1,z,D,rfl,_⟩,h,_⟩:=hr.at (ak hi);have e:(fm aa i aa[i].ring k x)=(gy aa i x.cell x.n && (if x.pick then !aa[i].ring && decide (k≠0) && gy aa i x.cell x.D4 else decide (x.D4=0))):=rfl;rw [e]
 clear e
 have b:decide ((k:Int)=0)=decide (k=0):=by simp
 refine enter func104 rfl ntmps104 rfl<|?_;have aQ:=St.s0 w;refine(dz) aQ fun E w1 F G st1=>?_;refine dd ?_;refine WC.dJ (t:=30) (v:=.bool ((x.pick && (aa[i].ring || decide (k=0))) || !gy aa i x.cell x.n)) st1 ?_<|?_
 ·
  refine(aZ) dA st1.b0<|(de) (fun g11=>?_) (fun g11=>?_)
  ·
   refine bO ?_;refine WP .r (PV.dV iU g rfl rfl (by omega))<|nx ?_;refine WP .r (PV.ld1 (j:=0) dA (a7 h (St.cg st1) (by simp)) rfl rfl)<|(de) (fun g17=>?_) (fun g17=>?_)
   ·
    refine aW ?_;exact(bZ) (by first | (simp only [g11,g17,← b];rfl) | (simp [g11,g17,b];done) | (simp at g11 g17;simp [g11,g17,b];done) | (simp at g11 g17;simp_all;done)) (st1)
   refine(de) (fun g21=>?_) (fun g21=>?_)
   ·
    exact(bZ) (by first | (simp only [g11,g17,g21,← b];rfl) | (simp [g11,g17,g21,b];done) | (simp at g11 g17 g21;simp [g11,g17,g21,b];done) | (simp at g11 g17 g21;simp_all;done)) (st1)
   refine(aZ) dA st1.b0<|(aZ) aO st1.b0<|(eV) (pK (cell:=x.cell) (n:=x.n) (hr.ext (St.cg st1)) hi) st1 fun w2 s2 st2=>?_;exact(bZ) (by first | (simp only [g11,g17,g21,← b];rfl) | (simp [g11,g17,g21,b];done) | (simp at g11 g17 g21;simp [g11,g17,g21,b];done) | (simp at g11 g17 g21;simp_all;done)) (st2)
  refine aW ?_;refine(aZ) dA st1.b0<|(aZ) aO st1.b0<|(eV) (pK (cell:=x.cell) (n:=x.n) (hr.ext (St.cg st1)) hi) st1 fun w2 s2 st2=>?_;exact(bZ) (by first | (simp only [g11,← b];rfl) | (simp [g11,b];done) | (simp at g11;simp [g11,b];done) | (simp at g11;simp_all;done)) (st2)
 intro w2 st2;refine(aS) (fun m=>?_) fun m=>?_
 ·
  refine(bA) ?_;exact⟨by cases hm:gy aa i x.cell x.n <;> cases H:x.pick <;> cases o:aa[i].ring <;> by_cases h0:k=0 <;> simp_all,(St.cg st2)⟩
 refine(aZ) dA st2.b0<|(aS) (fun d=>?_) fun d=>?_
 ·
  simp at d
  refine(aZ) aO st2.b0<|(bA) ?_;exact⟨by cases hm:gy aa i x.cell x.n <;> simp_all,(St.cg st2)⟩
 simp at d
 refine(aZ) dA st2.b0<|(aZ) aO st2.b0<|(eV) (pK (cell:=x.cell) (n:=x.D4) (hr.ext (St.cg st2)) hi) st2 fun w3 I p=>?_;refine(bA) ?_;exact⟨by cases hm:gy aa i x.cell x.n <;> cases o:aa[i].ring <;> by_cases h0:k=0 <;> simp_all,(St.cg p)⟩
theorem vN(hr:fG A w a r c aa) (N:aq aa):CR prog 62 #[.slice a r c] w (.bool true):=by
 have hle:=hr.le;have hlen:=hr.len;have II:=N.1;refine enter func62 rfl ntmps62 rfl<|?_;have aQ:=St.s0 w;refine aW ?_;refine(aS) (fun g12=>?_) fun g12=>?_
 ·
  exact dr g12
 ·
  refine kg ?_;refine WC.bm (σ:=Nat) (dn:=fun i=>[(0,.slice a r c),(13,.slice a r c),(14,.int .i64 (r:Int)),(15,.int .i64 (i:Int))]) (F:=fun i=>[]) (I:=fun i=>(i≤r)∧True) (μ:=fun i=>r - i) (0) (aQ) Sub.t (⟨by omega,trivial⟩)<|?_;rintro i w1 st1 ⟨hi,_⟩;simp only [CA,NA] at st1 hi ⊢;refine(aS) (fun g16=>?_) fun g16=>?_
  ·
   simp at g16
   have E:i<aa.length:=by omega
   obtain⟨afN,O,q⟩:=N.2 i _ (ak E)
   unfold hU at q
   obtain⟨b_x,o_x,r_x,Q,_,⟨q1,j,P,rfl,G⟩,R,_⟩:=hr.at (ak E);have yo:=G.len;refine eD ?_;refine WP .r (PV.dV iU Q rfl rfl (by omega))<|(aX) qD (a7 R (St.cg st1) (by simp))<|(eT) st1 fun b4 w2 Fh IY st2=>?_;refine(cI) Cj st2 fun w3 jW ka b=>?_;refine aW ?_;refine(aZ) dA b.b0<|(aS) (fun g21=>?_) fun g21=>?_
   ·
    rw [if_pos g21] at q
    simp at q
    refine gK ?_;refine WC.dJ (t:=48) (v:=.bool false) b ?_<|?_
    ·
     refine(aZ) ku b.b0<|(de) (fun d=>?_) (fun d=>?_)
     ·
      refine aW ?_;exact(bZ) (tG d) (b)
     refine(aZ) aO b.b0<|(de) (fun e=>?_) (fun e=>?_)
     ·
      refine aW ?_;exact(bZ) (tG (aj d e)) (b)
     refine(aZ) aO b.b0<|(de) (fun g=>?_) (fun g=>?_)
     ·
      exact(bZ) (tG (aj d<|aj e g)) (b)
     refine(aZ) aO b.b0<|(de) (fun m=>?_) (fun m=>?_)
     ·
      exact(bZ) (tG (aj d<|aj e<|aj g m)) (b)
     refine(aZ) aO b.b0<|?_;exact(bZ) (tG (aj d<|aj e<|aj g m)) (b)
    intro w4 y;refine(aS) (fun z=>?_) fun z=>?_
    ·
     exact dr z
    refine(aZ) ku y.b0<|dd ?_;refine WC.bm (σ:=Nat) (dn:=fun k=>[(0,.slice a r c),(3,.int .i64 (i:Int)),(13,.slice a r c),(14,.int .i64 (r:Int)),(15,.int .i64 (i:Int)),(50,.slice q1 j P),(51,.int .i64 (j:Int)),(52,.int .i64 (k:Int))]) (F:=fun k=>[]) (I:=fun k=>(k≤j)∧True) (μ:=fun k=>j - k) (0) (y) Sub.t (⟨by omega,trivial⟩)<|?_;rintro k w5 h ⟨hk,_⟩;simp only [CA,NA] at h hk ⊢;refine(aS) (fun o=>?_) fun o=>?_
    ·
     simp at o
     have D:k<aa[i].asks.length:=by omega
     obtain⟨S,T,U,H,_,rfl,J,_⟩:=(G.ext (St.cg h)).at (ak D);refine eD ?_;refine WP .r (PV.dV wM H rfl rfl (by omega))<|(aX) k9 J<|(eT) h fun V w6 W X K=>?_;refine(cI) ve K fun w7 ry mu p=>?_;refine(aX) k9 p.b0<|bO ?_;refine WL.c1 (u:=.bool true) (qQ (k:=k) (x:=aa[i].asks[k]) (hr.ext (St.cg p)) E) (by rw [show fm aa i aa[i].ring k aa[i].asks[k]=true from O k _ (ak D)]) p fun Y s8 L=>?_;refine cm ?_;refine WC.fX rfl<|eD ?_;refine ez (k+1) ⟨L.drop,⟨by omega,trivial⟩⟩
    simp at o
    refine i7 ?_;refine ez (i+1) ⟨h.drop,⟨by omega,trivial⟩⟩
   rw [if_neg (by simp [g21])] at q
   simp at q
   refine ck ?_;refine WC.dJ (t:=48) (v:=.bool false) b ?_<|?_
   ·
    refine(aZ) ku b.b0<|(de) (fun d=>?_) (fun d=>?_)
    ·
     refine aW ?_;exact(bZ) (tG d) (b)
    refine(aZ) aO b.b0<|(de) (fun e=>?_) (fun e=>?_)
    ·
     refine aW ?_;exact(bZ) (tG (aj d e)) (b)
    refine(aZ) aO b.b0<|(de) (fun g=>?_) (fun g=>?_)
    ·
     exact(bZ) (tG (aj d<|aj e g)) (b)
    refine(aZ) aO b.b0<|(de) (fun m=>?_) (fun m=>?_)
    ·
     exact(bZ) (tG (aj d<|aj e<|aj g m)) (b)
    refine(aZ) aO b.b0<|?_;exact(bZ) (tG (aj d<|aj e<|aj g m)) (b)
   intro w4 y;refine(aS) (fun z=>?_) fun z=>?_
   ·
    exact dr z
   refine(aZ) ku y.b0<|dd ?_;refine WC.bm (σ:=Nat) (dn:=fun k=>[(0,.slice a r c),(3,.int .i64 (i:Int)),(13,.slice a r c),(14,.int .i64 (r:Int)),(15,.int .i64 (i:Int)),(50,.slice q1 j P),(51,.int .i64 (j:Int)),(52,.int .i64 (k:Int))]) (F:=fun k=>[]) (I:=fun k=>(k≤j)∧True) (μ:=fun k=>j - k) (0) (y) Sub.t (⟨by omega,trivial⟩)<|?_;rintro k w5 h ⟨hk,_⟩;simp only [CA,NA] at h hk ⊢;refine(aS) (fun o=>?_) fun o=>?_
   ·
    simp at o
    have D:k<aa[i].asks.length:=by omega
    obtain⟨S,T,U,H,_,rfl,J,_⟩:=(G.ext (St.cg h)).at (ak D);refine eD ?_;refine WP .r (PV.dV wM H rfl rfl (by omega))<|(aX) k9 J<|(eT) h fun V w6 W X K=>?_;refine(cI) ve K fun w7 zH tR p=>?_;refine(aX) k9 p.b0<|bO ?_;refine WL.c1 (u:=.bool true) (qQ (k:=k) (x:=aa[i].asks[k]) (hr.ext (St.cg p)) E) (by rw [show fm aa i aa[i].ring k aa[i].asks[k]=true from O k _ (ak D)]) p fun Y s8 L=>?_;refine cm ?_;refine WC.fX rfl<|eD ?_;refine ez (k+1) ⟨L.drop,⟨by omega,trivial⟩⟩
   simp at o
   refine i7 ?_;refine ez (i+1) ⟨h.drop,⟨by omega,trivial⟩⟩
  simp at g16
  refine(bA) ?_;exact⟨rfl,(St.cg st1)⟩
 -- pG gT C63
theorem zU(ht:lA prog A w) (hn:n≤65535):CR prog 206 #[.string (itoa (n:Int))] w (.int .i64 (n:Int)):=by
 refine enter func206 rfl ntmps206 rfl<|?_;have aQ:=St.s0 w;refine(eV) (Co (n:=n) (by omega) w) aQ fun w1 s1 st1=>?_;refine kU ?_;refine WC.dJ (t:=25) (v:=.bool false) st1 ?_<|?_
 ·
  refine bO ?_;refine WP .r (PV.QU zx rfl)<|nx ?_;refine WL.cq (t:=12) rfl (fun g12=>?_) (fun g12=>?_)
  ·
   refine aW ?_;exact(bZ) (tG g12) (st1)
  refine ck ?_;refine WL.cq (t:=16) rfl (fun g16=>?_) (fun g16=>?_)
  ·
   exact(bZ) (tG (aj g12 g16)) (st1)
  refine ck ?_;refine WL.cq (t:=20) rfl (fun g20=>?_) (fun g20=>?_)
  ·
   exact(bZ) (tG (aj g12<|aj g16 g20)) (st1)
  refine(eV) (me (n:=(n:Int)) (ht.ext (St.cg st1)) (by omega) (by omega)) st1 fun w2 s2 st2=>?_;exact(bZ) (tG (aj g12<|aj g16 g20)) (st2)
 intro w2 st2;refine(aS) (fun b=>?_) fun b=>?_
 ·
  exact dr b
 refine(bA) ?_;exact⟨rfl,(St.cg st2)⟩
theorem zV(ht:lA prog A w) (g:s.size≤1000) (b:∀n:Nat,n≤65535→s≠itoa (n:Int)):CR prog 206 #[.string s] w (.int .i64 0):=by
 refine enter func206 rfl ntmps206 rfl<|?_;have aQ:=St.s0 w;refine(bY) PF (Lg (s:=s) (ht.ext (St.cg aQ)) g) ?_;rintro _ w1 ⟨v,ok,ev,rfl,j,h,s1⟩;have st1:=aQ.step s1;refine kU ?_;refine WC.dJ (t:=25) (v:=.bool true) st1 ?_<|?_
 ·
  refine bO ?_;refine WP .r (PV.VU zx rfl h)<|(de) (fun g12=>?_) (fun g12=>?_)
  ·
   refine aW ?_;exact(bZ) (by first | (simp [g12];done) | (simp at g12 ⊢;intro e;exact b v.toNat (by omega) (by rw [show((v.toNat:Nat):Int)=v by omega];exact e.symm))) (st1)
  refine(de) (fun g16=>?_) (fun g16=>?_)
  ·
   exact(bZ) (by first | (simp [g12,g16];done) | (simp at g12 g16 ⊢;intro e;exact b v.toNat (by omega) (by rw [show((v.toNat:Nat):Int)=v by omega];exact e.symm))) (st1)
  refine(de) (fun g20=>?_) (fun g20=>?_)
  ·
   exact(bZ) (by first | (simp [g12,g16,g20];done) | (simp at g12 g16 g20 ⊢;intro e;exact b v.toNat (by omega) (by rw [show((v.toNat:Nat):Int)=v by omega];exact e.symm))) (st1)
  refine(eV) (me (n:=v) (ht.ext (St.cg st1)) (by omega) (by omega)) st1 fun w2 s2 st2=>?_;exact(bZ) (by first | (simp [g12,g16,g20];done) | (simp at g12 g16 g20 ⊢;intro e;exact b v.toNat (by omega) (by rw [show((v.toNat:Nat):Int)=v by omega];exact e.symm))) (st2)
 intro w2 st2;refine(aS) (fun d=>?_) fun d=>?_
 ·
  refine(bA) ?_;exact⟨rfl,(St.cg st2)⟩
 exact dr d
theorem tm(ht:lA prog A w) (b:s.size≤1000):CR prog 206 #[.string s] w (.int .i64 (cG s:Int)):=by
 by_cases h:∃n:Nat,n≤65535∧s=itoa (n:Int)
 ·
  obtain⟨n,hn,rfl⟩:=h;rw [fi hn];exact zU ht hn
 have h0:∀n:Nat,n≤65535→s≠itoa (n:Int):=fun n hn e=>h ⟨n,hn,e⟩;rw [Hu h0];exact zV ht b h0
theorem wV{kd:Int}{l:List Nat}(hl:Ints A w a r c (l.map fun x:Nat=>(x:Int))) (g:∀x∈l,x≤65535) (hr:r≤1000):CR prog 208 #[.int .i64 kd,.slice a r c] w (.int .i64 (dq kd 0 l:Int)):=by
 have hle:=SR.le hl;have hlen:=SR.len hl;rw [List.length_map] at hlen;have m:∀i,∀x∈l.take i,x≤65535:=fun i x p=>g x (List.mem_of_mem_take p);refine enter func208 rfl ntmps208 rfl<|?_;have aQ:=St.s0 w;refine aW ?_;refine kU ?_;refine WC.bm (σ:=Nat) (dn:=fun i=>[(0,.int .i64 kd),(5,.int .i64 (qa 0 (l.take i):Int)),(6,.int .i64 (sF 0 (l.take i):Int)),(7,.int .i64 (fc 0 (l.take i):Int)),(10,.slice a r c),(11,.int .i64 (r:Int)),(12,.int .i64 (i:Int))]) (F:=fun i=>[]) (I:=fun i=>(i≤r)∧True) (μ:=fun i=>r - i) (0) (aQ) Sub.t (⟨by omega,trivial⟩)<|?_;rintro i w1 st1 ⟨hi,_⟩;simp only [CA,NA] at st1 hi ⊢;refine(aS) (fun g13=>?_) fun g13=>?_
 ·
  simp at g13
  have h:i<l.length:=by omega
  have q:i<(l.map fun x:Nat=>(x:Int)).length:=by simpa using h
  have u:=tP (c:=0) (m i);have v:=na (c:=0) (by omega) (m i);have y:=lH (c:=0) (by omega) (m i);have E:=g l[i] (List.getElem_mem h)
  have G:(l.take i).length≤1000:=by rw [List.length_take];omega
  have e1:=xE (c:=0) h;have e2:=uj (c:=0) h;have e3:=uk (c:=0) h;refine dd ?_;obtain⟨H,J,K,z,_,rfl,o,_⟩:=(SR.ext hl (St.cg st1)).at (ak q);rw [List.getElem_map] at o;refine nx ?_;refine WP .r (PV.dV E7 z rfl rfl (by omega))<|WP .r (PV.mn aO o rfl rfl)<|kU ?_;refine WP .r (PV.Jj rfl rfl)<|bO ?_;refine WP .r (PV.orN rfl rfl (by omega) (by omega))<|i7 ?_;refine ez (i+1) ⟨st1,⟨by omega,trivial⟩⟩
 simp at g13
 have D:l.take i=l:=List.take_of_length_le (by omega);rw [D];have u:=tP (c:=0) g;have v:=na (c:=0) (by omega) g;have y:=lH (c:=0) (by omega) g
 have L:l.length≤1000:=by omega
 refine aW ?_;refine(aS) (fun b=>?_) fun b=>?_
 ·
  simp at b
  refine(bA) ?_;exact⟨by unfold dq;rw [if_pos b,Int.tmod_eq_emod_of_nonneg (by omega)];rfl,(St.cg st1)⟩
 simp at b
 refine(aS) (fun d=>?_) fun d=>?_
 ·
  simp at d
  refine cm ?_;refine WP .r (PV.quo rfl rfl (by omega) (by rw [Int.tdiv_eq_ediv_of_nonneg (by omega)];omega) (by rw [Int.tdiv_eq_ediv_of_nonneg (by omega)];omega))<|(bA) ?_;exact⟨by unfold dq;rw [if_neg b,if_pos d,Int.tdiv_eq_ediv_of_nonneg (by omega),Int.tmod_eq_emod_of_nonneg (by omega)];rfl,(St.cg st1)⟩
 simp at d
 refine(aS) (fun e=>?_) fun e=>?_
 ·
  simp at e
  refine(bA) ?_;exact⟨by unfold dq;rw [if_neg b,if_neg d,if_pos e],(St.cg st1)⟩
 simp at e
 refine(aS) (fun j=>?_) fun j=>?_
 ·
  simp at j
  refine(bA) ?_;exact⟨by unfold dq;rw [if_neg b,if_neg d,if_neg e,if_pos j,Int.tmod_eq_emod_of_nonneg (by omega)];rfl,(St.cg st1)⟩
 simp at j
 refine(bA) ?_;exact⟨by unfold dq;rw [if_neg b,if_neg d,if_neg e,if_neg j],(St.cg st1)⟩
set_option maxHeartbeats 1600000 in
theorem CU(ht:lA prog A w) (X:aq aa) (hi:i<aa.length) (hr:fG B w a r c aa) (hl:Strs C w a2 r2 e2 ae) (hsz:∀s∈ae,s.size≤1000):CR prog 155 #[.slice a r c,(aI aa (i:Int)).val,.slice a2 r2 e2] w ((cy aa (aI aa (i:Int)) ae).val):=by
 have II:=X.len
 have jo:i≤99:=by omega
 have hle:=hr.le;have hlen:=hr.len;have vo:=hl.len;have vx:=hl.le
 obtain⟨kd,hkd,hk⟩:∃kd:Int,(kd=31∨kd=32)∧aI aa (i:Int)=⟨kd,itoa i⟩:=by
  unfold aI
  rw [if_neg (by omega)]
  cases h:aF aa i
  ·
   exact⟨31,.inl rfl,by simp [h]⟩
  exact⟨32,.inr rfl,by simp [h]⟩
 have O:=ct hi jo;obtain⟨afN,afO,aol⟩:=X.2 i _ (ak hi);have hcb:=aq.hb X _ (List.getElem_mem hi);obtain⟨g,Yo⟩:∃g:Nat,aa[i].c=g:=⟨aa[i].c.toNat,by omega⟩;obtain⟨b_x,o_x,r_x,CV,_,⟨q1,b,q3,rfl,Cr⟩,Za,_⟩:=hr.at (ak hi);rw [Yo] at Za;have yo:=Cr.len;rw [hk] at O ⊢;refine enter func155 rfl ntmps155 rfl<|?_;have aQ:=St.s0 w;refine(dz) aQ fun b4 w1 Fh IY st1=>?_;refine(eT) st1 fun b6 w2 Fi KW st2=>?_;refine(aX) ao st2.b1<|(eV) (lx (k:=(⟨kd,itoa i⟩:Key)) ⟨by simp only [];omega,by simp only [];omega⟩ rfl jo) st2 fun w3 s3 Y=>?_;refine dd ?_;refine WC.dJ (t:=30) (v:=.bool false) Y ?_<|?_
 ·
  have U6:=Y.bQ;refine WC.dD (m:=12) (E:=cF [(10,fun v _=>v=(aI aa (i:Int)).val)]) Y (bj (⟨fun _ _ _ _ _ _ _ h=>h,trivial⟩)) mixed (by kernel_rfl)<|cm ?_;refine DW.cq (t:=19) rfl (fun g19=>?_) (fun g19=>?_)
  ·
   refine(cS) ?_;rintro w4 ⟨oz,D⟩ _;exact(bZ) (by first | rfl | (simp [g19,hk];done) | (simp [g19,hk];omega) | (simp only [g19];done) | (simp only [g19];rfl) | (simp [g19];done) | (simp;done) | (simp at g19 ⊢ <;> omega) | (simp <;> omega) | (simp [g19] <;> omega) | (simp at g19 <;> omega)) (D)
  refine(iD) aO St.g1<|cm ?_;refine DW.cq (t:=24) rfl (fun g24=>?_) (fun g24=>?_)
  ·
   refine(cS) ?_;rintro w4 ⟨oz,D⟩ _;exact(bZ) (by first | rfl | (simp [g19,g24,hk];done) | (simp [g19,g24,hk];omega) | (simp only [g19,g24];done) | (simp only [g19,g24];rfl) | (simp [g19,g24];done) | (simp;done) | (simp at g19 g24 ⊢ <;> omega) | (simp <;> omega) | (simp [g19,g24] <;> omega) | (simp at g19 g24 <;> omega)) (D)
  refine bO ?_;refine DW.c0 (fun wx hC hF=>oi (n:=(i:Int)) (hr.ext (St.cg hC.2)))<|(gU) ao St.g1<|(cS)<|?_;rintro w4 ⟨oz,D⟩ ⟨_,_⟩;refine WP .r (PV.LP fS (p:=aI aa (i:Int)) (q:=(⟨kd,itoa i⟩:Key)) rfl rfl)<|?_;exact(bZ) (by first | rfl | (simp [g19,g24,hk];done) | (simp [g19,g24,hk];omega) | (simp only [g19,g24];done) | (simp only [g19,g24];rfl) | (simp [g19,g24];done) | (simp;done) | (simp at g19 g24 ⊢ <;> omega) | (simp <;> omega) | (simp [g19,g24] <;> omega) | (simp at g19 g24 <;> omega)) (D)
 intro w4 D;refine(aS) (fun U4=>?_) fun U4=>?_
 ·
  exact dr U4
 refine fH ?_;refine WP .r (PV.D3 iU (i:=i) CV rfl rfl (by omega) (by omega))<|(aX) qD (a7 Za (St.cg D) (by simp))<|(eT) D fun b8 w5 LZ Yq iY=>?_;refine(cI) Cj iY fun w6 jW ka K=>?_;refine aW ?_;refine(aZ) ku K.b0<|(aS) (fun Im=>?_) fun Im=>?_
 ·
  simp at Im
  have hn:r2<aa[i].asks.length:=by omega
  have z:=i6 (ae:=ae) O hi (by rw [O];exact hk) (show ae.length<aa[i].asks.length by omega);simp only [← vo] at z
  have Tw:r2=0→aa[i].asks[r2].pick=false:=fun h0=>by
   have:=afO r2 _ (ak hn)
   cases hp:aa[i].asks[r2].pick
   ·
    rfl
   unfold fm at this
   rw [hp] at this
   simp [h0] at this
  refine nx ?_;obtain⟨b_y,o_y,r_y,afQ,_,rfl,afR,_⟩:=(Cr.ext (St.cg K)).at (ak hn);refine(aZ) ku K.b0<|nx ?_;refine WP .r (PV.dV wM afQ rfl rfl (by omega))<|(aX) k9 afR<|(eT) K fun K6 w7 FL FM P=>?_;refine(cI) ve P fun w8 ry mu o=>?_;refine(aZ) aO o.b0<|dd ?_;refine WC.dJ (t:=65) (v:=.bool (fl aa[i].asks[r2] ae)) o ?_<|?_
  ·
   refine(aZ) dA o.b0<|nx ?_;refine WL.cq (t:=52) rfl (fun U=>?_) (fun U=>?_)
   ·
    refine ck ?_;refine WL.cq (t:=56) rfl (fun Iw=>?_) (fun Iw=>?_)
    ·
     simp at Iw
     obtain⟨b_z,o_z,r_z,afS,_,rfl,afT,_⟩:=(hl.ext (St.cg o)).at (ak (show r2 - 1<ae.length by omega))
     have AV:fl aa[i].asks[r2] ae=decide ((cG ae[r2 - 1]:Int).tmod 2=0):=by
      unfold fl
      simp only [U,← vo,Bool.true_and];rw [decide_eq_false (by omega),Bool.false_or,getElem!_pos ae (r2 - 1) (by omega),Int.tmod_eq_emod_of_nonneg (by omega)]
      congr 1
      exact propext ⟨fun h=>by omega,fun h=>by omega⟩
     refine cm ?_;refine WP .r (PV.D3 oL (i:=r2 - 1) afS rfl rfl (by omega) (by omega))<|WP .r (PV.mn e7 afT rfl rfl)<|(eV) (tm (s:=ae[r2 - 1]) (ht.ext (St.cg o)) (hsz _ (List.getElem_mem _))) o fun w9 s9 d=>?_;exact(bZ) (by rw [AV]) (d)
    exact absurd (Tw (by simp at Iw;omega)) (by simp [U])
   have AV:fl aa[i].asks[r2] ae=false:=by unfold fl;rw [U];rfl
   refine aW ?_;exact(bZ) (by rw [AV]) (o)
  intro w9 d;refine(aS) (fun KU=>?_) fun KU=>?_
  ·
   have Q:o8 aa[i].asks[r2] ae=aa[i].asks[r2].D4:=by unfold o8;rw [if_pos KU]
   refine(aZ) aO d.b0<|(aZ) dA d.b0<|(aS) (fun J=>?_) fun J=>?_
   ·
    rw [Q,if_pos J] at z;refine(eV) (tk) d fun S V y=>?_;refine WP .r (PV.bC (us:=[.bool false,.string ⟨#[]⟩,.int .i64 (bX _).kind,.string (bX _).text]) mB rfl rfl rfl)<|(cI) gB y.p2 fun T zH tR e=>?_;refine(kV) iN e.b0<|?_;rw [z];exact⟨rfl,(St.cg e)⟩
   rw [Q,if_neg (by simp [J])] at z;refine(eV) (oi (hr.ext (St.cg d))) d fun S V y=>?_;refine WP .r (PV.bC (us:=[.bool false,.string ⟨#[]⟩,.int .i64 (aI aa _).kind,.string (aI aa _).text]) mB rfl rfl rfl)<|(cI) gB y.p2 fun T L7 L8 e=>?_;refine(kV) iN e.b0<|?_;rw [z];exact⟨rfl,(St.cg e)⟩
  have Q:o8 aa[i].asks[r2] ae=aa[i].asks[r2].n:=by unfold o8;rw [if_neg (by simp [KU])]
  refine(aZ) dA d.b0<|(aS) (fun J=>?_) fun J=>?_
  ·
   rw [Q,if_pos J] at z;refine(eV) (tk) d fun S V y=>?_;refine WP .r (PV.bC (us:=[.bool false,.string ⟨#[]⟩,.int .i64 (bX _).kind,.string (bX _).text]) mB rfl rfl rfl)<|(cI) gB y.p2 fun T Mg Ed e=>?_;refine(kV) iN e.b0<|?_;rw [z];exact⟨rfl,(St.cg e)⟩
  rw [Q,if_neg (by simp [J])] at z;refine(eV) (oi (hr.ext (St.cg d))) d fun S V y=>?_;refine WP .r (PV.bC (us:=[.bool false,.string ⟨#[]⟩,.int .i64 (aI aa _).kind,.string (aI aa _).text]) mB rfl rfl rfl)<|(cI) gB y.p2 fun T PZ P0 e=>?_;refine(kV) iN e.b0<|?_;rw [z];exact⟨rfl,(St.cg e)⟩
 simp at Im
 have z:=j6 (ae:=ae) O hi (by rw [O];exact hk) (show aa[i].asks.length≤ae.length by omega);rw [← yo,Yo,Int.toNat_natCast] at z
 have Om:∀x∈(ae.take b).map cG,x≤65535:=fun x G=>by obtain⟨s,_,rfl⟩:=List.mem_map.1 G;exact kK s
 have QK:=n0 (kind:=aa[i].final) (c:=g) (l:=(ae.take b).map cG) (by omega) Om
 have hll:((ae.take b).map cG).length=b:=by rw [List.length_map,List.length_take];omega
 refine(aZ) aO K.b0<|?_;refine WL.go rfl (OX.aP (us:=[.int .i64 (g:Int)]) Kp rfl rfl rfl rfl fun b79 w7 Zc afU=>?_);have P:=St.qe (R:=RR.int) (E:=3) (k:=1) (a:=some ⟨b79,0,none⟩) (n:=1) (c:=1) (xs:=[(g:Int)]) K Zc.ext (OR.dc afU (Nat.zero_le _) rfl (by simp [Value.oneCell']) rfl) (fun x G=>by simp [aJ] at G;subst G;exact Zc.ge);refine(aZ) ku P.b1<|nx ?_;refine WP .r (PV.mX oL (hl.ext (St.cg P)) rfl rfl (by omega))<|dd ?_;refine WC.bm (σ:=Nat × (Option Addr) × Nat × Nat) (dn:=fun(j,L,H,N)=>[(6,.pointer (some ⟨b6,0,none⟩)),(8,.pointer (some ⟨b8,0,none⟩)),(12,.slice L H N),(84,.slice a2 b e2),(85,.int .i64 (b:Int)),(86,.int .i64 (j:Int))]) (F:=fun(j,L,H,N)=>[As.os RR.int 3 1 L H N ((((g::((ae.take b).map cG).take j)).map fun x:Nat=>(x:Int)))]) (I:=fun(j,L,H,N)=>(j≤b)∧True) (μ:=fun(j,L,H,N)=>b - j) (0,(some ⟨b79,0,none⟩),1,1) (P) Sub.t (⟨by omega,trivial⟩)<|?_;rintro⟨j,L,H,N⟩ w8 o ⟨hj,_⟩;simp only [CA,NA] at o hj ⊢;have ru:=((As.gs o.g0)).len
 have Fy:H≤1+j:=by have h0:=ru;simp at h0;omega
 refine(aS) (fun FU=>?_) fun FU=>?_
 ·
  simp at FU
  have FJ:j<ae.length:=by omega
  obtain⟨b_u,o_u,r_u,afV,_,rfl,afW,_⟩:=(hl.ext (St.cg o)).at (ak FJ);refine fH ?_;refine WP .r (PV.dV oL afV rfl rfl (by omega))<|WP .r (PV.mn e7 afW rfl rfl)<|(eV) (tm (s:=ae[j]) (ht.ext (St.cg o)) (hsz _ (List.getElem_mem _))) o fun w9 s9 d=>?_;refine WL.go rfl (OX.aP (us:=[.int .i64 (cG ae[j]:Int)]) Kp rfl rfl rfl rfl fun Zd S Tx Ty=>?_);have y:=d.cZ Tx Ty;refine WL.ap rfl rfl y.p1 (SR.dc (A:=fun _=>True) (x:=((cG ae[j]:Nat):Int)) (As.gb y.g0) trivial rfl (by simp [Value.oneCell']) rfl) fun a94 afX T aoo aop e=>?_;refine bO ?_;have W:=e.VE (show(((((g::((ae.take b).map cG).take j)).map fun x:Nat=>(x:Int)))++[((cG ae[j]:Nat):Int)])=(((g::((ae.take b).map cG).take (j+1))).map fun x:Nat=>(x:Int)) by rw [List.take_succ_eq_append_getElem (by omega),← List.cons_append,List.map_append,List.getElem_map,List.getElem_take];rfl);refine fH ?_;refine ez (j+1,a94,(H+1),afX) ⟨W.p1.drop,⟨by omega,trivial⟩⟩
 simp at FU
 have hje:((ae.take b).map cG).take j=(ae.take b).map cG:=List.take_of_length_le (by omega);have d:=o.VE (show(((g::((ae.take b).map cG).take j)).map fun x:Nat=>(x:Int))=(((g::(ae.take b).map cG)).map fun x:Nat=>(x:Int)) by rw [hje]);refine(aZ) aO d.b1<|nx ?_;refine WL.c1 (u:=.int .i64 ((dq aa[i].final g ((ae.take b).map cG)):Int)) (wV (kd:=aa[i].final) (l:=g::(ae.take b).map cG) (Ow.rd (As.gs d.g0) (by simp;omega)) (fun x G=>by rcases List.mem_cons.1 G with rfl | G;omega;exact Om x G) (by omega)) (by rw [BF]) d fun w9 s9 y=>?_;refine(eV) (me (n:=((dq aa[i].final g ((ae.take b).map cG)):Int)) (ht.ext (St.cg y)) (by omega) (by omega)) y fun S V e=>?_;refine WP .r (PV.bC (us:=[.bool true,.string (itoa ((dq aa[i].final g ((ae.take b).map cG)):Int)),.int .i64 0,.string ⟨#[]⟩]) mB rfl rfl rfl)<|(cI) gB e.p2 fun T Ta Tb W=>?_;refine(kV) iN W.b0<|?_;rw [z];exact⟨rfl,(St.cg W)⟩
theorem ly(ht:lA prog A w) (d:aq aa) (hi:i<aa.length) (hr:fG B w a r c aa) (hl:Strs C w a2 r2 e2 ae) (hsz:∀s∈ae,s.size≤1000):CR prog 119 #[.slice a r c,(aI aa (i:Int)).val,.slice a2 r2 e2] w ((cy aa (aI aa (i:Int)) ae).val):=by
 have j:=d.len;have g:=eH hi (by omega);refine enter func119 rfl ntmps119 rfl<|?_;have aQ:=St.s0 w;refine(dz) aQ fun b4 w1 m o st1=>?_;refine(eT) st1 fun p w2 q t st2=>?_;refine(aX) ao st2.b1<|?_;refine WL.c1 (u:=.bool true) (nM (k:=aI aa (i:Int))) (by rw [show(decide ((aI aa (i:Int)).kind=31) || decide ((aI aa (i:Int)).kind=32))=true by(rw [g];split <;> simp)]) st2 fun w3 v b=>?_;refine cm ?_;refine WC.oD rfl<|(aX) ao b.b1<|(eV) (CU (ht.ext (St.cg b)) d hi (hr.ext (St.cg b)) (hl.ext (St.cg b)) hsz) b fun w4 y h=>?_;refine(cI) gB h fun w5 z D e=>?_;refine(kV) iN e.b0<|?_;exact⟨rfl,(St.cg e)⟩
theorem qR(hk:k.kind=32):CR prog 281 #[k.val] w (.string ⟨#[48]⟩):=by
 refine enter func281 rfl ntmps281 rfl<|?_;have aQ:=St.s0 w;refine(dz) aQ fun b1 w1 b d st1=>?_;refine(aZ) aO st1.b0<|(aS) (fun g3=>?_) fun g3=>?_
 ·
  skip
  refine(bA) ?_;exact⟨rfl,(St.cg st1)⟩
 exact absurd g3 (by simp [hk])
theorem wW(hi:i<aa.length) (jo:i≤99) (hr:fG B w a r c aa):CR prog 66 #[.slice a r c,(aI aa (i:Int)).val] w (.bool true):=by
 have g:=eH hi jo
 have j:(aI aa (i:Int)).text=itoa i:=by unfold aI;rw [if_neg (by omega)]
 have o:30≤(aI aa (i:Int)).kind∧(aI aa (i:Int)).kind≤32:=by rw [g];split <;> omega
 refine enter func66 rfl ntmps66 rfl<|?_;have aQ:=St.s0 w;refine(dz) aQ fun b3 w1 t y st1=>?_;refine ck ?_;have z:=st1.bQ;refine WC.dD (m:=12) (E:=cF [(1,fun v _=>v=.bool true),(4,fun v _=>v=.bool true),(9,fun v _=>v=.int .i64 (i:Int)),(10,fun v _=>v=(aI aa (i:Int)).val)]) st1 (bj (⟨fun _ _ _ _ _ _ _ h=>h,⟨fun _ _ _ _ _ _ _ h=>h,⟨fun _ _ _ _ _ _ _ h=>h,⟨fun _ _ _ _ _ _ _ h=>h,trivial⟩⟩⟩⟩)) mixed (by kernel_rfl)<|(gU) ao St.g0<|?_;refine DW.c0 (fun d b e=>hY (k:=aI aa (i:Int)) o j jo)<|(gU) ao St.g0<|?_;refine DW.c1 (u:=.bool true) (fun d b e=>nM (k:=aI aa (i:Int))) (by rw [show(decide ((aI aa (i:Int)).kind=31) || decide ((aI aa (i:Int)).kind=32))=true by(rw [g];split <;> simp)])<|(gU) ao St.g0<|?_;refine DW.c0 (fun d b e=>lx (k:=aI aa (i:Int)) o j jo)<|?_;refine DW.c0 (fun d b e=>oi (n:=(i:Int)) (hr.ext (St.cg b.2)))<|(gU) ao St.g0<|(cS)<|?_;rintro w2 ⟨D,st2⟩ ⟨_,⟨_,⟨_,⟨_,_⟩⟩⟩⟩;refine WP .r (PV.Gl fS (p:=aI aa (i:Int)) (q:=aI aa (i:Int)) rfl rfl)<|(bA) ?_;exact⟨by simp,(St.cg st2)⟩
set_option maxHeartbeats 400000
theorem js{xs:List Key}(m:St w M Z w []) (hl:Rd RR.key 2 Z w a n c xs) (q:xs.length≤1000000):Calls prog 78 #[.slice a n c] w fun e w'=>∃d g h,e=.returned (.slice d g h)∧St w M Z w' [As.os RR.key 41 2 d g h xs]:=by
 have hlen:=hl.len;refine enter func78 rfl ntmps78 rfl<|?_;have aQ:=m;have st1:=aQ.fr hl;refine(aS) (fun g4=>?_) fun g4=>?_
 ·
  simp at g4
  subst g4;have b:=hl.uu;subst b;have st2:=st1.dp RR.key 41 2;refine(bA) ?_;exact⟨none,0,0,rfl,st2.p1.drop⟩
 refine ck ?_;refine WL.go rfl (OX.yO Pq adi rfl fun b5 w1 j o=>?_);have st2:=St.qe (R:=RR.key) (E:=41) (k:=2) (a:=some ⟨b5,0,none⟩) (n:=0) (c:=0) (xs:=[]) st1 j.ext (OR.QV o (Nat.zero_le _)) (fun x b=>by simp [aJ] at b;subst b;exact j.ge);refine nx ?_;refine WL.ap rfl rfl st2 ((As.gr st2.g1)) fun t u w2 v y p=>?_;refine(bA) ?_;exact⟨_,_,_,rfl,p.p1.drop⟩
theorem wX{xs:List Rec}(m:St w M Z w []) (hl:Rd RR.ew 8 Z w a n c xs) (q:xs.length≤1000000):Calls prog 114 #[.slice a n c] w fun e w'=>∃d g h,e=.returned (.slice d g h)∧St w M Z w' [As.os RR.ew 47 8 d g h xs]:=by
 have hlen:=hl.len;refine enter func114 rfl ntmps114 rfl<|?_;have aQ:=m;have st1:=aQ.fr hl;refine(aS) (fun g4=>?_) fun g4=>?_
 ·
  simp at g4
  subst g4;have b:=hl.uu;subst b;have st2:=st1.dp RR.ew 47 8;refine(bA) ?_;exact⟨none,0,0,rfl,st2.p1.drop⟩
 refine ck ?_;refine WL.go rfl (OX.yO Pp adj rfl fun b5 w1 j o=>?_);have st2:=St.qe (R:=RR.ew) (E:=47) (k:=8) (a:=some ⟨b5,0,none⟩) (n:=0) (c:=0) (xs:=[]) st1 j.ext (OR.QV o (Nat.zero_le _)) (fun x b=>by simp [aJ] at b;subst b;exact j.ge);refine nx ?_;refine WL.ap rfl rfl st2 ((As.gr st2.g1)) fun t u w2 v y p=>?_;refine(bA) ?_;exact⟨_,_,_,rfl,p.p1.drop⟩
theorem oR{xs:List cB}(m:St w M Z w []) (hl:Rd RR.aD 4 Z w a n c xs) (q:xs.length≤1000000):Calls prog 67 #[.slice a n c] w fun e w'=>∃d g h,e=.returned (.slice d g h)∧St w M Z w' [As.os RR.aD 88 4 d g h xs]:=by
 have hlen:=hl.len;refine enter func67 rfl ntmps67 rfl<|?_;have aQ:=m;have st1:=aQ.fr hl;refine(aS) (fun g4=>?_) fun g4=>?_
 ·
  simp at g4
  subst g4;have b:=hl.uu;subst b;have st2:=st1.dp RR.aD 88 4;refine(bA) ?_;exact⟨none,0,0,rfl,st2.p1.drop⟩
 refine ck ?_;refine WL.go rfl (OX.yO Po adk rfl fun b5 w1 j o=>?_);have st2:=St.qe (R:=RR.aD) (E:=88) (k:=4) (a:=some ⟨b5,0,none⟩) (n:=0) (c:=0) (xs:=[]) st1 j.ext (OR.QV o (Nat.zero_le _)) (fun x b=>by simp [aJ] at b;subst b;exact j.ge);refine nx ?_;refine WL.ap rfl rfl st2 ((As.gr st2.g1)) fun t u w2 v y p=>?_;refine(bA) ?_;exact⟨_,_,_,rfl,p.p1.drop⟩
theorem pL(p:St w M Z w []) (hk:Rd RR.key 2 Z w a n c x.reads) (u:x.reads.length≤4000):Calls prog 74 #[.agg (x.row a n c).toArray] w fun e w'=>∃d g h,e=.returned (.agg (x.row d g h).toArray)∧St w M Z w' [As.os RR.key 41 2 d g h x.reads]:=by
 refine enter func74 rfl ntmps74 rfl<|?_;have aQ:=p;have st1:=aQ.fr hk;refine(dz) st1 fun b1 w1 v y st2=>?_;refine(eT) st2 fun b2 w2 z D j=>?_;refine(aZ) dK j.b1<|?_;have b:=j;refine(bY) KF (js b.e0 (As.gr b.g2) (by omega)) ?_;rintro _ w3 ⟨f1,f2,f3,rfl,q⟩;have t:=St.lr b q;refine nx ?_;refine WL.s1 t.p2 fun w4 _ m=>?_;refine(aX) dh m.b0<|(cI) fI m.p2 fun w5 E F o=>?_;refine(kV) dh o.b0<|?_;exact⟨_,_,_,rfl,o.p2.k1⟩
theorem oS{p:Rec→Bool}(g:CF prog f) (hl:Rd RR.ew 8 Z w a n c l) (m:∀w1,aU [] w w1→∀x∈l,∀a n c,Rd RR.key 2 Z w1 a n c x.reads→Calls prog f #[.agg (x.row a n c).toArray,cap] w1 fun e w'=>e=.returned (.bool (p x))∧aU [] w1 w'):Calls prog 85 #[.slice a n c,.func (.func f) #[] #[cap]] w fun e w'=>∃j:Int,e=.returned (.int .i64 j)∧uJ l p j∧aU [] w w':=by
 have hlen:=hl.len;have hle:=hl.le;refine enter func85 rfl ntmps85 rfl<|?_;have aQ:=St.s0 w;refine aW ?_;refine bO ?_;refine WC.bm (σ:=Nat) (dn:=fun i=>[(0,.slice a n c),(1,.func (.func f) #[] #[cap]),(7,.int .i64 (n:Int)),(8,.int .i64 (i:Int))]) (F:=fun i=>[]) (I:=fun i=>(i≤n)∧(∀j x,j<i→l[j]?=some x→p x=false)∧True) (μ:=fun i=>n - i) (0) (aQ) Sub.t (⟨by omega,fun j x h=>by omega,trivial⟩)<|?_;rintro i w1 st1 ⟨hi,b,_⟩;simp only [CA,NA] at st1 hi b ⊢;refine(aS) (fun g9=>?_) fun g9=>?_
 ·
  simp at g9
  have d:i<l.length:=by omega
  refine kg ?_;obtain⟨E,G,H,o,J,q,u,K⟩:=Rd.at hl d;obtain⟨q1,L,N,rfl,v,O⟩:=q;refine ck ?_;refine WP .r (PV.dV iV o rfl rfl (by omega))<|(aX) dh (a7 u (St.cg st1) (by simp))<|?_;refine WL.go rfl (OX.mY g rfl rfl rfl ((Calls.cap (m _ (St.cg st1) l[i] (List.getElem_mem d) _ _ _ (v.ext (St.cg st1)))).mono ?_));rintro _ w2 ⟨rfl,s2⟩;refine⟨_,rfl,?_⟩;have st2:=st1.step s2;refine(aS) (fun g16=>?_) fun g16=>?_
  ·
   refine(bA) ?_;exact⟨_,rfl,.inl ⟨i,_,ak d,g16,b,rfl⟩,(St.cg st2)⟩
  have g16:p l[i]=false:=by simpa using g16
  refine eD ?_;refine ez (i+1) ⟨st2,⟨by omega,cJ d b (by simpa using g16),trivial⟩⟩
 simp at g9
 have y:∀x∈l,p x=false:=fun x z=>by obtain⟨j,D,rfl⟩:=List.getElem_of_mem z;exact b j _ (by omega) (ak D)
 refine(bA) ?_;exact⟨_,rfl,.inr ⟨y,rfl⟩,(St.cg st1)⟩
theorem sj{p:Rec→Bool}(d:CF prog f) (hl:Rd RR.ew 8 Z w a n c l) (g:∀w1,aU [] w w1→∀x∈l,∀a n c,Rd RR.key 2 Z w1 a n c x.reads→Calls prog f #[.agg (x.row a n c).toArray,cap] w1 fun e w'=>e=.returned (.bool (p x))∧aU [] w1 w') (h:∀x∈l,p x=false):CR prog 107 #[.slice a n c,.func (.func f) #[] #[cap]] w (.bool false):=by
 refine enter func107 rfl ntmps107 rfl<|?_;have aQ:=St.s0 w;refine(bY) W9 (oS (w:=w) d (hl.ext (St.cg aQ)) (fun w1 h1=>g w1 (aU.trans (St.cg aQ) h1))) ?_;rintro _ w1 ⟨j,rfl,m,s1⟩;have st1:=aQ.step s1
 have o:j = -1:=by rcases m with⟨i,x,h1,b,_⟩ | ⟨_,b⟩;exact absurd b (by simp [h x (List.mem_of_getElem? h1)]);exact b
 subst o;refine(bA) ?_;exact⟨by simp,(St.cg st1)⟩
theorem wY{l:List Key}(hl:Rd RR.key 2 Z w a n c l):Calls prog 214 #[.slice a n c,k.val] w fun e w'=>((k∈l∧∃i:Nat,e=.returned (.int .i64 (i:Int)))∨(k∉l∧e=.returned (.int .i64 (-1))))∧aU [] w w':=by
 have hlen:=hl.len;have hle:=hl.le;refine enter func214 rfl ntmps214 rfl<|?_;have aQ:=St.s0 w;refine(dz) aQ fun b3 w1 E G st1=>?_;refine aW ?_;refine WC.bm (σ:=Nat) (dn:=fun i=>[(0,.slice a n c),(3,.pointer (some ⟨b3,0,none⟩)),(7,.int .i64 (n:Int)),(8,.int .i64 (i:Int))]) (F:=fun i=>[]) (I:=fun i=>(i≤n)∧(∀j x,j<i→l[j]?=some x→x≠k)∧True) (μ:=fun i=>n - i) (0) (st1) Sub.t (⟨by omega,fun j x h=>by omega,trivial⟩)<|?_;rintro i w2 st2 ⟨hi,b,_⟩;simp only [CA,NA] at st2 hi b ⊢;refine(aS) (fun g9=>?_) fun g9=>?_
 ·
  simp at g9
  have d:i<l.length:=by omega
  refine kg ?_;obtain⟨H,J,K,v,L,g,y,N⟩:=Rd.at hl d;have g:=RR.ba g;subst g;have O:=st2.bQ;refine WC.dS (m:=5) st2 mixed<|(gU) ao St.g0<|bO ?_;refine DP .r (fun _ o=>PV.dV ey v rfl rfl (by omega))<|DP .r (fun _ o=>VA ao (a7 y (St.cg o.2) (by simp)) .r)<|(cS)<|?_;rintro w3 ⟨P,u⟩ _;refine WP .r (PV.Gl fS (p:=k) (q:=l[i]) rfl rfl)<|(aS) (fun g16=>?_) fun g16=>?_
  ·
   simp at g16
   refine(bA) ?_;exact⟨.inl ⟨g16 ▸ List.getElem_mem d,i,rfl⟩,(St.cg u)⟩
  simp at g16
  refine eD ?_;refine ez (i+1) ⟨u,⟨by omega,cJ d b (fun e=>g16 e.symm),trivial⟩⟩
 simp at g9
 have z:k∉l:=fun hm=>by obtain⟨j,D,h⟩:=List.getElem_of_mem hm;exact b j _ (by omega) (ak D) h
 refine(bA) ?_;exact⟨.inr ⟨z,rfl⟩,(St.cg st2)⟩
theorem sk{l:List Key}(hl:Rd RR.key 2 Z w a n c l):CR prog 161 #[.slice a n c,k.val] w (.bool (decide (k∈l))):=by
 refine enter func161 rfl ntmps161 rfl<|?_;have aQ:=St.s0 w;refine(dz) aQ fun b3 w1 m o st1=>?_;refine(aX) ao st1.b0<|(bY) Yf ((wY (k:=k) (w:=w1) (hl.ext (St.cg st1))).mono (fun e d h=>show ∃j:Int,e=.returned (.int .i64 j)∧decide (0≤j)=decide (k∈l)∧aU [] w1 d from by rcases h.1 with⟨h1,i,b⟩ | ⟨h1,b⟩;exact⟨i,b,by simp [h1],h.2⟩;exact⟨-1,b,by simp [h1],h.2⟩)) ?_;rintro _ w2 ⟨j,rfl,g,s2⟩;have st2:=st1.step s2;refine(bA) ?_;exact⟨by rw [g],(St.cg st2)⟩
theorem zW{bk:Nat}(hb:bR w bk 41 k.cells):CR prog 86 #[.agg (x.row a n c).toArray,.pointer (some ⟨bk,0,none⟩)] w (.bool (decide (x.key=k))):=by
 refine enter func86 rfl ntmps86 rfl<|?_;have aQ:=St.s0 w;refine(dz) aQ fun b2 w1 b d st1=>?_;refine(ia) ao st1.b0<|(aX) ao (bR.range (hb.ext (St.cg st1)))<|?_;refine WP .r (PV.Gl fS (p:=x.key) (q:=k) rfl rfl)<|(bA) ?_;exact⟨rfl,(St.cg st1)⟩
theorem zX(H:St w M Z w []) (hl:Rd RR.ew 8 Z w a n c l):Calls prog 44 #[.slice a n c,k.val] w fun e w'=>∃y z D,e=.returned (.tuple #[.agg ((aC l k).row y z D).toArray,.bool (aB l k).isSome])∧(aC l k).reads.length≤4000∧St w M Z w' [As.os RR.key 41 2 y z D (aC l k).reads]:=by
 have hlen:=hl.len;have hle:=hl.le;refine enter func44 rfl ntmps44 rfl<|?_;have aQ:=H;have st1:=aQ.fr hl;refine(dz) st1 fun b3 w1 X Y st2=>?_;refine(eT) st2 fun b4 w2 Fh IY q=>?_;refine fH ?_;refine WP .r (PV.func (us:=[]) (vs:=[.pointer (some ⟨b3,0,none⟩)]) rfl rfl)<|(bY) W9 (oS (p:=fun x=>decide (x.key=k)) aeb (As.gr q.g2) (fun w1 h1 x _ a n c _=>zW ((As.gb q.g1).ext h1))) ?_;rintro _ w3 ⟨j,rfl,o,I⟩;have t:=q.step I;refine(aS) (fun g11=>?_) fun g11=>?_
 ·
  simp at g11
  have J:∀x∈l,(decide (x.key=k))=false:=by rcases o with⟨i,x,_,_,_,h⟩ | ⟨h,_⟩;omega;exact h
  have d:aB l k=none:=nc (i:=l.length) (Nat.le_refl _) (fun j x _ g=>by simpa using J x (List.mem_of_getElem? g))
  have b:aC l k=nb:=by unfold aC;rw [d];rfl
  have u:=t.dp RR.key 41 2;refine(cI) fI u.p1 fun w4 jW ka m=>?_;refine dd ?_;refine EX.et rfl (RS.cell dh rfl m.b0 rfl<|RS.tmp rfl<|RS.nil) rfl<|?_;exact⟨none,0,0,by rw [d,b];rfl,by rw [b];simp [nb],by rw [b];exact m.p1.k1⟩
 simp at g11
 obtain⟨i,x,g,K,L,rfl⟩:∃i:Nat,∃x,l[i]?=some x∧decide (x.key=k)=true∧(∀j x,j<i→l[j]?=some x→(x.key == k)=false)∧j=i:=by
  rcases o with⟨i,x,h1,N,O,P⟩ | ⟨_,h⟩
  ·
   exact⟨i,x,h1,N,fun j x o g=>by simpa using O j x o g,P⟩
  omega
 obtain⟨E,rfl⟩:=List.getElem?_eq_some_iff.1 g;have d:aB l k=some l[i]:=jv E L (by simpa using K)
 have b:aC l k=l[i]:=by unfold aC;rw [d];rfl
 refine cm ?_;obtain⟨gJ,kF,jV,Q,gI,R,S,T⟩:=Rd.at (As.gr t.g2) E;obtain⟨q1,q2,q3,rfl,U,F⟩:=R;have u:=t.fg T S;have m:=u.fr U;refine cm ?_;refine WP .r (PV.dV iV Q rfl rfl (by omega))<|(aX) dh (As.kT m.g1)<|?_;have v:=m;refine(bY) Sr (pL v.e0 (As.gr v.g0) F) ?_;rintro _ w4 ⟨e1,e2,e3,rfl,V⟩;have W:=St.lr v V;refine(cI) fI W.p3 fun w5 ry mu G=>?_;refine ck ?_;refine EX.et rfl (RS.cell dh rfl G.b0 rfl<|RS.tmp rfl<|RS.nil) rfl<|?_;exact⟨e1,e2,e3,by rw [d,b];rfl,by rw [b];exact F,by rw [b];exact G.p1.k1⟩
theorem zY(G:St w M Z w []) (hl:Rd RR.ew 8 Z w a n c l) (H:l.length≤1000000):Calls prog 68 #[.slice a n c] w fun e w'=>∃q u v Z',e=.returned (.slice q u v)∧bJ w.heap.size Z Z'∧St w M Z' w' [As.os RR.ew 47 8 q u v l]:=by
 have hlen:=hl.len;have hle:=hl.le;refine enter func68 rfl ntmps68 rfl<|?_;have aQ:=G;have st1:=aQ.fr hl;refine gK ?_;have st2:=st1;refine(bY) Xp (wX st2.e0 (As.gr st2.g0) H) ?_;rintro _ w1 ⟨f1,f2,f3,rfl,J⟩;have y:=St.lr st2 J;have X:=((As.gs y.g0)).len;refine aW ?_;refine WC.gY (σ:=Nat × (Nat→Prop)) (dn:=fun(i,b)=>[(3,.slice f1 f2 f3),(8,.slice f1 f2 f3),(9,.int .i64 (f2:Int)),(10,.int .i64 (i:Int))]) (F:=fun(i,b)=>[As.os RR.ew 47 8 f1 f2 f3 l]) (I:=fun(i,b)=>(i≤f2)∧(bJ w.heap.size Z b)∧True) (μ:=fun(i,b)=>f2 - i) (Zf:=fun(i,b)=>b) (0,Z) (y) Sub.t (⟨by omega,bJ.refl _ _,trivial⟩)<|?_;rintro⟨i,b⟩ w2 d ⟨hi,j,_⟩;simp only [CA,NA] at d hi j ⊢;refine(aS) (fun g11=>?_) fun g11=>?_
 ·
  simp at g11
  have m:i<l.length:=by omega
  refine dd ?_;obtain⟨Y,jV,o,gI,K,L⟩:=Ow.at (As.gs d.g0) (by omega) (ak m);obtain⟨q1,q2,q3,rfl,N,z⟩:=K;have O:=d.fr (N);refine bO ?_;refine WP .r (PV.dV iV o rfl rfl (by omega))<|(aX) dh L<|(eT) O fun b5 w3 H9 Ia P=>?_;refine(cI) fI P fun w4 jW ka D=>?_;refine(aX) dh D.b0<|?_;have g:=D;refine(bY) Sr (pL g.e0 (As.gr g.g1) z) ?_;rintro _ w5 ⟨e1,e2,e3,rfl,E⟩;have Q:=St.lr g E;have R:=St.bN E;have hsz:=g.size;have p:=Q.a8 (by omega);have S:=j.trans (bJ.dC (F:=fun x=>x∈aJ e1) R) hsz;refine WP .r (PV.dV iV o rfl rfl (by omega))<|?_;refine WL.go rfl (OX.VF (i:=i) fI (As.gs p.g3) o m rfl rfl rfl (Rec.one _ _ _ _) l[i] ⟨e1,e2,e3,rfl,(As.gr p.g0),z⟩ fun w6 T U=>?_);have V:=p.p3.eU T U (fun x h=>.inl h);have W:=V.VE (List.set_getElem_self m);refine eD ?_;refine ez (i+1,_) ⟨W.p4.p1.k2,⟨by omega,S,trivial⟩⟩
 refine(bA) ?_;exact⟨_,_,_,_,rfl,j,d.p1.drop⟩
theorem vO{x:cz}(G:St w M Z w []) (hi:Rd RR.aD 4 Z w a1 n1 e1 x.ab) (hr:Rd RR.ew 8 Z w a2 n2 e2 x.ah) (H:x.ah.length≤1000000) (I:x.ab.length≤1000000):Calls prog 31 #[.agg (x.row a1 n1 e1 a2 n2 e2).toArray] w fun e w'=>∃g h j o p q Z',e=.returned (.agg (x.row g h j o p q).toArray)∧bJ w.heap.size Z Z'∧St w M Z' w' [As.os RR.aD 88 4 g h j x.ab,As.os RR.ew 47 8 o p q x.ah]:=by
 refine enter func31 rfl ntmps31 rfl<|?_;have aQ:=G;have st1:=aQ.fr hi;have st2:=st1.fr hr;refine(dz) st2 fun b1 w1 Q R J=>?_;refine(eT) J fun b2 w2 S T K=>?_;refine cm ?_;refine WC.bM (m:=7) [] [2,5] [0,1,2,3,4,5,6] [] K (ai.k4 M0 M1 M2 M3<|ai.nil) mixed (by kernel_rfl) (by kernel_rfl) rfl<|(oo) kO SV.g1<|(fL) (fun w3 U V t W=>?_);simp only [CA,NA] at t;have d:=t;refine OX.call W5 rfl rfl ((oR d.e0 (As.gr d.g3) I).mono ?_);rintro _ w4 ⟨f1,f2,f3,rfl,u⟩;have L:=St.lr d u;refine⟨_,rfl,u.bW.size,_,rfl,_,_,_,L,aw.k4<|aw.cons<|aw.nil,ai.k4 M1 M2 M3 M4<|ai.nil,?_⟩;refine(oo) dF SV.g1<|(fL) (fun w5 X Y v jM=>?_);simp only [CA,NA] at v;have b:=v;refine OX.call ad3 rfl rfl ((zY b.e0 (As.gr b.g3) H).mono ?_);rintro _ w6 ⟨f4,f5,f6,Z1,rfl,y,z⟩;have N:=St.lv b z y;have O:=y.le b.size;refine⟨_,rfl,z.bW.size,_,rfl,_,_,_,N,aw.k4<|aw.k2<|aw.nil,ai.k4 M2 M3 M4 M5<|ai.nil,?_⟩;refine(jm) ?_;intro w7 sf D;simp only [CM,NM,CA,NA,hK.it] at D;refine WL.s1 D.p3 fun w8 _ P=>?_;refine nx ?_;refine WL.s1 P fun w9 _ E=>?_;refine WL.nil (EX.np ?_);refine(aX) aN E.b0<|(cI) dP E.p3 fun iP jW ka F=>?_;refine(kV) aN F.b0<|?_;exact⟨_,_,_,_,_,_,_,rfl,O,F.p2.p3.k2⟩
theorem sn{r:Rec}{x:cz}{b:Nat}(hb:bR w b 31 (x.row a1 n1 e1 a2 n2 e2)):CR prog 108 #[.agg (r.row a n c).toArray,.pointer (some ⟨b,0,none⟩)] w (.bool (decide (x.ad<r.av))):=by
 refine enter func108 rfl ntmps108 rfl<|?_;have aQ:=St.s0 w;refine(dz) aQ fun b2 w1 d e st1=>?_;refine(aZ) aO st1.b0<|(aZ) aO (bR.range (hb.ext (St.cg st1)))<|(bA) ?_;exact⟨rfl,(St.cg st1)⟩
end Go.Rc

