/- Walks over the program, part WP. Conditions: as each theorem says. -/
import Derived.Test.YtjpagoacbadijaaGreatDoorJFacts
import Derived.Test.YtjpagoacbadijaaGreatDoorJWLibE
import Derived.Test.YtjpagoacbadijaaGreatDoorJBe
import Derived.Test.YtjpagoacbadijaaGreatDoorJBd
import Derived.Test.YtjpagoacbadijaaGreatDoorJWF
import Derived.Test.YtjpagoacbadijaaGreatDoorJBf
set_option linter.all false
namespace Go.Rc
open Go Go.Proofs Go.Proofs.Tryz
variable {n r c i r2 e2 n1 e1 n2:Nat}{w:World}{aa:List az}{A B C M Z:Nat→Prop}{a a2 a1:Option Addr}{k:Key}{s:ByteArray}{l:List Rec}{ai:List ByteArray}{x:cI}{f:FuncId}{cap:Value}
set_option maxHeartbeats 400000
theorem ph{n:Int} :CR prog 381 #[.int .i64 n] w ((bB n).val):=by
 refine enter func381 rfl ntmps381 rfl<|?_;have aO:=St.s0 w;refine(ft) aO fun b2 w1 e g st1=>?_;refine cB ?_;refine WC.dA (t:=8) (v:=.bool (decide (n<0) || decide (99<n))) st1 ?_<|?_
 ·
  refine(cz) (fun g5=>?_) (fun g5=>?_)
  ·
   exact(bW) (by simp only [g5];first | rfl | simp) (st1)
  exact(bW) (by simp only [g5];first | rfl | simp) (st1)
 intro w2 st2;refine(aP) (fun g8=>?_) fun g8=>?_
 ·
  have hk:bB n=aW:=by unfold bB;rw [if_pos (by simp at g8;omega)]
  refine(dh) gi st2 fun w3 h j b=>?_;refine(jm) ak b.b0<|?_;rw [hk];exact⟨rfl,(St.cg b)⟩
 simp at g8
 have hk:bB n=⟨30,itoa n⟩:=by unfold bB;rw [if_neg (by omega)]
 refine(eZ) (gH (n:=n) (by omega) (by omega) w2) st2 fun w3 m b=>?_;refine WP .r (PV.aY (us:=[.int .i64 30,.string (itoa n)]) q7 rfl rfl rfl)<|(dh) gi b fun w4 o p d=>?_;refine(jm) ak d.b0<|?_;rw [hk];exact⟨rfl,(St.cg d)⟩
theorem vA{n:Int}(hr:ee A w a r c aa):CR prog 199 #[.slice a r c,.int .i64 n] w (.tuple #[.int .i64 (block aa n).1,.int .i64 (block aa n).2]):=by
 have hle:=hr.le;have hlen:=hr.len;refine enter func199 rfl ntmps199 rfl<|?_;have aO:=St.s0 w;refine jx ?_;refine WC.dA (t:=15) (v:=.bool (decide (n<0) || decide ((r:Int)≤n))) aO ?_<|?_
 ·
  refine(cz) (fun g10=>?_) (fun g10=>?_)
  ·
   exact(bW) (by simp only [g10];first | rfl | simp) (aO)
  exact(bW) (by simp only [g10];first | rfl | simp) (aO)
 intro w1 st1;refine(aP) (fun g15=>?_) fun g15=>?_
 ·
  have hb:=tp aa n (by simp at g15;omega);refine(sf) ?_;exact⟨by rw [hb],(St.cg st1)⟩
 obtain⟨b,rfl⟩:∃i:Nat,n=i:=⟨n.toNat,by simp at g15;omega⟩
 have o:b<aa.length:=by simp at g15;omega
 have h:block aa b=if ax aa b then ((bd aa b:Int),(cN aa (b+1):Int)) else ((b:Int),(b:Int)+1):=by
  unfold block;rw [if_neg (by omega)];rfl
 refine aN ?_;refine nx ?_;obtain⟨X,Y,r_x,H,_,⟨q1,q2,q3,rfl,_⟩,J,_⟩:=(hr.ext (St.cg st1)).at (ae o);refine ct ?_;refine WP .r (PV.dM gn H rfl rfl (by omega))<|nx ?_;refine WP .r (PV.ld1 (j:=0) di J rfl rfl)<|(aP) (fun g24=>?_) fun g24=>?_
 ·
  simp at g24
  have hb:block aa b=((b:Int),(b:Int)+1):=by rw [h,if_neg (by rw [bA o,g24];simp)]
  refine(sf) ?_;exact⟨by rw [hb],(St.cg st1)⟩
 simp at g24
 rw [if_pos (by rw [bA o];exact g24)] at h;refine cB ?_;refine WC.br (σ:=Nat) (cT:=fun k=>[(0,.slice a r c),(6,.int .i64 (k:Int)),(7,.int .i64 ((b:Int)+1))]) (F:=fun k=>[]) (I:=fun k=>(k≤b)∧(bd aa k=bd aa b)∧True) (μ:=fun k=>k) (b) (st1) Sub.t (⟨Nat.le_refl _,rfl,trivial⟩)<|?_;rintro k w2 st2 ⟨hk,p,_⟩;simp only [CA,NA] at st2 hk p ⊢;refine bP ?_;refine WC.dA (t:=36) (v:=.bool (decide ((0:Int)<k) && ax aa (k - 1))) st2 ?_<|?_
 ·
  refine(cz) (fun q=>?_) (fun q=>?_)
  ·
   simp at q
   obtain⟨b_y,o_y,r_y,K,_,⟨L,N,O,rfl,_⟩,P,_⟩:=(hr.ext (St.cg st2)).at (ae (show k - 1<aa.length by omega));have En:aa[k-1].ring=ax aa (k-1):=(bA (by omega)).symm;refine ct ?_;refine WP .r (PV.CZ gn (i:=k - 1) K rfl rfl (by omega) (by omega))<|nx ?_;refine WP .r (PV.ld1 (j:=0) di P rfl rfl)<|?_;exact(bW) (by simp [*]) (st2)
  simp at q
  have Q:¬(0<k):=by omega
  exact(bW) (by simp [*]) (st2)
 intro w3 z;refine(aP) (fun d=>?_) fun d=>?_
 ·
  simp at d
  obtain⟨g1,g2⟩:=d;obtain⟨j,rfl⟩:∃j,k=j+1:=⟨k - 1,by omega⟩;refine px ?_;refine dX (j) ⟨z,⟨by omega,by rw [← p,mT (by simpa using g2)],trivial⟩⟩
 simp at d
 have R:(block aa b).1=k:=by
  rw [h]
  show(bd aa b:Int)=k
  rw [← p,oI]
  by_cases h0:k=0
  ·
   exact .inl h0
  exact .inr (d (by omega))
 refine eL ?_;refine WC.br (σ:=Nat) (cT:=fun m=>[(0,.slice a r c),(6,.int .i64 (k:Int)),(7,.int .i64 (m:Int))]) (F:=fun m=>[]) (I:=fun m=>(b+1≤m)∧(m≤r)∧(cN aa m=cN aa (b+1))∧True) (μ:=fun m=>r - m) (b+1) (z) Sub.t (⟨Nat.le_refl _,by omega,rfl,trivial⟩)<|?_;rintro m w4 e ⟨S,T,u,_⟩;simp only [CA,NA] at e S T u ⊢;refine bP ?_;refine WC.dA (t:=49) (v:=.bool (decide ((m:Int)<r) && ax aa m)) e ?_<|?_
 ·
  refine(cz) (fun y=>?_) (fun y=>?_)
  ·
   simp at y
   obtain⟨b_z,o_z,r_z,U,_,⟨L,N,O,rfl,_⟩,V,_⟩:=(hr.ext (St.cg e)).at (ae (show m<aa.length by omega));have D:aa[m].ring=ax aa m:=(bA (by omega)).symm
   have E:decide ((m:Int)<r)=true:=by simp;omega
   refine bP ?_;refine WP .r (PV.dM gn U rfl rfl (by omega))<|nx ?_;refine WP .r (PV.ld1 (j:=0) di V rfl rfl)<|?_;exact(bW) (by first | (rw [D,E];rfl) | simp [*]) (e)
  simp at y
  have Q:¬(m<aa.length):=by omega
  exact(bW) (by first | (rw [D,E];rfl) | simp [*]) (e)
 intro w5 G;refine(aP) (fun g=>?_) fun g=>?_
 ·
  simp at g
  obtain⟨g3,g4⟩:=g;refine px ?_;refine dX (m+1) ⟨G,⟨by omega,by omega,by rw [← u,← oH g4],trivial⟩⟩
 simp at g
 have W:(block aa b).2=m:=by
  rw [h]
  show(cN aa (b+1):Int)=m
  rw [← u,qh]
  rcases Nat.lt_or_ge m r with h0 | h0
  ·
   exact g (by omega)
  exact jO (by omega)
 refine aN ?_;refine(sf) ?_;exact⟨by rw [R,W],(St.cg G)⟩
theorem mG{cell:Bool}{n:Int}(hr:ee A w a r c aa) (hi:i<aa.length):CR prog 147 #[.slice a r c,.int .i64 (i:Int),.bool cell,.int .i64 n] w (.bool (ef aa i cell n)):=by
 have hle:=hr.le;have hlen:=hr.len;have g:=bA hi;have o:=za hi
 have ht:du aa i=if aa[i].ring=true then (block aa (i:Int)).2 else (block aa (i:Int)).1:=by unfold du;rw [g]
 refine enter func147 rfl ntmps147 rfl<|?_;have aO:=St.s0 w;refine(aP) (fun g11=>?_) fun g11=>?_
 ·
  refine nx ?_;refine WC.ja (t:=8) (v:=.bool (decide (0≤n) && decide (n≤15))) aO ?_<|?_
  ·
   refine(cz) (fun g14=>?_) (fun g14=>?_)
   ·
    exact(eT) (by simp only [g14];first | rfl | simp) (aO)
   exact(eT) (by simp only [g14];first | rfl | simp) (aO)
  intro w1 st1;refine(bF) ?_;exact⟨by unfold ef;rw [if_pos g11],(St.cg st1)⟩
 refine(eZ) (vA (n:=(i:Int)) (hr.ext (St.cg aO))) aO fun w1 s1 st1=>?_;refine jx ?_;obtain⟨p,q,u,h,_,⟨q1,y,z,rfl,_⟩,m,_⟩:=(hr.ext (St.cg st1)).at (ae hi);refine WC.ja (t:=8) (v:=.bool (decide (0≤n) && decide (n<du aa i))) st1 ?_<|?_
 ·
  refine(cz) (fun b=>?_) (fun b=>?_)
  ·
   refine(cz) (fun d=>?_) (fun d=>?_)
   ·
    refine aN ?_;exact(eT) (by rw [ht];first | (simp [b,d];done) | (simp at b d;simp [b,d];done) | (simp at b d ⊢;split <;> omega) | (simp at b d;simp [b,d];omega)) (st1)
   refine bP ?_;refine WP .r (PV.dM gn h rfl rfl (by omega))<|nx ?_;refine WP .r (PV.ld1 (j:=0) di m rfl rfl)<|(cz) (fun e=>?_) (fun e=>?_)
   ·
    exact(eT) (by rw [ht];first | (simp [b,d,e];done) | (simp at b d e;simp [b,d,e];done) | (simp at b d e ⊢;split <;> omega) | (simp at b d e;simp [b,d,e];omega)) (st1)
   exact(eT) (by rw [ht];first | (simp [b,d,e];done) | (simp at b d e;simp [b,d,e];done) | (simp at b d e ⊢;split <;> omega) | (simp at b d e;simp [b,d,e];omega)) (st1)
  refine aN ?_;exact(eT) (by rw [ht];first | (simp [b];done) | (simp at b;simp [b];done) | (simp at b ⊢;split <;> omega) | (simp at b;simp [b];omega)) (st1)
 intro w2 st2;refine(bF) ?_;exact⟨by unfold ef;rw [g11];rfl,(St.cg st2)⟩
theorem nI{k:Nat}{x:Ask}(hr:ee A w a r c aa) (hi:i<aa.length):CR prog 117 #[.slice a r c,.int .i64 (i:Int),x.val,.bool (decide ((k:Int)=0))] w (.bool (dF aa i aa[i].ring k x)):=by
 have hle:=hr.le;have hlen:=hr.len;obtain⟨q,u,y,g,_,⟨q1,z,D,rfl,_⟩,h,_⟩:=hr.at (ae hi);have e:(dF aa i aa[i].ring k x)=(ef aa i x.cell x.n && (if x.pick then !aa[i].ring && decide (k≠0) && ef aa i x.cell x.yP else decide (x.yP=0))):=rfl;rw [e]
 clear e
 have b:decide ((k:Int)=0)=decide (k=0):=by simp
 refine enter func117 rfl ntmps117 rfl<|?_;have aO:=St.s0 w;refine(dr) aO fun E w1 F G st1=>?_;refine cW ?_;refine WC.dA (t:=30) (v:=.bool ((x.pick && (aa[i].ring || decide (k=0))) || !ef aa i x.cell x.n)) st1 ?_<|?_
 ·
  refine(bp) di st1.b0<|(cz) (fun g11=>?_) (fun g11=>?_)
  ·
   refine bP ?_;refine WP .r (PV.dM gn g rfl rfl (by omega))<|nx ?_;refine WP .r (PV.ld1 (j:=0) di (aR h (St.cg st1) (by simp)) rfl rfl)<|(cz) (fun g17=>?_) (fun g17=>?_)
   ·
    refine aN ?_;exact(bW) (by first | (simp only [g11,g17,← b];rfl) | (simp [g11,g17,b];done) | (simp at g11 g17;simp [g11,g17,b];done) | (simp at g11 g17;simp_all;done)) (st1)
   refine(cz) (fun g21=>?_) (fun g21=>?_)
   ·
    exact(bW) (by first | (simp only [g11,g17,g21,← b];rfl) | (simp [g11,g17,g21,b];done) | (simp at g11 g17 g21;simp [g11,g17,g21,b];done) | (simp at g11 g17 g21;simp_all;done)) (st1)
   refine(bp) di st1.b0<|(bp) aK st1.b0<|(eZ) (mG (cell:=x.cell) (n:=x.n) (hr.ext (St.cg st1)) hi) st1 fun w2 s2 st2=>?_;exact(bW) (by first | (simp only [g11,g17,g21,← b];rfl) | (simp [g11,g17,g21,b];done) | (simp at g11 g17 g21;simp [g11,g17,g21,b];done) | (simp at g11 g17 g21;simp_all;done)) (st2)
  refine aN ?_;refine(bp) di st1.b0<|(bp) aK st1.b0<|(eZ) (mG (cell:=x.cell) (n:=x.n) (hr.ext (St.cg st1)) hi) st1 fun w2 s2 st2=>?_;exact(bW) (by first | (simp only [g11,← b];rfl) | (simp [g11,b];done) | (simp at g11;simp [g11,b];done) | (simp at g11;simp_all;done)) (st2)
 intro w2 st2;refine(aP) (fun m=>?_) fun m=>?_
 ·
  refine(bF) ?_;exact⟨by cases hm:ef aa i x.cell x.n <;> cases H:x.pick <;> cases o:aa[i].ring <;> by_cases h0:k=0 <;> simp_all,(St.cg st2)⟩
 refine(bp) di st2.b0<|(aP) (fun d=>?_) fun d=>?_
 ·
  simp at d
  refine(bp) aK st2.b0<|(bF) ?_;exact⟨by cases hm:ef aa i x.cell x.n <;> simp_all,(St.cg st2)⟩
 simp at d
 refine(bp) di st2.b0<|(bp) aK st2.b0<|(eZ) (mG (cell:=x.cell) (n:=x.yP) (hr.ext (St.cg st2)) hi) st2 fun w3 I p=>?_;refine(bF) ?_;exact⟨by cases hm:ef aa i x.cell x.n <;> cases o:aa[i].ring <;> by_cases h0:k=0 <;> simp_all,(St.cg p)⟩
theorem rS(hr:ee A w a r c aa) (N:ao aa):CR prog 82 #[.slice a r c] w (.bool true):=by
 have hle:=hr.le;have hlen:=hr.len;have C3:=N.1;refine enter func82 rfl ntmps82 rfl<|?_;have aO:=St.s0 w;refine aN ?_;refine(aP) (fun g12=>?_) fun g12=>?_
 ·
  exact ep g12
 ·
  refine na ?_;refine WC.br (σ:=Nat) (cT:=fun i=>[(0,.slice a r c),(13,.slice a r c),(14,.int .i64 (r:Int)),(15,.int .i64 (i:Int))]) (F:=fun i=>[]) (I:=fun i=>(i≤r)∧True) (μ:=fun i=>r - i) (0) (aO) Sub.t (⟨by omega,trivial⟩)<|?_;rintro i w1 st1 ⟨hi,_⟩;simp only [CA,NA] at st1 hi ⊢;refine(aP) (fun g16=>?_) fun g16=>?_
  ·
   simp at g16
   have E:i<aa.length:=by omega
   obtain⟨XM,O,q⟩:=N.2 i _ (ae E)
   unfold fq at q
   obtain⟨b_x,o_x,r_x,Q,_,⟨q1,j,P,rfl,G⟩,R,_⟩:=hr.at (ae E);have vi:=G.len;refine eL ?_;refine WP .r (PV.dM gn Q rfl rfl (by omega))<|(bj) ua (aR R (St.cg st1) (by simp))<|(ft) st1 fun b4 w2 E0 I3 st2=>?_;refine(dh) zJ st2 fun w3 l4 mK b=>?_;refine aN ?_;refine(bp) di b.b0<|(aP) (fun g21=>?_) fun g21=>?_
   ·
    rw [if_pos g21] at q
    simp at q
    refine jx ?_;refine WC.dA (t:=48) (v:=.bool false) b ?_<|?_
    ·
     refine(bp) iT b.b0<|(cz) (fun d=>?_) (fun d=>?_)
     ·
      refine aN ?_;exact(bW) (tG d) (b)
     refine(bp) aK b.b0<|(cz) (fun e=>?_) (fun e=>?_)
     ·
      refine aN ?_;exact(bW) (tG (aj d e)) (b)
     refine(bp) aK b.b0<|(cz) (fun g=>?_) (fun g=>?_)
     ·
      exact(bW) (tG (aj d<|aj e g)) (b)
     refine(bp) aK b.b0<|(cz) (fun m=>?_) (fun m=>?_)
     ·
      exact(bW) (tG (aj d<|aj e<|aj g m)) (b)
     refine(bp) aK b.b0<|?_;exact(bW) (tG (aj d<|aj e<|aj g m)) (b)
    intro w4 y;refine(aP) (fun z=>?_) fun z=>?_
    ·
     exact ep z
    refine(bp) iT y.b0<|cW ?_;refine WC.br (σ:=Nat) (cT:=fun k=>[(0,.slice a r c),(3,.int .i64 (i:Int)),(13,.slice a r c),(14,.int .i64 (r:Int)),(15,.int .i64 (i:Int)),(50,.slice q1 j P),(51,.int .i64 (j:Int)),(52,.int .i64 (k:Int))]) (F:=fun k=>[]) (I:=fun k=>(k≤j)∧True) (μ:=fun k=>j - k) (0) (y) Sub.t (⟨by omega,trivial⟩)<|?_;rintro k w5 h ⟨hk,_⟩;simp only [CA,NA] at h hk ⊢;refine(aP) (fun o=>?_) fun o=>?_
    ·
     simp at o
     have D:k<aa[i].asks.length:=by omega
     obtain⟨S,T,U,H,_,rfl,J,_⟩:=(G.ext (St.cg h)).at (ae D);refine eL ?_;refine WP .r (PV.dM su H rfl rfl (by omega))<|(bj) lX J<|(ft) h fun V w6 W X K=>?_;refine(dh) zK K fun w7 v7 nZ p=>?_;refine(bj) lX p.b0<|bP ?_;refine WL.c1 (u:=.bool true) (nI (k:=k) (x:=aa[i].asks[k]) (hr.ext (St.cg p)) E) (by rw [show dF aa i aa[i].ring k aa[i].asks[k]=true from O k _ (ae D)]) p fun Y s8 L=>?_;refine ct ?_;refine WC.fP rfl<|eL ?_;refine dX (k+1) ⟨L.drop,⟨by omega,trivial⟩⟩
    simp at o
    refine mo ?_;refine dX (i+1) ⟨h.drop,⟨by omega,trivial⟩⟩
   rw [if_neg (by simp [g21])] at q
   simp at q
   refine cB ?_;refine WC.dA (t:=48) (v:=.bool false) b ?_<|?_
   ·
    refine(bp) iT b.b0<|(cz) (fun d=>?_) (fun d=>?_)
    ·
     refine aN ?_;exact(bW) (tG d) (b)
    refine(bp) aK b.b0<|(cz) (fun e=>?_) (fun e=>?_)
    ·
     refine aN ?_;exact(bW) (tG (aj d e)) (b)
    refine(bp) aK b.b0<|(cz) (fun g=>?_) (fun g=>?_)
    ·
     exact(bW) (tG (aj d<|aj e g)) (b)
    refine(bp) aK b.b0<|(cz) (fun m=>?_) (fun m=>?_)
    ·
     exact(bW) (tG (aj d<|aj e<|aj g m)) (b)
    refine(bp) aK b.b0<|?_;exact(bW) (tG (aj d<|aj e<|aj g m)) (b)
   intro w4 y;refine(aP) (fun z=>?_) fun z=>?_
   ·
    exact ep z
   refine(bp) iT y.b0<|cW ?_;refine WC.br (σ:=Nat) (cT:=fun k=>[(0,.slice a r c),(3,.int .i64 (i:Int)),(13,.slice a r c),(14,.int .i64 (r:Int)),(15,.int .i64 (i:Int)),(50,.slice q1 j P),(51,.int .i64 (j:Int)),(52,.int .i64 (k:Int))]) (F:=fun k=>[]) (I:=fun k=>(k≤j)∧True) (μ:=fun k=>j - k) (0) (y) Sub.t (⟨by omega,trivial⟩)<|?_;rintro k w5 h ⟨hk,_⟩;simp only [CA,NA] at h hk ⊢;refine(aP) (fun o=>?_) fun o=>?_
   ·
    simp at o
    have D:k<aa[i].asks.length:=by omega
    obtain⟨S,T,U,H,_,rfl,J,_⟩:=(G.ext (St.cg h)).at (ae D);refine eL ?_;refine WP .r (PV.dM su H rfl rfl (by omega))<|(bj) lX J<|(ft) h fun V w6 W X K=>?_;refine(dh) zK K fun w7 CC yG p=>?_;refine(bj) lX p.b0<|bP ?_;refine WL.c1 (u:=.bool true) (nI (k:=k) (x:=aa[i].asks[k]) (hr.ext (St.cg p)) E) (by rw [show dF aa i aa[i].ring k aa[i].asks[k]=true from O k _ (ae D)]) p fun Y s8 L=>?_;refine ct ?_;refine WC.fP rfl<|eL ?_;refine dX (k+1) ⟨L.drop,⟨by omega,trivial⟩⟩
   simp at o
   refine mo ?_;refine dX (i+1) ⟨h.drop,⟨by omega,trivial⟩⟩
  simp at g16
  refine(bF) ?_;exact⟨rfl,(St.cg st1)⟩
 -- vl iW C63
theorem vB(ht:jM prog A w) (hn:n≤65535):CR prog 380 #[.string (itoa (n:Int))] w (.int .i64 (n:Int)):=by
 refine enter func380 rfl ntmps380 rfl<|?_;have aO:=St.s0 w;refine(eZ) (xE (n:=n) (by omega) w) aO fun w1 s1 st1=>?_;refine px ?_;refine WC.dA (t:=25) (v:=.bool false) st1 ?_<|?_
 ·
  refine bP ?_;refine WP .r (PV.JI va rfl)<|nx ?_;refine WL.eW (t:=12) rfl (fun g12=>?_) (fun g12=>?_)
  ·
   refine aN ?_;exact(bW) (tG g12) (st1)
  refine cB ?_;refine WL.eW (t:=16) rfl (fun g16=>?_) (fun g16=>?_)
  ·
   exact(bW) (tG (aj g12 g16)) (st1)
  refine cB ?_;refine WL.eW (t:=20) rfl (fun g20=>?_) (fun g20=>?_)
  ·
   exact(bW) (tG (aj g12<|aj g16 g20)) (st1)
  refine(eZ) (j7 (n:=(n:Int)) (ht.ext (St.cg st1)) (by omega) (by omega)) st1 fun w2 s2 st2=>?_;exact(bW) (tG (aj g12<|aj g16 g20)) (st2)
 intro w2 st2;refine(aP) (fun b=>?_) fun b=>?_
 ·
  exact ep b
 refine(bF) ?_;exact⟨rfl,(St.cg st2)⟩
theorem vC(ht:jM prog A w) (g:s.size≤1000) (b:∀n:Nat,n≤65535→s≠itoa (n:Int)):CR prog 380 #[.string s] w (.int .i64 0):=by
 refine enter func380 rfl ntmps380 rfl<|?_;have aO:=St.s0 w;refine(cA) IH (Fy (s:=s) (ht.ext (St.cg aO)) g) ?_;rintro _ w1 ⟨v,ok,ev,rfl,j,h,s1⟩;have st1:=aO.step s1;refine px ?_;refine WC.dA (t:=25) (v:=.bool true) st1 ?_<|?_
 ·
  refine bP ?_;refine WP .r (PV.Oe va rfl h)<|(cz) (fun g12=>?_) (fun g12=>?_)
  ·
   refine aN ?_;exact(bW) (by first | (simp [g12];done) | (simp at g12 ⊢;intro e;exact b v.toNat (by omega) (by rw [show((v.toNat:Nat):Int)=v by omega];exact e.symm))) (st1)
  refine(cz) (fun g16=>?_) (fun g16=>?_)
  ·
   exact(bW) (by first | (simp [g12,g16];done) | (simp at g12 g16 ⊢;intro e;exact b v.toNat (by omega) (by rw [show((v.toNat:Nat):Int)=v by omega];exact e.symm))) (st1)
  refine(cz) (fun g20=>?_) (fun g20=>?_)
  ·
   exact(bW) (by first | (simp [g12,g16,g20];done) | (simp at g12 g16 g20 ⊢;intro e;exact b v.toNat (by omega) (by rw [show((v.toNat:Nat):Int)=v by omega];exact e.symm))) (st1)
  refine(eZ) (j7 (n:=v) (ht.ext (St.cg st1)) (by omega) (by omega)) st1 fun w2 s2 st2=>?_;exact(bW) (by first | (simp [g12,g16,g20];done) | (simp at g12 g16 g20 ⊢;intro e;exact b v.toNat (by omega) (by rw [show((v.toNat:Nat):Int)=v by omega];exact e.symm))) (st2)
 intro w2 st2;refine(aP) (fun d=>?_) fun d=>?_
 ·
  refine(bF) ?_;exact⟨rfl,(St.cg st2)⟩
 exact ep d
theorem pj(ht:jM prog A w) (b:s.size≤1000):CR prog 380 #[.string s] w (.int .i64 (bZ s:Int)):=by
 by_cases h:∃n:Nat,n≤65535∧s=itoa (n:Int)
 ·
  obtain⟨n,hn,rfl⟩:=h;rw [dP hn];exact vB ht hn
 have h0:∀n:Nat,n≤65535→s≠itoa (n:Int):=fun n hn e=>h ⟨n,hn,e⟩;rw [B6 h0];exact vC ht b h0
theorem sJ{kd:Int}{l:List Nat}(hl:Ints A w a r c (l.map fun x:Nat=>(x:Int))) (g:∀x∈l,x≤65535) (hr:r≤1000):CR prog 382 #[.int .i64 kd,.slice a r c] w (.int .i64 (cO kd 0 l:Int)):=by
 have hle:=SR.le hl;have hlen:=SR.len hl;rw [List.length_map] at hlen;have m:∀i,∀x∈l.take i,x≤65535:=fun i x p=>g x (List.mem_of_mem_take p);refine enter func382 rfl ntmps382 rfl<|?_;have aO:=St.s0 w;refine aN ?_;refine px ?_;refine WC.br (σ:=Nat) (cT:=fun i=>[(0,.int .i64 kd),(5,.int .i64 (pq 0 (l.take i):Int)),(6,.int .i64 (oK 0 (l.take i):Int)),(7,.int .i64 (dN 0 (l.take i):Int)),(10,.slice a r c),(11,.int .i64 (r:Int)),(12,.int .i64 (i:Int))]) (F:=fun i=>[]) (I:=fun i=>(i≤r)∧True) (μ:=fun i=>r - i) (0) (aO) Sub.t (⟨by omega,trivial⟩)<|?_;rintro i w1 st1 ⟨hi,_⟩;simp only [CA,NA] at st1 hi ⊢;refine(aP) (fun g13=>?_) fun g13=>?_
 ·
  simp at g13
  have h:i<l.length:=by omega
  have q:i<(l.map fun x:Nat=>(x:Int)).length:=by simpa using h
  have u:=pP (c:=0) (m i);have v:=kG (c:=0) (by omega) (m i);have y:=js (c:=0) (by omega) (m i);have E:=g l[i] (List.getElem_mem h)
  have G:(l.take i).length≤1000:=by rw [List.length_take];omega
  have e1:=tr (c:=0) h;have e2:=qj (c:=0) h;have H:=qk (c:=0) h;refine cW ?_;obtain⟨J,K,L,z,_,rfl,o,_⟩:=(SR.ext hl (St.cg st1)).at (ae q);rw [List.getElem_map] at o;refine nx ?_;refine WP .r (PV.dM zI z rfl rfl (by omega))<|WP .r (PV.kc aK o rfl rfl)<|px ?_;refine WP .r (PV.Dy rfl rfl)<|bP ?_;refine WP .r (PV.Z0 rfl rfl (by omega) (by omega))<|mo ?_;refine dX (i+1) ⟨st1,⟨by omega,trivial⟩⟩
 simp at g13
 have D:l.take i=l:=List.take_of_length_le (by omega);rw [D];have u:=pP (c:=0) g;have v:=kG (c:=0) (by omega) g;have y:=js (c:=0) (by omega) g
 have N:l.length≤1000:=by omega
 refine aN ?_;refine(aP) (fun b=>?_) fun b=>?_
 ·
  simp at b
  refine(bF) ?_;exact⟨by unfold cO;rw [if_pos b,Int.tmod_eq_emod_of_nonneg (by omega)];rfl,(St.cg st1)⟩
 simp at b
 refine(aP) (fun d=>?_) fun d=>?_
 ·
  simp at d
  refine ct ?_;refine WP .r (PV.quo rfl rfl (by omega) (by rw [Int.tdiv_eq_ediv_of_nonneg (by omega)];omega) (by rw [Int.tdiv_eq_ediv_of_nonneg (by omega)];omega))<|(bF) ?_;exact⟨by unfold cO;rw [if_neg b,if_pos d,Int.tdiv_eq_ediv_of_nonneg (by omega),Int.tmod_eq_emod_of_nonneg (by omega)];rfl,(St.cg st1)⟩
 simp at d
 refine(aP) (fun e=>?_) fun e=>?_
 ·
  simp at e
  refine(bF) ?_;exact⟨by unfold cO;rw [if_neg b,if_neg d,if_pos e],(St.cg st1)⟩
 simp at e
 refine(aP) (fun j=>?_) fun j=>?_
 ·
  simp at j
  refine(bF) ?_;exact⟨by unfold cO;rw [if_neg b,if_neg d,if_neg e,if_pos j,Int.tmod_eq_emod_of_nonneg (by omega)];rfl,(St.cg st1)⟩
 simp at j
 refine(bF) ?_;exact⟨by unfold cO;rw [if_neg b,if_neg d,if_neg e,if_neg j],(St.cg st1)⟩
set_option maxHeartbeats 1600000 in
theorem yh(ht:jM prog A w) (X:ao aa) (hi:i<aa.length) (hr:ee B w a r c aa) (hl:Strs C w a2 r2 e2 ai) (hsz:∀s∈ai,s.size≤1000):CR prog 300 #[.slice a r c,(aH aa (i:Int)).val,.slice a2 r2 e2] w ((cm aa (aH aa (i:Int)) ai).val):=by
 have C3:=X.len
 have gR:i≤99:=by omega
 have hle:=hr.le;have hlen:=hr.len;have rA:=hl.len;have vm:=hl.le
 obtain⟨kd,hkd,hk⟩:∃kd:Int,(kd=31∨kd=32)∧aH aa (i:Int)=⟨kd,itoa i⟩:=by
  unfold aH
  rw [if_neg (by omega)]
  cases h:ax aa i
  ·
   exact⟨31,.inl rfl,by simp [h]⟩
  exact⟨32,.inr rfl,by simp [h]⟩
 have O:=bE hi gR;obtain⟨XM,XN,aeS⟩:=X.2 i _ (ae hi);have XO:=ao.hb X _ (List.getElem_mem hi);obtain⟨g,QH⟩:∃g:Nat,aa[i].c=g:=⟨aa[i].c.toNat,by omega⟩;obtain⟨b_x,o_x,r_x,yi,_,⟨q1,b,q3,rfl,xH⟩,Rp,_⟩:=hr.at (ae hi);rw [QH] at Rp;have vi:=xH.len;rw [hk] at O ⊢;refine enter func300 rfl ntmps300 rfl<|?_;have aO:=St.s0 w;refine(dr) aO fun b4 w1 E0 I3 st1=>?_;refine(ft) st1 fun b6 w2 BA F6 st2=>?_;refine(bj) ak st2.b1<|(eZ) (jl (k:=(⟨kd,itoa i⟩:Key)) ⟨by simp only [];omega,by simp only [];omega⟩ rfl gR) st2 fun w3 s3 Y=>?_;refine cW ?_;refine WC.dA (t:=30) (v:=.bool false) Y ?_<|?_
 ·
  have XC:=Y.bG;refine WC.cJ (m:=12) (E:=bS [(10,fun v _=>v=(aH aa (i:Int)).val)]) Y (aU (⟨fun _ _ _ _ _ _ _ h=>h,trivial⟩)) mixed (by kernel_rfl)<|ct ?_;refine DW.eW (t:=19) rfl (fun g19=>?_) (fun g19=>?_)
  ·
   refine(cy) ?_;rintro w4 ⟨sD,D⟩ _;exact(bW) (by first | rfl | (simp [g19,hk];done) | (simp [g19,hk];omega) | (simp only [g19];done) | (simp only [g19];rfl) | (simp [g19];done) | (simp;done) | (simp at g19 ⊢ <;> omega) | (simp <;> omega) | (simp [g19] <;> omega) | (simp at g19 <;> omega)) (D)
  refine(gP) aK St.g1<|ct ?_;refine DW.eW (t:=24) rfl (fun g24=>?_) (fun g24=>?_)
  ·
   refine(cy) ?_;rintro w4 ⟨sD,D⟩ _;exact(bW) (by first | rfl | (simp [g19,g24,hk];done) | (simp [g19,g24,hk];omega) | (simp only [g19,g24];done) | (simp only [g19,g24];rfl) | (simp [g19,g24];done) | (simp;done) | (simp at g19 g24 ⊢ <;> omega) | (simp <;> omega) | (simp [g19,g24] <;> omega) | (simp at g19 g24 <;> omega)) (D)
  refine bP ?_;refine DW.c0 (fun wx hC hF=>lD (n:=(i:Int)) (hr.ext (St.cg hC.2)))<|(fk) ak St.g1<|(cy)<|?_;rintro w4 ⟨sD,D⟩ ⟨_,_⟩;refine WP .r (PV.FX ek (p:=aH aa (i:Int)) (q:=(⟨kd,itoa i⟩:Key)) rfl rfl)<|?_;exact(bW) (by first | rfl | (simp [g19,g24,hk];done) | (simp [g19,g24,hk];omega) | (simp only [g19,g24];done) | (simp only [g19,g24];rfl) | (simp [g19,g24];done) | (simp;done) | (simp at g19 g24 ⊢ <;> omega) | (simp <;> omega) | (simp [g19,g24] <;> omega) | (simp at g19 g24 <;> omega)) (D)
 intro w4 D;refine(aP) (fun HY=>?_) fun HY=>?_
 ·
  exact ep HY
 refine fZ ?_;refine WP .r (PV.CZ gn (i:=i) yi rfl rfl (by omega) (by omega))<|(bj) ua (aR Rp (St.cg D) (by simp))<|(ft) D fun b8 w5 Lk hb8 l5=>?_;refine(dh) zJ l5 fun w6 l4 mK K=>?_;refine aN ?_;refine(bp) iT K.b0<|(aP) (fun Fb=>?_) fun Fb=>?_
 ·
  simp at Fb
  have hn:r2<aa[i].asks.length:=by omega
  have z:=ju (ai:=ai) O hi (by rw [O];exact hk) (show ai.length<aa[i].asks.length by omega);simp only [← rA] at z
  have Mk:r2=0→aa[i].asks[r2].pick=false:=fun h0=>by
   have:=XN r2 _ (ae hn)
   cases hp:aa[i].asks[r2].pick
   ·
    rfl
   unfold dF at this
   rw [hp] at this
   simp [h0] at this
  refine nx ?_;obtain⟨b_y,o_y,r_y,XP,_,rfl,XQ,_⟩:=(xH.ext (St.cg K)).at (ae hn);refine(bp) iT K.b0<|nx ?_;refine WP .r (PV.dM su XP rfl rfl (by omega))<|(bj) lX XQ<|(ft) K fun L4 w7 x3 x4 P=>?_;refine(dh) zK P fun w8 v7 nZ o=>?_;refine(bp) aK o.b0<|cW ?_;refine WC.dA (t:=65) (v:=.bool (dR aa[i].asks[r2] ai)) o ?_<|?_
  ·
   refine(bp) di o.b0<|nx ?_;refine WL.eW (t:=52) rfl (fun U=>?_) (fun U=>?_)
   ·
    refine cB ?_;refine WL.eW (t:=56) rfl (fun CS=>?_) (fun CS=>?_)
    ·
     simp at CS
     obtain⟨b_z,o_z,r_z,XR,_,rfl,XS,_⟩:=(hl.ext (St.cg o)).at (ae (show r2 - 1<ai.length by omega))
     have F2:dR aa[i].asks[r2] ai=decide ((bZ ai[r2 - 1]:Int).tmod 2=0):=by
      unfold dR
      simp only [U,← rA,Bool.true_and];rw [decide_eq_false (by omega),Bool.false_or,getElem!_pos ai (r2 - 1) (by omega),Int.tmod_eq_emod_of_nonneg (by omega)]
      congr 1
      exact propext ⟨fun h=>by omega,fun h=>by omega⟩
     refine ct ?_;refine WP .r (PV.CZ lY (i:=r2 - 1) XR rfl rfl (by omega) (by omega))<|WP .r (PV.kc eV XS rfl rfl)<|(eZ) (pj (s:=ai[r2 - 1]) (ht.ext (St.cg o)) (hsz _ (List.getElem_mem _))) o fun w9 s9 d=>?_;exact(bW) (by rw [F2]) (d)
    exact absurd (Mk (by simp at CS;omega)) (by simp [U])
   have F2:dR aa[i].asks[r2] ai=false:=by unfold dR;rw [U];rfl
   refine aN ?_;exact(bW) (by rw [F2]) (o)
  intro w9 d;refine(aP) (fun XT=>?_) fun XT=>?_
  ·
   have Q:mi aa[i].asks[r2] ai=aa[i].asks[r2].yP:=by unfold mi;rw [if_pos XT]
   refine(bp) aK d.b0<|(bp) di d.b0<|(aP) (fun J=>?_) fun J=>?_
   ·
    rw [Q,if_pos J] at z;refine(eZ) (ph) d fun S V y=>?_;refine WP .r (PV.aY (us:=[.bool false,.string ⟨#[]⟩,.int .i64 (bB _).kind,.string (bB _).text]) kj rfl rfl rfl)<|(dh) fe y.p2 fun T CC yG e=>?_;refine(jm) gh e.b0<|?_;rw [z];exact⟨rfl,(St.cg e)⟩
   rw [Q,if_neg (by simp [J])] at z;refine(eZ) (lD (hr.ext (St.cg d))) d fun S V y=>?_;refine WP .r (PV.aY (us:=[.bool false,.string ⟨#[]⟩,.int .i64 (aH aa _).kind,.string (aH aa _).text]) kj rfl rfl rfl)<|(dh) fe y.p2 fun T Nl Nn e=>?_;refine(jm) gh e.b0<|?_;rw [z];exact⟨rfl,(St.cg e)⟩
  have Q:mi aa[i].asks[r2] ai=aa[i].asks[r2].n:=by unfold mi;rw [if_neg (by simp [XT])]
  refine(bp) di d.b0<|(aP) (fun J=>?_) fun J=>?_
  ·
   rw [Q,if_pos J] at z;refine(eZ) (ph) d fun S V y=>?_;refine WP .r (PV.aY (us:=[.bool false,.string ⟨#[]⟩,.int .i64 (bB _).kind,.string (bB _).text]) kj rfl rfl rfl)<|(dh) fe y.p2 fun T Tu MW e=>?_;refine(jm) gh e.b0<|?_;rw [z];exact⟨rfl,(St.cg e)⟩
  rw [Q,if_neg (by simp [J])] at z;refine(eZ) (lD (hr.ext (St.cg d))) d fun S V y=>?_;refine WP .r (PV.aY (us:=[.bool false,.string ⟨#[]⟩,.int .i64 (aH aa _).kind,.string (aH aa _).text]) kj rfl rfl rfl)<|(dh) fe y.p2 fun T Tm Tn e=>?_;refine(jm) gh e.b0<|?_;rw [z];exact⟨rfl,(St.cg e)⟩
 simp at Fb
 have z:=jt (ai:=ai) O hi (by rw [O];exact hk) (show aa[i].asks.length≤ai.length by omega);rw [← vi,QH,Int.toNat_natCast] at z
 have IW:∀x∈(ai.take b).map bZ,x≤65535:=fun x G=>by obtain⟨s,_,rfl⟩:=List.mem_map.1 G;exact iM s
 have hfl:=lk (kind:=aa[i].final) (c:=g) (l:=(ai.take b).map bZ) (by omega) IW
 have hll:((ai.take b).map bZ).length=b:=by rw [List.length_map,List.length_take];omega
 refine(bp) aK K.b0<|?_;refine WL.go rfl (OX.aL (us:=[.int .i64 (g:Int)]) Eu rfl rfl rfl rfl fun b79 w7 Rq XU=>?_);have P:=St.lE (R:=RR.int) (E:=3) (k:=1) (a:=some ⟨b79,0,none⟩) (n:=1) (c:=1) (xs:=[(g:Int)]) K Rq.ext (OR.cV XU (Nat.zero_le _) rfl (by simp [Value.oneCell']) rfl) (fun x G=>by simp [bl] at G;subst G;exact Rq.ge);refine(bp) iT P.b1<|nx ?_;refine WP .r (PV.yU lY (hl.ext (St.cg P)) rfl rfl (by omega))<|cW ?_;refine WC.br (σ:=Nat × (Option Addr) × Nat × Nat) (cT:=fun(j,L,H,N)=>[(6,.pointer (some ⟨b6,0,none⟩)),(8,.pointer (some ⟨b8,0,none⟩)),(12,.slice L H N),(84,.slice a2 b e2),(85,.int .i64 (b:Int)),(86,.int .i64 (j:Int))]) (F:=fun(j,L,H,N)=>[As.os RR.int 3 1 L H N ((((g::((ai.take b).map bZ).take j)).map fun x:Nat=>(x:Int)))]) (I:=fun(j,L,H,N)=>(j≤b)∧True) (μ:=fun(j,L,H,N)=>b - j) (0,(some ⟨b79,0,none⟩),1,1) (P) Sub.t (⟨by omega,trivial⟩)<|?_;rintro⟨j,L,H,N⟩ w8 o ⟨hj,_⟩;simp only [CA,NA] at o hj ⊢;have sj:=((As.gs o.g0)).len
 have Al:H≤1+j:=by have h0:=sj;simp at h0;omega
 refine(aP) (fun Fv=>?_) fun Fv=>?_
 ·
  simp at Fv
  have uk:j<ai.length:=by omega
  obtain⟨b_u,o_u,r_u,XV,_,rfl,XW,_⟩:=(hl.ext (St.cg o)).at (ae uk);refine fZ ?_;refine WP .r (PV.dM lY XV rfl rfl (by omega))<|WP .r (PV.kc eV XW rfl rfl)<|(eZ) (pj (s:=ai[j]) (ht.ext (St.cg o)) (hsz _ (List.getElem_mem _))) o fun w9 s9 d=>?_;refine WL.go rfl (OX.aL (us:=[.int .i64 (bZ ai[j]:Int)]) Eu rfl rfl rfl rfl fun Rr S Ml Mm=>?_);have y:=d.dD Ml Mm;refine WL.ap rfl rfl y.p1 (SR.cV (A:=fun _=>True) (x:=((bZ ai[j]:Nat):Int)) (As.gb y.g0) trivial rfl (by simp [Value.oneCell']) rfl) fun a94 XX T aeU aeV e=>?_;refine bP ?_;have W:=e.Jx (show(((((g::((ai.take b).map bZ).take j)).map fun x:Nat=>(x:Int)))++[((bZ ai[j]:Nat):Int)])=(((g::((ai.take b).map bZ).take (j+1))).map fun x:Nat=>(x:Int)) by rw [List.take_succ_eq_append_getElem (by omega),← List.cons_append,List.map_append,List.getElem_map,List.getElem_take];rfl);refine fZ ?_;refine dX (j+1,a94,(H+1),XX) ⟨W.p1.drop,⟨by omega,trivial⟩⟩
 simp at Fv
 have hje:((ai.take b).map bZ).take j=(ai.take b).map bZ:=List.take_of_length_le (by omega);have d:=o.Jx (show(((g::((ai.take b).map bZ).take j)).map fun x:Nat=>(x:Int))=(((g::(ai.take b).map bZ)).map fun x:Nat=>(x:Int)) by rw [hje]);refine(bp) aK d.b1<|nx ?_;refine WL.c1 (u:=.int .i64 ((cO aa[i].final g ((ai.take b).map bZ)):Int)) (sJ (kd:=aa[i].final) (l:=g::(ai.take b).map bZ) (Ow.rd (As.gs d.g0) (by simp;omega)) (fun x G=>by rcases List.mem_cons.1 G with rfl | G;omega;exact IW x G) (by omega)) (by rw [wU]) d fun w9 s9 y=>?_;refine(eZ) (j7 (n:=((cO aa[i].final g ((ai.take b).map bZ)):Int)) (ht.ext (St.cg y)) (by omega) (by omega)) y fun S V e=>?_;refine WP .r (PV.aY (us:=[.bool true,.string (itoa ((cO aa[i].final g ((ai.take b).map bZ)):Int)),.int .i64 0,.string ⟨#[]⟩]) kj rfl rfl rfl)<|(dh) fe e.p2 fun T WN WO W=>?_;refine(jm) gh W.b0<|?_;rw [z];exact⟨rfl,(St.cg W)⟩
theorem l7(ht:jM prog A w) (d:ao aa) (hi:i<aa.length) (hr:ee B w a r c aa) (hl:Strs C w a2 r2 e2 ai) (hsz:∀s∈ai,s.size≤1000):CR prog 210 #[.slice a r c,(aH aa (i:Int)).val,.slice a2 r2 e2] w ((cm aa (aH aa (i:Int)) ai).val):=by
 have j:=d.len;have g:=dn hi (by omega);refine enter func210 rfl ntmps210 rfl<|?_;have aO:=St.s0 w;refine(dr) aO fun b4 w1 m o st1=>?_;refine(ft) st1 fun p w2 q t st2=>?_;refine(bj) ak st2.b1<|?_;refine WL.c1 (u:=.bool true) (kZ (k:=aH aa (i:Int))) (by rw [show(decide ((aH aa (i:Int)).kind=31) || decide ((aH aa (i:Int)).kind=32))=true by(rw [g];split <;> simp)]) st2 fun w3 v b=>?_;refine ct ?_;refine WC.te rfl<|(bj) ak b.b1<|(eZ) (yh (ht.ext (St.cg b)) d hi (hr.ext (St.cg b)) (hl.ext (St.cg b)) hsz) b fun w4 y h=>?_;refine(dh) fe h fun w5 z D e=>?_;refine(jm) gh e.b0<|?_;exact⟨rfl,(St.cg e)⟩
theorem nJ(hk:k.kind=32):CR prog 208 #[k.val] w (.string ⟨#[48]⟩):=by
 refine enter func208 rfl ntmps208 rfl<|?_;have aO:=St.s0 w;refine(dr) aO fun b1 w1 b d st1=>?_;refine(bp) aK st1.b0<|(aP) (fun g3=>?_) fun g3=>?_
 ·
  skip
  refine(bF) ?_;exact⟨rfl,(St.cg st1)⟩
 exact absurd g3 (by simp [hk])
theorem sK(hi:i<aa.length) (gR:i≤99) (hr:ee B w a r c aa):CR prog 86 #[.slice a r c,(aH aa (i:Int)).val] w (.bool true):=by
 have g:=dn hi gR
 have j:(aH aa (i:Int)).text=itoa i:=by unfold aH;rw [if_neg (by omega)]
 have o:30≤(aH aa (i:Int)).kind∧(aH aa (i:Int)).kind≤32:=by rw [g];split <;> omega
 refine enter func86 rfl ntmps86 rfl<|?_;have aO:=St.s0 w;refine(dr) aO fun b3 w1 t y st1=>?_;refine cB ?_;have z:=st1.bG;refine WC.cJ (m:=12) (E:=bS [(1,fun v _=>v=.bool true),(4,fun v _=>v=.bool true),(9,fun v _=>v=.int .i64 (i:Int)),(10,fun v _=>v=(aH aa (i:Int)).val)]) st1 (aU (⟨fun _ _ _ _ _ _ _ h=>h,⟨fun _ _ _ _ _ _ _ h=>h,⟨fun _ _ _ _ _ _ _ h=>h,⟨fun _ _ _ _ _ _ _ h=>h,trivial⟩⟩⟩⟩)) mixed (by kernel_rfl)<|(fk) ak St.g0<|?_;refine DW.c0 (fun d b e=>fD (k:=aH aa (i:Int)) o j gR)<|(fk) ak St.g0<|?_;refine DW.c1 (u:=.bool true) (fun d b e=>kZ (k:=aH aa (i:Int))) (by rw [show(decide ((aH aa (i:Int)).kind=31) || decide ((aH aa (i:Int)).kind=32))=true by(rw [g];split <;> simp)])<|(fk) ak St.g0<|?_;refine DW.c0 (fun d b e=>jl (k:=aH aa (i:Int)) o j gR)<|?_;refine DW.c0 (fun d b e=>lD (n:=(i:Int)) (hr.ext (St.cg b.2)))<|(fk) ak St.g0<|(cy)<|?_;rintro w2 ⟨D,st2⟩ ⟨_,⟨_,⟨_,⟨_,_⟩⟩⟩⟩;refine WP .r (PV.yR ek (p:=aH aa (i:Int)) (q:=aH aa (i:Int)) rfl rfl)<|(bF) ?_;exact⟨by simp,(St.cg st2)⟩
set_option maxHeartbeats 400000
theorem l8{xs:List Key}(m:St w M Z w []) (hl:Rd RR.key 2 Z w a n c xs) (q:xs.length≤1000000):Calls prog 157 #[.slice a n c] w fun e w'=>∃d g h,e=.returned (.slice d g h)∧St w M Z w' [As.os RR.key 39 2 d g h xs]:=by
 have hlen:=hl.len;refine enter func157 rfl ntmps157 rfl<|?_;have aO:=m;have st1:=aO.fr hl;refine(aP) (fun g4=>?_) fun g4=>?_
 ·
  simp at g4
  subst g4;have b:=hl.qp;subst b;have st2:=st1.fY RR.key 39 2;refine(bF) ?_;exact⟨none,0,0,rfl,st2.p1.drop⟩
 refine cB ?_;refine WL.go rfl (OX.uM IA U1 rfl fun b5 w1 j o=>?_);have st2:=St.lE (R:=RR.key) (E:=39) (k:=2) (a:=some ⟨b5,0,none⟩) (n:=0) (c:=0) (xs:=[]) st1 j.ext (OR.JJ o (Nat.zero_le _)) (fun x b=>by simp [bl] at b;subst b;exact j.ge);refine nx ?_;refine WL.ap rfl rfl st2 ((As.gr st2.g1)) fun t u w2 v y p=>?_;refine(bF) ?_;exact⟨_,_,_,rfl,p.p1.drop⟩
theorem sL{xs:List Rec}(m:St w M Z w []) (hl:Rd RR.e8 8 Z w a n c xs) (q:xs.length≤1000000):Calls prog 155 #[.slice a n c] w fun e w'=>∃d g h,e=.returned (.slice d g h)∧St w M Z w' [As.os RR.e8 48 8 d g h xs]:=by
 have hlen:=hl.len;refine enter func155 rfl ntmps155 rfl<|?_;have aO:=m;have st1:=aO.fr hl;refine(aP) (fun g4=>?_) fun g4=>?_
 ·
  simp at g4
  subst g4;have b:=hl.qp;subst b;have st2:=st1.fY RR.e8 48 8;refine(bF) ?_;exact⟨none,0,0,rfl,st2.p1.drop⟩
 refine cB ?_;refine WL.go rfl (OX.uM Iz U2 rfl fun b5 w1 j o=>?_);have st2:=St.lE (R:=RR.e8) (E:=48) (k:=8) (a:=some ⟨b5,0,none⟩) (n:=0) (c:=0) (xs:=[]) st1 j.ext (OR.JJ o (Nat.zero_le _)) (fun x b=>by simp [bl] at b;subst b;exact j.ge);refine nx ?_;refine WL.ap rfl rfl st2 ((As.gr st2.g1)) fun t u w2 v y p=>?_;refine(bF) ?_;exact⟨_,_,_,rfl,p.p1.drop⟩
theorem sM{xs:List ca}(m:St w M Z w []) (hl:Rd RR.aC 4 Z w a n c xs) (q:xs.length≤1000000):Calls prog 128 #[.slice a n c] w fun e w'=>∃d g h,e=.returned (.slice d g h)∧St w M Z w' [As.os RR.aC 102 4 d g h xs]:=by
 have hlen:=hl.len;refine enter func128 rfl ntmps128 rfl<|?_;have aO:=m;have st1:=aO.fr hl;refine(aP) (fun g4=>?_) fun g4=>?_
 ·
  simp at g4
  subst g4;have b:=hl.qp;subst b;have st2:=st1.fY RR.aC 102 4;refine(bF) ?_;exact⟨none,0,0,rfl,st2.p1.drop⟩
 refine cB ?_;refine WL.go rfl (OX.uM Iy Pc rfl fun b5 w1 j o=>?_);have st2:=St.lE (R:=RR.aC) (E:=102) (k:=4) (a:=some ⟨b5,0,none⟩) (n:=0) (c:=0) (xs:=[]) st1 j.ext (OR.JJ o (Nat.zero_le _)) (fun x b=>by simp [bl] at b;subst b;exact j.ge);refine nx ?_;refine WL.ap rfl rfl st2 ((As.gr st2.g1)) fun t u w2 v y p=>?_;refine(bF) ?_;exact⟨_,_,_,rfl,p.p1.drop⟩
theorem Av{x:Rec}(p:St w M Z w []) (hk:Rd RR.key 2 Z w a n c x.reads) (u:x.reads.length≤4000):Calls prog 156 #[.agg (x.row a n c).toArray] w fun e w'=>∃d g h,e=.returned (.agg (x.row d g h).toArray)∧St w M Z w' [As.os RR.key 39 2 d g h x.reads]:=by
 refine enter func156 rfl ntmps156 rfl<|?_;have aO:=p;have st1:=aO.fr hk;refine(dr) st1 fun b1 w1 v y st2=>?_;refine(ft) st2 fun b2 w2 z D j=>?_;refine(bp) gw j.b1<|?_;have b:=j;refine(cA) II (l8 b.e0 (As.gr b.g2) (by omega)) ?_;rintro _ w3 ⟨f1,f2,f3,rfl,q⟩;have t:=St.lr b q;refine nx ?_;refine WL.s1 t.p2 fun w4 _ m=>?_;refine(bj) dC m.b0<|(dh) fA m.p2 fun w5 E F o=>?_;refine(jm) dC o.b0<|?_;exact⟨_,_,_,rfl,o.p2.k1⟩
theorem sO{p:Rec→Bool}(g:CF prog f) (hl:Rd RR.e8 8 Z w a n c l) (m:∀w1,aJ [] w w1→∀x∈l,∀a n c,Rd RR.key 2 Z w1 a n c x.reads→Calls prog f #[.agg (x.row a n c).toArray,cap] w1 fun e w'=>e=.returned (.bool (p x))∧aJ [] w1 w'):Calls prog 151 #[.slice a n c,.func (.func f) #[] #[cap]] w fun e w'=>∃j:Int,e=.returned (.int .i64 j)∧tH l p j∧aJ [] w w':=by
 have hlen:=hl.len;have hle:=hl.le;refine enter func151 rfl ntmps151 rfl<|?_;have aO:=St.s0 w;refine aN ?_;refine bP ?_;refine WC.br (σ:=Nat) (cT:=fun i=>[(0,.slice a n c),(1,.func (.func f) #[] #[cap]),(7,.int .i64 (n:Int)),(8,.int .i64 (i:Int))]) (F:=fun i=>[]) (I:=fun i=>(i≤n)∧(∀j x,j<i→l[j]?=some x→p x=false)∧True) (μ:=fun i=>n - i) (0) (aO) Sub.t (⟨by omega,fun j x h=>by omega,trivial⟩)<|?_;rintro i w1 st1 ⟨hi,b,_⟩;simp only [CA,NA] at st1 hi b ⊢;refine(aP) (fun g9=>?_) fun g9=>?_
 ·
  simp at g9
  have d:i<l.length:=by omega
  refine na ?_;obtain⟨E,G,H,o,J,q,u,K⟩:=Rd.at hl d;obtain⟨q1,L,N,rfl,v,O⟩:=q;refine cB ?_;refine WP .r (PV.dM iG o rfl rfl (by omega))<|(bj) dC (aR u (St.cg st1) (by simp))<|?_;refine WL.go rfl (OX.mS g rfl rfl rfl ((Calls.cap (m _ (St.cg st1) l[i] (List.getElem_mem d) _ _ _ (v.ext (St.cg st1)))).mono ?_));rintro _ w2 ⟨rfl,s2⟩;refine⟨_,rfl,?_⟩;have st2:=st1.step s2;refine(aP) (fun g16=>?_) fun g16=>?_
  ·
   refine(bF) ?_;exact⟨_,rfl,.inl ⟨i,_,ae d,g16,b,rfl⟩,(St.cg st2)⟩
  have g16:p l[i]=false:=by simpa using g16
  refine eL ?_;refine dX (i+1) ⟨st2,⟨by omega,cn d b (by simpa using g16),trivial⟩⟩
 simp at g9
 have y:∀x∈l,p x=false:=fun x z=>by obtain⟨j,D,rfl⟩:=List.getElem_of_mem z;exact b j _ (by omega) (ae D)
 refine(bF) ?_;exact⟨_,rfl,.inr ⟨y,rfl⟩,(St.cg st1)⟩
theorem oA{p:Rec→Bool}(d:CF prog f) (hl:Rd RR.e8 8 Z w a n c l) (g:∀w1,aJ [] w w1→∀x∈l,∀a n c,Rd RR.key 2 Z w1 a n c x.reads→Calls prog f #[.agg (x.row a n c).toArray,cap] w1 fun e w'=>e=.returned (.bool (p x))∧aJ [] w1 w') (h:∀x∈l,p x=false):CR prog 121 #[.slice a n c,.func (.func f) #[] #[cap]] w (.bool false):=by
 refine enter func121 rfl ntmps121 rfl<|?_;have aO:=St.s0 w;refine(cA) Qf (sO (w:=w) d (hl.ext (St.cg aO)) (fun w1 h1=>g w1 (aJ.trans (St.cg aO) h1))) ?_;rintro _ w1 ⟨j,rfl,m,s1⟩;have st1:=aO.step s1
 have o:j = -1:=by rcases m with⟨i,x,h1,b,_⟩ | ⟨_,b⟩;exact absurd b (by simp [h x (List.mem_of_getElem? h1)]);exact b
 subst o;refine(bF) ?_;exact⟨by simp,(St.cg st1)⟩
theorem sP{l:List Key}(hl:Rd RR.key 2 Z w a n c l):Calls prog 68 #[.slice a n c,k.val] w fun e w'=>((k∈l∧∃i:Nat,e=.returned (.int .i64 (i:Int)))∨(k∉l∧e=.returned (.int .i64 (-1))))∧aJ [] w w':=by
 have hlen:=hl.len;have hle:=hl.le;refine enter func68 rfl ntmps68 rfl<|?_;have aO:=St.s0 w;refine(dr) aO fun b3 w1 E G st1=>?_;refine aN ?_;refine WC.br (σ:=Nat) (cT:=fun i=>[(0,.slice a n c),(3,.pointer (some ⟨b3,0,none⟩)),(7,.int .i64 (n:Int)),(8,.int .i64 (i:Int))]) (F:=fun i=>[]) (I:=fun i=>(i≤n)∧(∀j x,j<i→l[j]?=some x→x≠k)∧True) (μ:=fun i=>n - i) (0) (st1) Sub.t (⟨by omega,fun j x h=>by omega,trivial⟩)<|?_;rintro i w2 st2 ⟨hi,b,_⟩;simp only [CA,NA] at st2 hi b ⊢;refine(aP) (fun g9=>?_) fun g9=>?_
 ·
  simp at g9
  have d:i<l.length:=by omega
  refine na ?_;obtain⟨H,J,K,v,L,g,y,N⟩:=Rd.at hl d;have g:=RR.bX g;subst g;have O:=st2.bG;refine WC.dS (m:=5) st2 mixed<|(fk) ak St.g0<|bP ?_;refine DP .r (fun _ o=>PV.dM dL v rfl rfl (by omega))<|DP .r (fun _ o=>VA ak (aR y (St.cg o.2) (by simp)) .r)<|(cy)<|?_;rintro w3 ⟨P,u⟩ _;refine WP .r (PV.yR ek (p:=k) (q:=l[i]) rfl rfl)<|(aP) (fun g16=>?_) fun g16=>?_
  ·
   simp at g16
   refine(bF) ?_;exact⟨.inl ⟨g16 ▸ List.getElem_mem d,i,rfl⟩,(St.cg u)⟩
  simp at g16
  refine eL ?_;refine dX (i+1) ⟨u,⟨by omega,cn d b (fun e=>g16 e.symm),trivial⟩⟩
 simp at g9
 have z:k∉l:=fun hm=>by obtain⟨j,D,h⟩:=List.getElem_of_mem hm;exact b j _ (by omega) (ae D) h
 refine(bF) ?_;exact⟨.inr ⟨z,rfl⟩,(St.cg st2)⟩
theorem jI{l:List Key}(hl:Rd RR.key 2 Z w a n c l):CR prog 40 #[.slice a n c,k.val] w (.bool (decide (k∈l))):=by
 refine enter func40 rfl ntmps40 rfl<|?_;have aO:=St.s0 w;refine(dr) aO fun b3 w1 m o st1=>?_;refine(bj) ak st1.b0<|(cA) Vz ((sP (k:=k) (w:=w1) (hl.ext (St.cg st1))).mono (fun e d h=>show ∃j:Int,e=.returned (.int .i64 j)∧decide (0≤j)=decide (k∈l)∧aJ [] w1 d from by rcases h.1 with⟨h1,i,b⟩ | ⟨h1,b⟩;exact⟨i,b,by simp [h1],h.2⟩;exact⟨-1,b,by simp [h1],h.2⟩)) ?_;rintro _ w2 ⟨j,rfl,g,s2⟩;have st2:=st1.step s2;refine(bF) ?_;exact⟨by rw [g],(St.cg st2)⟩
theorem vD(G:St w M Z w []) (hl:Rd RR.e8 8 Z w a n c l) (H:l.length≤1000000):Calls prog 129 #[.slice a n c] w fun e w'=>∃q u v Z',e=.returned (.slice q u v)∧dV w.heap.size Z Z'∧St w M Z' w' [As.os RR.e8 48 8 q u v l]:=by
 have hlen:=hl.len;have hle:=hl.le;refine enter func129 rfl ntmps129 rfl<|?_;have aO:=G;have st1:=aO.fr hl;refine jx ?_;have st2:=st1;refine(cA) Qh (sL st2.e0 (As.gr st2.g0) H) ?_;rintro _ w1 ⟨f1,f2,f3,rfl,J⟩;have y:=St.lr st2 J;have Y:=((As.gs y.g0)).len;refine aN ?_;refine WC.jv (σ:=Nat × (Nat→Prop)) (cT:=fun(i,b)=>[(3,.slice f1 f2 f3),(8,.slice f1 f2 f3),(9,.int .i64 (f2:Int)),(10,.int .i64 (i:Int))]) (F:=fun(i,b)=>[As.os RR.e8 48 8 f1 f2 f3 l]) (I:=fun(i,b)=>(i≤f2)∧(dV w.heap.size Z b)∧True) (μ:=fun(i,b)=>f2 - i) (Zf:=fun(i,b)=>b) (0,Z) (y) Sub.t (⟨by omega,dV.refl _ _,trivial⟩)<|?_;rintro⟨i,b⟩ w2 d ⟨hi,j,_⟩;simp only [CA,NA] at d hi j ⊢;refine(aP) (fun g11=>?_) fun g11=>?_
 ·
  simp at g11
  have m:i<l.length:=by omega
  refine cW ?_;obtain⟨jf,mF,o,iB,K,L⟩:=Ow.at (As.gs d.g0) (by omega) (ae m);obtain⟨q1,q2,q3,rfl,N,z⟩:=K;have O:=d.fr (N);refine bP ?_;refine WP .r (PV.dM iG o rfl rfl (by omega))<|(bj) dC L<|(ft) O fun b5 w3 Nj Lm P=>?_;refine(dh) fA P fun w4 l4 mK D=>?_;refine(bj) dC D.b0<|?_;have g:=D;refine(cA) Qi (Av g.e0 (As.gr g.g1) z) ?_;rintro _ w5 ⟨e1,e2,Q,rfl,E⟩;have R:=St.lr g E;have S:=St.dw E;have hsz:=g.size;have p:=R.dZ (by omega);have T:=j.trans (dV.nR (F:=fun x=>x∈bl e1) S) hsz;refine WP .r (PV.dM iG o rfl rfl (by omega))<|?_;refine WL.go rfl (OX.Jy (i:=i) fA (As.gs p.g3) o m rfl rfl rfl (Rec.one _ _ _ _) l[i] ⟨e1,e2,Q,rfl,(As.gr p.g0),z⟩ fun w6 U V=>?_);have W:=p.p3.mX U V (fun x h=>.inl h);have X:=W.Jx (List.set_getElem_self m);refine eL ?_;refine dX (i+1,_) ⟨X.p4.p1.k2,⟨by omega,T,trivial⟩⟩
 refine(bF) ?_;exact⟨_,_,_,_,rfl,j,d.p1.drop⟩
theorem rT(G:St w M Z w []) (hi:Rd RR.aC 4 Z w a1 n1 e1 x.ab) (hr:Rd RR.e8 8 Z w a2 n2 e2 x.ah) (H:x.ah.length≤1000000) (I:x.ab.length≤1000000):Calls prog 87 #[.agg (x.row a1 n1 e1 a2 n2 e2).toArray] w fun e w'=>∃g h j o p q Z',e=.returned (.agg (x.row g h j o p q).toArray)∧dV w.heap.size Z Z'∧St w M Z' w' [As.os RR.aC 102 4 g h j x.ab,As.os RR.e8 48 8 o p q x.ah]:=by
 refine enter func87 rfl ntmps87 rfl<|?_;have aO:=G;have st1:=aO.fr hi;have st2:=st1.fr hr;refine(dr) st2 fun b1 w1 Q R J=>?_;refine(ft) J fun b2 w2 S T K=>?_;refine ct ?_;refine WC.dx (m:=7) [] [2,5] [0,1,2,3,4,5,6] [] K (av.k4 M0 M1 M2 M3<|av.nil) mixed (by kernel_rfl) (by kernel_rfl) rfl<|(JK) jD SV.g1<|(iF) (fun w3 U V t W=>?_);simp only [CA,NA] at t;have d:=t;refine OX.call P2 rfl rfl ((sM d.e0 (As.gr d.g3) I).mono ?_);rintro _ w4 ⟨f1,f2,f3,rfl,u⟩;have L:=St.lr d u;refine⟨_,rfl,u.bR.size,_,rfl,_,_,_,L,aG.k4<|aG.cons<|aG.nil,av.k4 M1 M2 M3 M4<|av.nil,?_⟩;refine(JK) el SV.g1<|(iF) (fun w5 X Y v uq=>?_);simp only [CA,NA] at v;have b:=v;refine OX.call P3 rfl rfl ((vD b.e0 (As.gr b.g3) H).mono ?_);rintro _ w6 ⟨f4,f5,f6,Z1,rfl,y,z⟩;have N:=St.lv b z y;have O:=y.le b.size;refine⟨_,rfl,z.bR.size,_,rfl,_,_,_,N,aG.k4<|aG.k2<|aG.nil,av.k4 M2 M3 M4 M5<|av.nil,?_⟩;refine(pS) ?_;intro w7 Ag D;simp only [CM,NM,CA,NA,ky.it] at D;refine WL.s1 D.p3 fun w8 _ P=>?_;refine nx ?_;refine WL.s1 P fun w9 _ E=>?_;refine WL.nil (EX.np ?_);refine(bj) bz E.b0<|(dh) jE E.p3 fun kl l4 mK F=>?_;refine(jm) bz F.b0<|?_;exact⟨_,_,_,_,_,_,_,rfl,O,F.p2.p3.k2⟩
theorem oB{r:Rec}{b:Nat}(hb:bN w b 31 (x.row a1 n1 e1 a2 n2 e2)):CR prog 122 #[.agg (r.row a n c).toArray,.pointer (some ⟨b,0,none⟩)] w (.bool (decide (x.ad<r.aq))):=by
 refine enter func122 rfl ntmps122 rfl<|?_;have aO:=St.s0 w;refine(dr) aO fun b2 w1 d e st1=>?_;refine(bp) aK st1.b0<|(bp) aK (bN.range (hb.ext (St.cg st1)))<|(bF) ?_;exact⟨rfl,(St.cg st1)⟩
set_option maxHeartbeats 400000
theorem sR{l:List ca}{p:ca→Bool}(m:CF prog f) (hl:Rd RR.aC 4 Z w a n c l) (o:∀w1,aJ [] w w1→∀x∈l,Calls prog f #[.agg x.cells.toArray,cap] w1 fun e w'=>e=.returned (.bool (p x))∧aJ [] w1 w'):Calls prog 206 #[.slice a n c,.func (.func f) #[] #[cap]] w fun e w'=>∃j:Int,e=.returned (.int .i64 j)∧tH l p j∧aJ [] w w':=by
 have hlen:=hl.len;have hle:=hl.le;refine enter func206 rfl ntmps206 rfl<|?_;have aO:=St.s0 w;refine aN ?_;refine bP ?_;refine WC.br (σ:=Nat) (cT:=fun i=>[(0,.slice a n c),(1,.func (.func f) #[] #[cap]),(7,.int .i64 (n:Int)),(8,.int .i64 (i:Int))]) (F:=fun i=>[]) (I:=fun i=>(i≤n)∧(∀j x,j<i→l[j]?=some x→p x=false)∧True) (μ:=fun i=>n - i) (0) (aO) Sub.t (⟨by omega,fun j x h=>by omega,trivial⟩)<|?_;rintro i w1 st1 ⟨hi,b,_⟩;simp only [CA,NA] at st1 hi b ⊢;refine(aP) (fun g9=>?_) fun g9=>?_
 ·
  simp at g9
  have d:i<l.length:=by omega
  refine na ?_;obtain⟨D,E,G,q,H,g,u,J⟩:=Rd.at hl d;have g:=RR.bX g;subst g;refine cB ?_;refine WP .r (PV.dM pF q rfl rfl (by omega))<|(bj) hI (aR u (St.cg st1) (by simp))<|?_;refine WL.go rfl (OX.mS m rfl rfl rfl ((Calls.cap (o _ (St.cg st1) l[i] (List.getElem_mem d))).mono ?_));rintro _ w2 ⟨rfl,s2⟩;refine⟨_,rfl,?_⟩;have st2:=st1.step s2;refine(aP) (fun g16=>?_) fun g16=>?_
  ·
   refine(bF) ?_;exact⟨_,rfl,.inl ⟨i,_,ae d,g16,b,rfl⟩,(St.cg st2)⟩
  have g16:p l[i]=false:=by simpa using g16
  refine eL ?_;refine dX (i+1) ⟨st2,⟨by omega,cn d b (by simpa using g16),trivial⟩⟩
 simp at g9
 have v:∀x∈l,p x=false:=fun x y=>by obtain⟨j,z,rfl⟩:=List.getElem_of_mem y;exact b j _ (by omega) (ae z)
 refine(bF) ?_;exact⟨_,rfl,.inr ⟨v,rfl⟩,(St.cg st1)⟩
theorem sS{x:ca}{bk:Nat}(hb:bN w bk 39 k.cells):CR prog 207 #[.agg x.cells.toArray,.pointer (some ⟨bk,0,none⟩)] w (.bool (decide (x.key=k))):=by
 refine enter func207 rfl ntmps207 rfl<|?_;have aO:=St.s0 w;refine(dr) aO fun b2 w1 b d st1=>?_;refine(jJ) ak st1.b0<|(bj) ak (bN.range (hb.ext (St.cg st1)))<|?_;refine WP .r (PV.yR ek (p:=x.key) (q:=k) rfl rfl)<|(bF) ?_;exact⟨rfl,(St.cg st1)⟩
theorem nK(hi:Rd RR.aC 4 Z w a1 n1 e1 x.ab):Calls prog 161 #[.agg (x.row a1 n1 e1 a2 n2 e2).toArray,k.val] w fun e w'=>∃y:ca,e=.returned (.agg y.cells.toArray)∧y.value=(bw x.ab k).value∧y.changed=(bw x.ab k).changed∧aJ [] w w':=by
 have hlen:=hi.len;have hle:=hi.le;refine enter func161 rfl ntmps161 rfl<|?_;have aO:=St.s0 w;refine(dr) aO fun b2 w1 K L st1=>?_;refine(dr) st1 fun b3 w2 N O st2=>?_;refine(ft) st2 fun b4 w3 P Q m=>?_;refine(bp) jD m.b2<|?_;refine WP .r (PV.func (us:=[]) (vs:=[.pointer (some ⟨b3,0,none⟩)]) rfl rfl)<|(cA) Qv (sR (p:=fun x=>decide (x.key=k)) Qw (hi.ext (St.cg m)) (fun w1 h1 y _=>sS ((As.gb m.g1).ext h1))) ?_;rintro _ w4 ⟨j,rfl,o,v⟩;have q:=m.step v;refine(aP) (fun g11=>?_) fun g11=>?_
 ·
  simp at g11
  have z:∀y∈x.ab,(decide (y.key=k))=false:=by rcases o with⟨i,y,_,_,_,h⟩ | ⟨h,_⟩;omega;exact h
  have b:x.ab.find? (fun x=>x.key == k)=none:=mU (i:=x.ab.length) (Nat.le_refl _) (fun j x _ d=>by simpa using z x (List.mem_of_getElem? d));refine(dh) oZ q fun w5 R S g=>?_;refine(jm) hI g.b0<|?_;exact⟨⟨aW,⟨#[]⟩,0⟩,rfl,by unfold bw;rw [b];rfl,by unfold bw;rw [b];rfl,(St.cg g)⟩
 simp at g11
 obtain⟨i,y,d,D,E,rfl⟩:∃i:Nat,∃y,x.ab[i]?=some y∧decide (y.key=k)=true∧(∀j y,j<i→x.ab[j]?=some y→(y.key == k)=false)∧j=i:=by
  rcases o with⟨i,y,h1,F,G,H⟩ | ⟨_,h⟩
  ·
   exact⟨i,y,h1,F,fun j y o d=>by simpa using G j y o d,H⟩
  omega
 obtain⟨u,rfl⟩:=List.getElem?_eq_some_iff.1 d;have b:x.ab.find? (fun x=>x.key == k)=some x.ab[i]:=gN u E (by simpa using D);refine ct ?_;obtain⟨T,U,V,I,W,t,J,X⟩:=Rd.at hi u;have t:=RR.bX t;subst t;refine(bp) jD q.b2<|nx ?_;refine WP .r (PV.dM pF I rfl rfl (by omega))<|(bj) hI (aR J (St.cg q) (by simp))<|(dh) oZ q fun w5 Y nZ g=>?_;refine(jm) hI g.b0<|?_;exact⟨x.ab[i],rfl,by unfold bw;rw [b];rfl,by unfold bw;rw [b];rfl,(St.cg g)⟩
theorem yj(hi:Rd RR.aC 4 Z w a1 n1 e1 x.ab) (hr:Rd RR.e8 8 Z w a2 n2 e2 x.ah):CR prog 162 #[.agg (x.row a1 n1 e1 a2 n2 e2).toArray,k.val] w (.string (bw x.ab k).value):=by
 refine enter func162 rfl ntmps162 rfl<|?_;have aO:=St.s0 w;refine(dr) aO fun b2 w1 e g st1=>?_;refine(dr) st1 fun b3 w2 h j st2=>?_;refine(bj) bz st2.b1<|(bj) ak st2.b0<|(cA) IJ (nK (k:=k) (hi.ext (St.cg st2))) ?_;rintro _ w3 ⟨y,rfl,hy,_,b⟩;have d:=st2.step b;refine WP .r (PV.qq (fs:=[_,_,_]) (f:=1) (off:=2) (T:=102) underlying102 rfl rfl (show ∀w,(isAgg 9).run _ w=.ok false w from isAgg9) rfl rfl)<|(bF) ?_;exact⟨by rw [← hy],(St.cg d)⟩
set_option maxHeartbeats 400000
theorem yk{ar:Option Addr}{cr c1 c2:Nat}(b:St w M Z w []):Calls prog 88 #[.slice ar r cr,.agg (x.row a1 n1 c1 a2 n2 c2).toArray] w fun e w'=>∃s m q,e=.returned (.pointer (some ⟨s,0,none⟩))∧St w M Z w' [As.blk s 184 (SD.cells ⟨ar,a1,a2,r,cr,n1,c1,n2,c2,m,q,s⟩ x),As.map Key.val m [],As.map Key.val q []]:=by
 refine enter func88 rfl ntmps88 rfl<|?_;have aO:=b;refine(dr) aO fun b3 w1 o p st1=>?_;refine(bj) bz st1.b0<|?_;refine WL.mm Key.val st1 fun d w2 t u st2=>?_;refine WL.mm Key.val st2 fun g w3 v y h=>?_;refine WP .r (PV.aY (us:=(SD.cells ⟨ar,a1,a2,r,cr,n1,c1,n2,c2,d,g,0⟩ x)) Pa rfl rfl rfl)<|(dr) h fun z w4 D E j=>?_;refine(bF) ?_;exact⟨_,_,_,rfl,j.p3.drop.p2.p1⟩
end Go.Rc

