/- Walks over the program, part WP. Conditions: as each theorem says. -/
import Derived.Test.YtilldnlhckpbjaaGreatDoorEFacts
import Derived.Test.YtilldnlhckpbjaaGreatDoorEWLibE
import Derived.Test.YtilldnlhckpbjaaGreatDoorEBe
import Derived.Test.YtilldnlhckpbjaaGreatDoorEBd
import Derived.Test.YtilldnlhckpbjaaGreatDoorEWF
import Derived.Test.YtilldnlhckpbjaaGreatDoorEBf
set_option linter.all false
namespace Go.Rc
open Go Go.Proofs Go.Proofs.Tryz
variable {n r c i r2 e2 n1 e1 n2:Nat}{w:World}{aa:List aD}{A B C M Z:Nat→Prop}{a a2 a1:Option Addr}{k:Key}{s:ByteArray}{l:List Rec}{ai:List ByteArray}{x:cW}{f:FuncId}{cap:Value}
set_option maxHeartbeats 400000
theorem pL{n:Int} :CR prog 196 #[.int .i64 n] w ((bz n).val):=by
 refine enter func196 rfl ntmps196 rfl<|?_;have aR:=St.s0 w;refine(fy) aR fun b2 w1 e g st1=>?_;refine cD ?_;refine WC.dz (t:=8) (v:=.bool (decide (n<0) || decide (99<n))) st1 ?_<|?_
 ·
  refine(cG) (fun g5=>?_) (fun g5=>?_)
  ·
   exact(bY) (by simp only [g5];first | rfl | simp) (st1)
  exact(bY) (by simp only [g5];first | rfl | simp) (st1)
 intro w2 st2;refine(aT) (fun g8=>?_) fun g8=>?_
 ·
  have hk:bz n=bO:=by unfold bz;rw [if_pos (by simp at g8;omega)]
  refine(dw) fW st2 fun w3 h j b=>?_;refine(jt) ak b.b0<|?_;rw [hk];exact⟨rfl,(St.cg b)⟩
 simp at g8
 have hk:bz n=⟨30,itoa n⟩:=by unfold bz;rw [if_neg (by omega)]
 refine(fw) (gF (n:=n) (by omega) (by omega) w2) st2 fun w3 m b=>?_;refine WP .r (PV.br (us:=[.int .i64 30,.string (itoa n)]) vy rfl rfl rfl)<|(dw) fW b fun w4 o p d=>?_;refine(jt) ak d.b0<|?_;rw [hk];exact⟨rfl,(St.cg d)⟩
theorem vX{n:Int}(hr:eE A w a r c aa):CR prog 191 #[.slice a r c,.int .i64 n] w (.tuple #[.int .i64 (block aa n).1,.int .i64 (block aa n).2]):=by
 have hle:=hr.le;have hlen:=hr.len;refine enter func191 rfl ntmps191 rfl<|?_;have aR:=St.s0 w;refine jg ?_;refine WC.dz (t:=15) (v:=.bool (decide (n<0) || decide ((r:Int)≤n))) aR ?_<|?_
 ·
  refine(cG) (fun g10=>?_) (fun g10=>?_)
  ·
   exact(bY) (by simp only [g10];first | rfl | simp) (aR)
  exact(bY) (by simp only [g10];first | rfl | simp) (aR)
 intro w1 st1;refine(aT) (fun g15=>?_) fun g15=>?_
 ·
  have hb:=tQ aa n (by simp at g15;omega);refine(tV) ?_;exact⟨by rw [hb],(St.cg st1)⟩
 obtain⟨b,rfl⟩:∃i:Nat,n=i:=⟨n.toNat,by simp at g15;omega⟩
 have o:b<aa.length:=by simp at g15;omega
 have h:block aa b=if ax aa b then ((ba aa b:Int),(cU aa (b+1):Int)) else ((b:Int),(b:Int)+1):=by
  unfold block;rw [if_neg (by omega)];rfl
 refine aQ ?_;refine nx ?_;obtain⟨X,Y,r_x,H,_,⟨q1,q2,q3,rfl,_⟩,J,_⟩:=(hr.ext (St.cg st1)).at (ae o);refine cq ?_;refine WP .r (PV.dO gT H rfl rfl (by omega))<|nx ?_;refine WP .r (PV.ld1 (j:=0) dm J rfl rfl)<|(aT) (fun g24=>?_) fun g24=>?_
 ·
  simp at g24
  have hb:block aa b=((b:Int),(b:Int)+1):=by rw [h,if_neg (by rw [bE o,g24];simp)]
  refine(tV) ?_;exact⟨by rw [hb],(St.cg st1)⟩
 simp at g24
 rw [if_pos (by rw [bE o];exact g24)] at h;refine cD ?_;refine WC.bm (σ:=Nat) (db:=fun k=>[(0,.slice a r c),(6,.int .i64 (k:Int)),(7,.int .i64 ((b:Int)+1))]) (F:=fun k=>[]) (I:=fun k=>(k≤b)∧(ba aa k=ba aa b)∧True) (μ:=fun k=>k) (b) (st1) Sub.t (⟨Nat.le_refl _,rfl,trivial⟩)<|?_;rintro k w2 st2 ⟨hk,p,_⟩;simp only [CA,NA] at st2 hk p ⊢;refine bJ ?_;refine WC.dz (t:=36) (v:=.bool (decide ((0:Int)<k) && ax aa (k - 1))) st2 ?_<|?_
 ·
  refine(cG) (fun q=>?_) (fun q=>?_)
  ·
   simp at q
   obtain⟨b_y,o_y,r_y,K,_,⟨L,N,O,rfl,_⟩,P,_⟩:=(hr.ext (St.cg st2)).at (ae (show k - 1<aa.length by omega));have Gy:aa[k-1].ring=ax aa (k-1):=(bE (by omega)).symm;refine cq ?_;refine WP .r (PV.Dv gT (i:=k - 1) K rfl rfl (by omega) (by omega))<|nx ?_;refine WP .r (PV.ld1 (j:=0) dm P rfl rfl)<|?_;exact(bY) (by simp [*]) (st2)
  simp at q
  have Q:¬(0<k):=by omega
  exact(bY) (by simp [*]) (st2)
 intro w3 z;refine(aT) (fun d=>?_) fun d=>?_
 ·
  simp at d
  obtain⟨g1,g2⟩:=d;obtain⟨j,rfl⟩:∃j,k=j+1:=⟨k - 1,by omega⟩;refine pU ?_;refine eb (j) ⟨z,⟨by omega,by rw [← p,nu (by simpa using g2)],trivial⟩⟩
 simp at d
 have R:(block aa b).1=k:=by
  rw [h]
  show(ba aa b:Int)=k
  rw [← p,o9]
  by_cases h0:k=0
  ·
   exact .inl h0
  exact .inr (d (by omega))
 refine eX ?_;refine WC.bm (σ:=Nat) (db:=fun m=>[(0,.slice a r c),(6,.int .i64 (k:Int)),(7,.int .i64 (m:Int))]) (F:=fun m=>[]) (I:=fun m=>(b+1≤m)∧(m≤r)∧(cU aa m=cU aa (b+1))∧True) (μ:=fun m=>r - m) (b+1) (z) Sub.t (⟨Nat.le_refl _,by omega,rfl,trivial⟩)<|?_;rintro m w4 e ⟨S,T,u,_⟩;simp only [CA,NA] at e S T u ⊢;refine bJ ?_;refine WC.dz (t:=49) (v:=.bool (decide ((m:Int)<r) && ax aa m)) e ?_<|?_
 ·
  refine(cG) (fun y=>?_) (fun y=>?_)
  ·
   simp at y
   obtain⟨b_z,o_z,r_z,U,_,⟨L,N,O,rfl,_⟩,V,_⟩:=(hr.ext (St.cg e)).at (ae (show m<aa.length by omega));have D:aa[m].ring=ax aa m:=(bE (by omega)).symm
   have E:decide ((m:Int)<r)=true:=by simp;omega
   refine bJ ?_;refine WP .r (PV.dO gT U rfl rfl (by omega))<|nx ?_;refine WP .r (PV.ld1 (j:=0) dm V rfl rfl)<|?_;exact(bY) (by first | (rw [D,E];rfl) | simp [*]) (e)
  simp at y
  have Q:¬(m<aa.length):=by omega
  exact(bY) (by first | (rw [D,E];rfl) | simp [*]) (e)
 intro w5 G;refine(aT) (fun g=>?_) fun g=>?_
 ·
  simp at g
  obtain⟨g3,g4⟩:=g;refine pU ?_;refine eb (m+1) ⟨G,⟨by omega,by omega,by rw [← u,← o8 g4],trivial⟩⟩
 simp at g
 have W:(block aa b).2=m:=by
  rw [h]
  show(cU aa (b+1):Int)=m
  rw [← u,qH]
  rcases Nat.lt_or_ge m r with h0 | h0
  ·
   exact g (by omega)
  exact jR (by omega)
 refine aQ ?_;refine(tV) ?_;exact⟨by rw [R,W],(St.cg G)⟩
theorem na{cell:Bool}{n:Int}(hr:eE A w a r c aa) (hi:i<aa.length):CR prog 149 #[.slice a r c,.int .i64 (i:Int),.bool cell,.int .i64 n] w (.bool (eT aa i cell n)):=by
 have hle:=hr.le;have hlen:=hr.len;have g:=bE hi;have o:=zt hi
 have ht:ep aa i=if aa[i].ring=true then (block aa (i:Int)).2 else (block aa (i:Int)).1:=by unfold ep;rw [g]
 refine enter func149 rfl ntmps149 rfl<|?_;have aR:=St.s0 w;refine(aT) (fun g11=>?_) fun g11=>?_
 ·
  refine nx ?_;refine WC.jf (t:=8) (v:=.bool (decide (0≤n) && decide (n≤15))) aR ?_<|?_
  ·
   refine(cG) (fun g14=>?_) (fun g14=>?_)
   ·
    exact(e8) (by simp only [g14];first | rfl | simp) (aR)
   exact(e8) (by simp only [g14];first | rfl | simp) (aR)
  intro w1 st1;refine(bF) ?_;exact⟨by unfold eT;rw [if_pos g11],(St.cg st1)⟩
 refine(fw) (vX (n:=(i:Int)) (hr.ext (St.cg aR))) aR fun w1 s1 st1=>?_;refine jg ?_;obtain⟨p,q,u,h,_,⟨q1,y,z,rfl,_⟩,m,_⟩:=(hr.ext (St.cg st1)).at (ae hi);refine WC.jf (t:=8) (v:=.bool (decide (0≤n) && decide (n<ep aa i))) st1 ?_<|?_
 ·
  refine(cG) (fun b=>?_) (fun b=>?_)
  ·
   refine(cG) (fun d=>?_) (fun d=>?_)
   ·
    refine aQ ?_;exact(e8) (by rw [ht];first | (simp [b,d];done) | (simp at b d;simp [b,d];done) | (simp at b d ⊢;split <;> omega) | (simp at b d;simp [b,d];omega)) (st1)
   refine bJ ?_;refine WP .r (PV.dO gT h rfl rfl (by omega))<|nx ?_;refine WP .r (PV.ld1 (j:=0) dm m rfl rfl)<|(cG) (fun e=>?_) (fun e=>?_)
   ·
    exact(e8) (by rw [ht];first | (simp [b,d,e];done) | (simp at b d e;simp [b,d,e];done) | (simp at b d e ⊢;split <;> omega) | (simp at b d e;simp [b,d,e];omega)) (st1)
   exact(e8) (by rw [ht];first | (simp [b,d,e];done) | (simp at b d e;simp [b,d,e];done) | (simp at b d e ⊢;split <;> omega) | (simp at b d e;simp [b,d,e];omega)) (st1)
  refine aQ ?_;exact(e8) (by rw [ht];first | (simp [b];done) | (simp at b;simp [b];done) | (simp at b ⊢;split <;> omega) | (simp at b;simp [b];omega)) (st1)
 intro w2 st2;refine(bF) ?_;exact⟨by unfold eT;rw [g11];rfl,(St.cg st2)⟩
theorem n0{k:Nat}{x:Ask}(hr:eE A w a r c aa) (hi:i<aa.length):CR prog 107 #[.slice a r c,.int .i64 (i:Int),x.val,.bool (decide ((k:Int)=0))] w (.bool (dY aa i aa[i].ring k x)):=by
 have hle:=hr.le;have hlen:=hr.len;obtain⟨q,u,y,g,_,⟨q1,z,D,rfl,_⟩,h,_⟩:=hr.at (ae hi);have e:(dY aa i aa[i].ring k x)=(eT aa i x.cell x.n && (if x.pick then !aa[i].ring && decide (k≠0) && eT aa i x.cell x.zd else decide (x.zd=0))):=rfl;rw [e]
 clear e
 have b:decide ((k:Int)=0)=decide (k=0):=by simp
 refine enter func107 rfl ntmps107 rfl<|?_;have aR:=St.s0 w;refine(dy) aR fun E w1 F G st1=>?_;refine df ?_;refine WC.dz (t:=30) (v:=.bool ((x.pick && (aa[i].ring || decide (k=0))) || !eT aa i x.cell x.n)) st1 ?_<|?_
 ·
  refine(bq) dm st1.b0<|(cG) (fun g11=>?_) (fun g11=>?_)
  ·
   refine bJ ?_;refine WP .r (PV.dO gT g rfl rfl (by omega))<|nx ?_;refine WP .r (PV.ld1 (j:=0) dm (aW h (St.cg st1) (by simp)) rfl rfl)<|(cG) (fun g17=>?_) (fun g17=>?_)
   ·
    refine aQ ?_;exact(bY) (by first | (simp only [g11,g17,← b];rfl) | (simp [g11,g17,b];done) | (simp at g11 g17;simp [g11,g17,b];done) | (simp at g11 g17;simp_all;done)) (st1)
   refine(cG) (fun g21=>?_) (fun g21=>?_)
   ·
    exact(bY) (by first | (simp only [g11,g17,g21,← b];rfl) | (simp [g11,g17,g21,b];done) | (simp at g11 g17 g21;simp [g11,g17,g21,b];done) | (simp at g11 g17 g21;simp_all;done)) (st1)
   refine(bq) dm st1.b0<|(bq) aL st1.b0<|(fw) (na (cell:=x.cell) (n:=x.n) (hr.ext (St.cg st1)) hi) st1 fun w2 s2 st2=>?_;exact(bY) (by first | (simp only [g11,g17,g21,← b];rfl) | (simp [g11,g17,g21,b];done) | (simp at g11 g17 g21;simp [g11,g17,g21,b];done) | (simp at g11 g17 g21;simp_all;done)) (st2)
  refine aQ ?_;refine(bq) dm st1.b0<|(bq) aL st1.b0<|(fw) (na (cell:=x.cell) (n:=x.n) (hr.ext (St.cg st1)) hi) st1 fun w2 s2 st2=>?_;exact(bY) (by first | (simp only [g11,← b];rfl) | (simp [g11,b];done) | (simp at g11;simp [g11,b];done) | (simp at g11;simp_all;done)) (st2)
 intro w2 st2;refine(aT) (fun m=>?_) fun m=>?_
 ·
  refine(bF) ?_;exact⟨by cases hm:eT aa i x.cell x.n <;> cases H:x.pick <;> cases o:aa[i].ring <;> by_cases h0:k=0 <;> simp_all,(St.cg st2)⟩
 refine(bq) dm st2.b0<|(aT) (fun d=>?_) fun d=>?_
 ·
  simp at d
  refine(bq) aL st2.b0<|(bF) ?_;exact⟨by cases hm:eT aa i x.cell x.n <;> simp_all,(St.cg st2)⟩
 simp at d
 refine(bq) dm st2.b0<|(bq) aL st2.b0<|(fw) (na (cell:=x.cell) (n:=x.zd) (hr.ext (St.cg st2)) hi) st2 fun w3 I p=>?_;refine(bF) ?_;exact⟨by cases hm:eT aa i x.cell x.n <;> cases o:aa[i].ring <;> by_cases h0:k=0 <;> simp_all,(St.cg p)⟩
theorem ss(hr:eE A w a r c aa) (N:ao aa):CR prog 68 #[.slice a r c] w (.bool true):=by
 have hle:=hr.le;have hlen:=hr.len;have Cs:=N.1;refine enter func68 rfl ntmps68 rfl<|?_;have aR:=St.s0 w;refine aQ ?_;refine(aT) (fun g12=>?_) fun g12=>?_
 ·
  exact et g12
 ·
  refine lV ?_;refine WC.bm (σ:=Nat) (db:=fun i=>[(0,.slice a r c),(13,.slice a r c),(14,.int .i64 (r:Int)),(15,.int .i64 (i:Int))]) (F:=fun i=>[]) (I:=fun i=>(i≤r)∧True) (μ:=fun i=>r - i) (0) (aR) Sub.t (⟨by omega,trivial⟩)<|?_;rintro i w1 st1 ⟨hi,_⟩;simp only [CA,NA] at st1 hi ⊢;refine(aT) (fun g16=>?_) fun g16=>?_
  ·
   simp at g16
   have E:i<aa.length:=by omega
   obtain⟨YD,O,q⟩:=N.2 i _ (ae E)
   unfold fB at q
   obtain⟨b_x,o_x,r_x,Q,_,⟨q1,j,P,rfl,G⟩,R,_⟩:=hr.at (ae E);have uL:=G.len;refine eX ?_;refine WP .r (PV.dO gT Q rfl rfl (by omega))<|(bf) uE (aW R (St.cg st1) (by simp))<|(fy) st1 fun b4 w2 DA IC st2=>?_;refine(dw) CY st2 fun w3 kI nj b=>?_;refine aQ ?_;refine(bq) dm b.b0<|(aT) (fun g21=>?_) fun g21=>?_
   ·
    rw [if_pos g21] at q
    simp at q
    refine jg ?_;refine WC.dz (t:=48) (v:=.bool false) b ?_<|?_
    ·
     refine(bq) iZ b.b0<|(cG) (fun d=>?_) (fun d=>?_)
     ·
      refine aQ ?_;exact(bY) (tG d) (b)
     refine(bq) aL b.b0<|(cG) (fun e=>?_) (fun e=>?_)
     ·
      refine aQ ?_;exact(bY) (tG (aj d e)) (b)
     refine(bq) aL b.b0<|(cG) (fun g=>?_) (fun g=>?_)
     ·
      exact(bY) (tG (aj d<|aj e g)) (b)
     refine(bq) aL b.b0<|(cG) (fun m=>?_) (fun m=>?_)
     ·
      exact(bY) (tG (aj d<|aj e<|aj g m)) (b)
     refine(bq) aL b.b0<|?_;exact(bY) (tG (aj d<|aj e<|aj g m)) (b)
    intro w4 y;refine(aT) (fun z=>?_) fun z=>?_
    ·
     exact et z
    refine(bq) iZ y.b0<|df ?_;refine WC.bm (σ:=Nat) (db:=fun k=>[(0,.slice a r c),(3,.int .i64 (i:Int)),(13,.slice a r c),(14,.int .i64 (r:Int)),(15,.int .i64 (i:Int)),(50,.slice q1 j P),(51,.int .i64 (j:Int)),(52,.int .i64 (k:Int))]) (F:=fun k=>[]) (I:=fun k=>(k≤j)∧True) (μ:=fun k=>j - k) (0) (y) Sub.t (⟨by omega,trivial⟩)<|?_;rintro k w5 h ⟨hk,_⟩;simp only [CA,NA] at h hk ⊢;refine(aT) (fun o=>?_) fun o=>?_
    ·
     simp at o
     have D:k<aa[i].asks.length:=by omega
     obtain⟨S,T,U,H,_,rfl,J,_⟩:=(G.ext (St.cg h)).at (ae D);refine eX ?_;refine WP .r (PV.dO sZ H rfl rfl (by omega))<|(bf) mh J<|(fy) h fun V w6 W X K=>?_;refine(dw) Ae K fun w7 vI oh p=>?_;refine(bf) mh p.b0<|bJ ?_;refine WL.c1 (u:=.bool true) (n0 (k:=k) (x:=aa[i].asks[k]) (hr.ext (St.cg p)) E) (by rw [show dY aa i aa[i].ring k aa[i].asks[k]=true from O k _ (ae D)]) p fun Y s8 L=>?_;refine cq ?_;refine WC.fA rfl<|eX ?_;refine eb (k+1) ⟨L.drop,⟨by omega,trivial⟩⟩
    simp at o
    refine lU ?_;refine eb (i+1) ⟨h.drop,⟨by omega,trivial⟩⟩
   rw [if_neg (by simp [g21])] at q
   simp at q
   refine cD ?_;refine WC.dz (t:=48) (v:=.bool false) b ?_<|?_
   ·
    refine(bq) iZ b.b0<|(cG) (fun d=>?_) (fun d=>?_)
    ·
     refine aQ ?_;exact(bY) (tG d) (b)
    refine(bq) aL b.b0<|(cG) (fun e=>?_) (fun e=>?_)
    ·
     refine aQ ?_;exact(bY) (tG (aj d e)) (b)
    refine(bq) aL b.b0<|(cG) (fun g=>?_) (fun g=>?_)
    ·
     exact(bY) (tG (aj d<|aj e g)) (b)
    refine(bq) aL b.b0<|(cG) (fun m=>?_) (fun m=>?_)
    ·
     exact(bY) (tG (aj d<|aj e<|aj g m)) (b)
    refine(bq) aL b.b0<|?_;exact(bY) (tG (aj d<|aj e<|aj g m)) (b)
   intro w4 y;refine(aT) (fun z=>?_) fun z=>?_
   ·
    exact et z
   refine(bq) iZ y.b0<|df ?_;refine WC.bm (σ:=Nat) (db:=fun k=>[(0,.slice a r c),(3,.int .i64 (i:Int)),(13,.slice a r c),(14,.int .i64 (r:Int)),(15,.int .i64 (i:Int)),(50,.slice q1 j P),(51,.int .i64 (j:Int)),(52,.int .i64 (k:Int))]) (F:=fun k=>[]) (I:=fun k=>(k≤j)∧True) (μ:=fun k=>j - k) (0) (y) Sub.t (⟨by omega,trivial⟩)<|?_;rintro k w5 h ⟨hk,_⟩;simp only [CA,NA] at h hk ⊢;refine(aT) (fun o=>?_) fun o=>?_
   ·
    simp at o
    have D:k<aa[i].asks.length:=by omega
    obtain⟨S,T,U,H,_,rfl,J,_⟩:=(G.ext (St.cg h)).at (ae D);refine eX ?_;refine WP .r (PV.dO sZ H rfl rfl (by omega))<|(bf) mh J<|(fy) h fun V w6 W X K=>?_;refine(dw) Ae K fun w7 C8 yX p=>?_;refine(bf) mh p.b0<|bJ ?_;refine WL.c1 (u:=.bool true) (n0 (k:=k) (x:=aa[i].asks[k]) (hr.ext (St.cg p)) E) (by rw [show dY aa i aa[i].ring k aa[i].asks[k]=true from O k _ (ae D)]) p fun Y s8 L=>?_;refine cq ?_;refine WC.fA rfl<|eX ?_;refine eb (k+1) ⟨L.drop,⟨by omega,trivial⟩⟩
   simp at o
   refine lU ?_;refine eb (i+1) ⟨h.drop,⟨by omega,trivial⟩⟩
  simp at g16
  refine(bF) ?_;exact⟨rfl,(St.cg st1)⟩
 -- vK i7 C63
theorem vY(ht:jM prog A w) (hn:n≤65535):CR prog 195 #[.string (itoa (n:Int))] w (.int .i64 (n:Int)):=by
 refine enter func195 rfl ntmps195 rfl<|?_;have aR:=St.s0 w;refine(fw) (x4 (n:=n) (by omega) w) aR fun w1 s1 st1=>?_;refine pU ?_;refine WC.dz (t:=25) (v:=.bool false) st1 ?_<|?_
 ·
  refine bJ ?_;refine WP .r (PV.Kv vz rfl)<|nx ?_;refine WL.eL (t:=12) rfl (fun g12=>?_) (fun g12=>?_)
  ·
   refine aQ ?_;exact(bY) (tG g12) (st1)
  refine cD ?_;refine WL.eL (t:=16) rfl (fun g16=>?_) (fun g16=>?_)
  ·
   exact(bY) (tG (aj g12 g16)) (st1)
  refine cD ?_;refine WL.eL (t:=20) rfl (fun g20=>?_) (fun g20=>?_)
  ·
   exact(bY) (tG (aj g12<|aj g16 g20)) (st1)
  refine(fw) (kb (n:=(n:Int)) (ht.ext (St.cg st1)) (by omega) (by omega)) st1 fun w2 s2 st2=>?_;exact(bY) (tG (aj g12<|aj g16 g20)) (st2)
 intro w2 st2;refine(aT) (fun b=>?_) fun b=>?_
 ·
  exact et b
 refine(bF) ?_;exact⟨rfl,(St.cg st2)⟩
theorem vZ(ht:jM prog A w) (g:s.size≤1000) (b:∀n:Nat,n≤65535→s≠itoa (n:Int)):CR prog 195 #[.string s] w (.int .i64 0):=by
 refine enter func195 rfl ntmps195 rfl<|?_;have aR:=St.s0 w;refine(cE) Jv (FX (s:=s) (ht.ext (St.cg aR)) g) ?_;rintro _ w1 ⟨v,ok,ev,rfl,j,h,s1⟩;have st1:=aR.step s1;refine pU ?_;refine WC.dz (t:=25) (v:=.bool true) st1 ?_<|?_
 ·
  refine bJ ?_;refine WP .r (PV.Pe vz rfl h)<|(cG) (fun g12=>?_) (fun g12=>?_)
  ·
   refine aQ ?_;exact(bY) (by first | (simp [g12];done) | (simp at g12 ⊢;intro e;exact b v.toNat (by omega) (by rw [show((v.toNat:Nat):Int)=v by omega];exact e.symm))) (st1)
  refine(cG) (fun g16=>?_) (fun g16=>?_)
  ·
   exact(bY) (by first | (simp [g12,g16];done) | (simp at g12 g16 ⊢;intro e;exact b v.toNat (by omega) (by rw [show((v.toNat:Nat):Int)=v by omega];exact e.symm))) (st1)
  refine(cG) (fun g20=>?_) (fun g20=>?_)
  ·
   exact(bY) (by first | (simp [g12,g16,g20];done) | (simp at g12 g16 g20 ⊢;intro e;exact b v.toNat (by omega) (by rw [show((v.toNat:Nat):Int)=v by omega];exact e.symm))) (st1)
  refine(fw) (kb (n:=v) (ht.ext (St.cg st1)) (by omega) (by omega)) st1 fun w2 s2 st2=>?_;exact(bY) (by first | (simp [g12,g16,g20];done) | (simp at g12 g16 g20 ⊢;intro e;exact b v.toNat (by omega) (by rw [show((v.toNat:Nat):Int)=v by omega];exact e.symm))) (st2)
 intro w2 st2;refine(aT) (fun d=>?_) fun d=>?_
 ·
  refine(bF) ?_;exact⟨rfl,(St.cg st2)⟩
 exact et d
theorem pM(ht:jM prog A w) (b:s.size≤1000):CR prog 195 #[.string s] w (.int .i64 (cc s:Int)):=by
 by_cases h:∃n:Nat,n≤65535∧s=itoa (n:Int)
 ·
  obtain⟨n,hn,rfl⟩:=h;rw [dV hn];exact vY ht hn
 have h0:∀n:Nat,n≤65535→s≠itoa (n:Int):=fun n hn e=>h ⟨n,hn,e⟩;rw [Ct h0];exact vZ ht b h0
theorem tp{kd:Int}{l:List Nat}(hl:Ints A w a r c (l.map fun x:Nat=>(x:Int))) (g:∀x∈l,x≤65535) (hr:r≤1000):CR prog 197 #[.int .i64 kd,.slice a r c] w (.int .i64 (cV kd 0 l:Int)):=by
 have hle:=SR.le hl;have hlen:=SR.len hl;rw [List.length_map] at hlen;have m:∀i,∀x∈l.take i,x≤65535:=fun i x p=>g x (List.mem_of_mem_take p);refine enter func197 rfl ntmps197 rfl<|?_;have aR:=St.s0 w;refine aQ ?_;refine pU ?_;refine WC.bm (σ:=Nat) (db:=fun i=>[(0,.int .i64 kd),(5,.int .i64 (pS 0 (l.take i):Int)),(6,.int .i64 (pc 0 (l.take i):Int)),(7,.int .i64 (dQ 0 (l.take i):Int)),(10,.slice a r c),(11,.int .i64 (r:Int)),(12,.int .i64 (i:Int))]) (F:=fun i=>[]) (I:=fun i=>(i≤r)∧True) (μ:=fun i=>r - i) (0) (aR) Sub.t (⟨by omega,trivial⟩)<|?_;rintro i w1 st1 ⟨hi,_⟩;simp only [CA,NA] at st1 hi ⊢;refine(aT) (fun g13=>?_) fun g13=>?_
 ·
  simp at g13
  have h:i<l.length:=by omega
  have q:i<(l.map fun x:Nat=>(x:Int)).length:=by simpa using h
  have u:=qq (c:=0) (m i);have v:=kS (c:=0) (by omega) (m i);have y:=jz (c:=0) (by omega) (m i);have E:=g l[i] (List.getElem_mem h)
  have G:(l.take i).length≤1000:=by rw [List.length_take];omega
  have e1:=tS (c:=0) h;have e2:=qJ (c:=0) h;have e3:=qK (c:=0) h;refine df ?_;obtain⟨H,J,K,z,_,rfl,o,_⟩:=(SR.ext hl (St.cg st1)).at (ae q);rw [List.getElem_map] at o;refine nx ?_;refine WP .r (PV.dO Ad z rfl rfl (by omega))<|WP .r (PV.ki aL o rfl rfl)<|pU ?_;refine WP .r (PV.D2 rfl rfl)<|bJ ?_;refine WP .r (PV.orN rfl rfl (by omega) (by omega))<|lU ?_;refine eb (i+1) ⟨st1,⟨by omega,trivial⟩⟩
 simp at g13
 have D:l.take i=l:=List.take_of_length_le (by omega);rw [D];have u:=qq (c:=0) g;have v:=kS (c:=0) (by omega) g;have y:=jz (c:=0) (by omega) g
 have L:l.length≤1000:=by omega
 refine aQ ?_;refine(aT) (fun b=>?_) fun b=>?_
 ·
  simp at b
  refine(bF) ?_;exact⟨by unfold cV;rw [if_pos b,Int.tmod_eq_emod_of_nonneg (by omega)];rfl,(St.cg st1)⟩
 simp at b
 refine(aT) (fun d=>?_) fun d=>?_
 ·
  simp at d
  refine cq ?_;refine WP .r (PV.quo rfl rfl (by omega) (by rw [Int.tdiv_eq_ediv_of_nonneg (by omega)];omega) (by rw [Int.tdiv_eq_ediv_of_nonneg (by omega)];omega))<|(bF) ?_;exact⟨by unfold cV;rw [if_neg b,if_pos d,Int.tdiv_eq_ediv_of_nonneg (by omega),Int.tmod_eq_emod_of_nonneg (by omega)];rfl,(St.cg st1)⟩
 simp at d
 refine(aT) (fun e=>?_) fun e=>?_
 ·
  simp at e
  refine(bF) ?_;exact⟨by unfold cV;rw [if_neg b,if_neg d,if_pos e],(St.cg st1)⟩
 simp at e
 refine(aT) (fun j=>?_) fun j=>?_
 ·
  simp at j
  refine(bF) ?_;exact⟨by unfold cV;rw [if_neg b,if_neg d,if_neg e,if_pos j,Int.tmod_eq_emod_of_nonneg (by omega)];rfl,(St.cg st1)⟩
 simp at j
 refine(bF) ?_;exact⟨by unfold cV;rw [if_neg b,if_neg d,if_neg e,if_neg j],(St.cg st1)⟩
set_option maxHeartbeats 1600000 in
theorem yC(ht:jM prog A w) (X:ao aa) (hi:i<aa.length) (hr:eE B w a r c aa) (hl:Strs C w a2 r2 e2 ai) (hsz:∀s∈ai,s.size≤1000):CR prog 156 #[.slice a r c,(aH aa (i:Int)).val,.slice a2 r2 e2] w ((ca aa (aH aa (i:Int)) ai).val):=by
 have Cs:=X.len
 have gq:i≤99:=by omega
 have hle:=hr.le;have hlen:=hr.len;have r5:=hl.len;have td:=hl.le
 obtain⟨kd,hkd,hk⟩:∃kd:Int,(kd=31∨kd=32)∧aH aa (i:Int)=⟨kd,itoa i⟩:=by
  unfold aH
  rw [if_neg (by omega)]
  cases h:ax aa i
  ·
   exact⟨31,.inl rfl,by simp [h]⟩
  exact⟨32,.inr rfl,by simp [h]⟩
 have O:=bG hi gq;obtain⟨YD,YE,afY⟩:=X.2 i _ (ae hi);have YF:=ao.hb X _ (List.getElem_mem hi);obtain⟨g,Rv⟩:∃g:Nat,aa[i].c=g:=⟨aa[i].c.toNat,by omega⟩;obtain⟨b_x,o_x,r_x,yD,_,⟨q1,b,q3,rfl,x8⟩,Sk,_⟩:=hr.at (ae hi);rw [Rv] at Sk;have uL:=x8.len;rw [hk] at O ⊢;refine enter func156 rfl ntmps156 rfl<|?_;have aR:=St.s0 w;refine(dy) aR fun b4 w1 DA IC st1=>?_;refine(fy) st1 fun b6 w2 C7 Ij st2=>?_;refine(bf) ak st2.b1<|(fw) (js (k:=(⟨kd,itoa i⟩:Key)) ⟨by simp only [];omega,by simp only [];omega⟩ rfl gq) st2 fun w3 s3 Y=>?_;refine df ?_;refine WC.dz (t:=30) (v:=.bool false) Y ?_<|?_
 ·
  have Yt:=Y.bA;refine WC.cH (m:=12) (E:=bN [(10,fun v _=>v=(aH aa (i:Int)).val)]) Y (aU (⟨fun _ _ _ _ _ _ _ h=>h,trivial⟩)) mixed (by kernel_rfl)<|cq ?_;refine DW.eL (t:=19) rfl (fun g19=>?_) (fun g19=>?_)
  ·
   refine(cx) ?_;rintro w4 ⟨ti,D⟩ _;exact(bY) (by first | rfl | (simp [g19,hk];done) | (simp [g19,hk];omega) | (simp only [g19];done) | (simp only [g19];rfl) | (simp [g19];done) | (simp;done) | (simp at g19 ⊢ <;> omega) | (simp <;> omega) | (simp [g19] <;> omega) | (simp at g19 <;> omega)) (D)
  refine(gp) aL St.g1<|cq ?_;refine DW.eL (t:=24) rfl (fun g24=>?_) (fun g24=>?_)
  ·
   refine(cx) ?_;rintro w4 ⟨ti,D⟩ _;exact(bY) (by first | rfl | (simp [g19,g24,hk];done) | (simp [g19,g24,hk];omega) | (simp only [g19,g24];done) | (simp only [g19,g24];rfl) | (simp [g19,g24];done) | (simp;done) | (simp at g19 g24 ⊢ <;> omega) | (simp <;> omega) | (simp [g19,g24] <;> omega) | (simp at g19 g24 <;> omega)) (D)
  refine bJ ?_;refine DW.c0 (fun wx hC hF=>lR (n:=(i:Int)) (hr.ext (St.cg hC.2)))<|(fe) ak St.g1<|(cx)<|?_;rintro w4 ⟨ti,D⟩ ⟨_,_⟩;refine WP .r (PV.DZ eI (p:=aH aa (i:Int)) (q:=(⟨kd,itoa i⟩:Key)) rfl rfl)<|?_;exact(bY) (by first | rfl | (simp [g19,g24,hk];done) | (simp [g19,g24,hk];omega) | (simp only [g19,g24];done) | (simp only [g19,g24];rfl) | (simp [g19,g24];done) | (simp;done) | (simp at g19 g24 ⊢ <;> omega) | (simp <;> omega) | (simp [g19,g24] <;> omega) | (simp at g19 g24 <;> omega)) (D)
 intro w4 D;refine(aT) (fun Oo=>?_) fun Oo=>?_
 ·
  exact et Oo
 refine fY ?_;refine WP .r (PV.Dv gT (i:=i) yD rfl rfl (by omega) (by omega))<|(bf) uE (aW Sk (St.cg D) (by simp))<|(fy) D fun b8 w5 Mc hb8 kJ=>?_;refine(dw) CY kJ fun w6 kI nj K=>?_;refine aQ ?_;refine(bq) iZ K.b0<|(aT) (fun AH=>?_) fun AH=>?_
 ·
  simp at AH
  have hn:r2<aa[i].asks.length:=by omega
  have z:=jB (ai:=ai) O hi (by rw [O];exact hk) (show ai.length<aa[i].asks.length by omega);simp only [← r5] at z
  have Nf:r2=0→aa[i].asks[r2].pick=false:=fun h0=>by
   have:=YE r2 _ (ae hn)
   cases hp:aa[i].asks[r2].pick
   ·
    rfl
   unfold dY at this
   rw [hp] at this
   simp [h0] at this
  refine nx ?_;obtain⟨b_y,o_y,r_y,YG,_,rfl,YH,_⟩:=(x8.ext (St.cg K)).at (ae hn);refine(bq) iZ K.b0<|nx ?_;refine WP .r (PV.dO sZ YG rfl rfl (by omega))<|(bf) mh YH<|(fy) K fun MO w7 yo yp P=>?_;refine(dw) Ae P fun w8 vI oh o=>?_;refine(bq) aL o.b0<|df ?_;refine WC.dz (t:=65) (v:=.bool (dX aa[i].asks[r2] ai)) o ?_<|?_
  ·
   refine(bq) dm o.b0<|nx ?_;refine WL.eL (t:=52) rfl (fun U=>?_) (fun U=>?_)
   ·
    refine cD ?_;refine WL.eL (t:=56) rfl (fun Dn=>?_) (fun Dn=>?_)
    ·
     simp at Dn
     obtain⟨b_z,o_z,r_z,YI,_,rfl,YJ,_⟩:=(hl.ext (St.cg o)).at (ae (show r2 - 1<ai.length by omega))
     have Dd:dX aa[i].asks[r2] ai=decide ((cc ai[r2 - 1]:Int).tmod 2=0):=by
      unfold dX
      simp only [U,← r5,Bool.true_and];rw [decide_eq_false (by omega),Bool.false_or,getElem!_pos ai (r2 - 1) (by omega),Int.tmod_eq_emod_of_nonneg (by omega)]
      congr 1
      exact propext ⟨fun h=>by omega,fun h=>by omega⟩
     refine cq ?_;refine WP .r (PV.Dv mi (i:=r2 - 1) YI rfl rfl (by omega) (by omega))<|WP .r (PV.ki fq YJ rfl rfl)<|(fw) (pM (s:=ai[r2 - 1]) (ht.ext (St.cg o)) (hsz _ (List.getElem_mem _))) o fun w9 s9 d=>?_;exact(bY) (by rw [Dd]) (d)
    exact absurd (Nf (by simp at Dn;omega)) (by simp [U])
   have Dd:dX aa[i].asks[r2] ai=false:=by unfold dX;rw [U];rfl
   refine aQ ?_;exact(bY) (by rw [Dd]) (o)
  intro w9 d;refine(aT) (fun YK=>?_) fun YK=>?_
  ·
   have Q:mH aa[i].asks[r2] ai=aa[i].asks[r2].zd:=by unfold mH;rw [if_pos YK]
   refine(bq) aL d.b0<|(bq) dm d.b0<|(aT) (fun J=>?_) fun J=>?_
   ·
    rw [Q,if_pos J] at z;refine(fw) (pL) d fun S V y=>?_;refine WP .r (PV.br (us:=[.bool false,.string ⟨#[]⟩,.int .i64 (bz _).kind,.string (bz _).text]) kx rfl rfl rfl)<|(dw) fc y.p2 fun T C8 yX e=>?_;refine(jt) gj e.b0<|?_;rw [z];exact⟨rfl,(St.cg e)⟩
   rw [Q,if_neg (by simp [J])] at z;refine(fw) (lR (hr.ext (St.cg d))) d fun S V y=>?_;refine WP .r (PV.br (us:=[.bool false,.string ⟨#[]⟩,.int .i64 (aH aa _).kind,.string (aH aa _).text]) kx rfl rfl rfl)<|(dw) fc y.p2 fun T Oh Oi e=>?_;refine(jt) gj e.b0<|?_;rw [z];exact⟨rfl,(St.cg e)⟩
  have Q:mH aa[i].asks[r2] ai=aa[i].asks[r2].n:=by unfold mH;rw [if_neg (by simp [YK])]
  refine(bq) dm d.b0<|(aT) (fun J=>?_) fun J=>?_
  ·
   rw [Q,if_pos J] at z;refine(fw) (pL) d fun S V y=>?_;refine WP .r (PV.br (us:=[.bool false,.string ⟨#[]⟩,.int .i64 (bz _).kind,.string (bz _).text]) kx rfl rfl rfl)<|(dw) fc y.p2 fun T Ug N3 e=>?_;refine(jt) gj e.b0<|?_;rw [z];exact⟨rfl,(St.cg e)⟩
  rw [Q,if_neg (by simp [J])] at z;refine(fw) (lR (hr.ext (St.cg d))) d fun S V y=>?_;refine WP .r (PV.br (us:=[.bool false,.string ⟨#[]⟩,.int .i64 (aH aa _).kind,.string (aH aa _).text]) kx rfl rfl rfl)<|(dw) fc y.p2 fun T T8 T9 e=>?_;refine(jt) gj e.b0<|?_;rw [z];exact⟨rfl,(St.cg e)⟩
 simp at AH
 have z:=jA (ai:=ai) O hi (by rw [O];exact hk) (show aa[i].asks.length≤ai.length by omega);rw [← uL,Rv,Int.toNat_natCast] at z
 have JI:∀x∈(ai.take b).map cc,x≤65535:=fun x G=>by obtain⟨s,_,rfl⟩:=List.mem_map.1 G;exact iU s
 have hfl:=lG (kind:=aa[i].final) (c:=g) (l:=(ai.take b).map cc) (by omega) JI
 have hll:((ai.take b).map cc).length=b:=by rw [List.length_map,List.length_take];omega
 refine(bq) aL K.b0<|?_;refine WL.go rfl (OX.aM (us:=[.int .i64 (g:Int)]) Fc rfl rfl rfl rfl fun b79 w7 Sl YL=>?_);have P:=St.mI (R:=RR.int) (E:=3) (k:=1) (a:=some ⟨b79,0,none⟩) (n:=1) (c:=1) (xs:=[(g:Int)]) K Sl.ext (OR.cT YL (Nat.zero_le _) rfl (by simp [Value.oneCell']) rfl) (fun x G=>by simp [aZ] at G;subst G;exact Sl.ge);refine(bq) iZ P.b1<|nx ?_;refine WP .r (PV.zh mi (hl.ext (St.cg P)) rfl rfl (by omega))<|df ?_;refine WC.bm (σ:=Nat × (Option Addr) × Nat × Nat) (db:=fun(j,L,H,N)=>[(6,.pointer (some ⟨b6,0,none⟩)),(8,.pointer (some ⟨b8,0,none⟩)),(12,.slice L H N),(84,.slice a2 b e2),(85,.int .i64 (b:Int)),(86,.int .i64 (j:Int))]) (F:=fun(j,L,H,N)=>[As.os RR.int 3 1 L H N ((((g::((ai.take b).map cc).take j)).map fun x:Nat=>(x:Int)))]) (I:=fun(j,L,H,N)=>(j≤b)∧True) (μ:=fun(j,L,H,N)=>b - j) (0,(some ⟨b79,0,none⟩),1,1) (P) Sub.t (⟨by omega,trivial⟩)<|?_;rintro⟨j,L,H,N⟩ w8 o ⟨hj,_⟩;simp only [CA,NA] at o hj ⊢;have ta:=((As.gs o.g0)).len
 have AG:H≤1+j:=by have h0:=ta;simp at h0;omega
 refine(aT) (fun FU=>?_) fun FU=>?_
 ·
  simp at FU
  have ym:j<ai.length:=by omega
  obtain⟨b_u,o_u,r_u,YM,_,rfl,YN,_⟩:=(hl.ext (St.cg o)).at (ae ym);refine fY ?_;refine WP .r (PV.dO mi YM rfl rfl (by omega))<|WP .r (PV.ki fq YN rfl rfl)<|(fw) (pM (s:=ai[j]) (ht.ext (St.cg o)) (hsz _ (List.getElem_mem _))) o fun w9 s9 d=>?_;refine WL.go rfl (OX.aM (us:=[.int .i64 (cc ai[j]:Int)]) Fc rfl rfl rfl rfl fun Sm S Ng Nh=>?_);have y:=d.du Ng Nh;refine WL.ap rfl rfl y.p1 (SR.cT (A:=fun _=>True) (x:=((cc ai[j]:Nat):Int)) (As.gb y.g0) trivial rfl (by simp [Value.oneCell']) rfl) fun a94 YO T af0 af1 e=>?_;refine bJ ?_;have W:=e.Kk (show(((((g::((ai.take b).map cc).take j)).map fun x:Nat=>(x:Int)))++[((cc ai[j]:Nat):Int)])=(((g::((ai.take b).map cc).take (j+1))).map fun x:Nat=>(x:Int)) by rw [List.take_succ_eq_append_getElem (by omega),← List.cons_append,List.map_append,List.getElem_map,List.getElem_take];rfl);refine fY ?_;refine eb (j+1,a94,(H+1),YO) ⟨W.p1.drop,⟨by omega,trivial⟩⟩
 simp at FU
 have hje:((ai.take b).map cc).take j=(ai.take b).map cc:=List.take_of_length_le (by omega);have d:=o.Kk (show(((g::((ai.take b).map cc).take j)).map fun x:Nat=>(x:Int))=(((g::(ai.take b).map cc)).map fun x:Nat=>(x:Int)) by rw [hje]);refine(bq) aL d.b1<|nx ?_;refine WL.c1 (u:=.int .i64 ((cV aa[i].final g ((ai.take b).map cc)):Int)) (tp (kd:=aa[i].final) (l:=g::(ai.take b).map cc) (Ow.rd (As.gs d.g0) (by simp;omega)) (fun x G=>by rcases List.mem_cons.1 G with rfl | G;omega;exact JI x G) (by omega)) (by rw [xy]) d fun w9 s9 y=>?_;refine(fw) (kb (n:=((cV aa[i].final g ((ai.take b).map cc)):Int)) (ht.ext (St.cg y)) (by omega) (by omega)) y fun S V e=>?_;refine WP .r (PV.br (us:=[.bool true,.string (itoa ((cV aa[i].final g ((ai.take b).map cc)):Int)),.int .i64 0,.string ⟨#[]⟩]) kx rfl rfl rfl)<|(dw) fc e.p2 fun T XJ XK W=>?_;refine(jt) gj W.b0<|?_;rw [z];exact⟨rfl,(St.cg W)⟩
theorem mu(ht:jM prog A w) (d:ao aa) (hi:i<aa.length) (hr:eE B w a r c aa) (hl:Strs C w a2 r2 e2 ai) (hsz:∀s∈ai,s.size≤1000):CR prog 121 #[.slice a r c,(aH aa (i:Int)).val,.slice a2 r2 e2] w ((ca aa (aH aa (i:Int)) ai).val):=by
 have j:=d.len;have g:=dA hi (by omega);refine enter func121 rfl ntmps121 rfl<|?_;have aR:=St.s0 w;refine(dy) aR fun b4 w1 m o st1=>?_;refine(fy) st1 fun p w2 q t st2=>?_;refine(bf) ak st2.b1<|?_;refine WL.c1 (u:=.bool true) (lz (k:=aH aa (i:Int))) (by rw [show(decide ((aH aa (i:Int)).kind=31) || decide ((aH aa (i:Int)).kind=32))=true by(rw [g];split <;> simp)]) st2 fun w3 v b=>?_;refine cq ?_;refine WC.tH rfl<|(bf) ak b.b1<|(fw) (yC (ht.ext (St.cg b)) d hi (hr.ext (St.cg b)) (hl.ext (St.cg b)) hsz) b fun w4 y h=>?_;refine(dw) fc h fun w5 z D e=>?_;refine(jt) gj e.b0<|?_;exact⟨rfl,(St.cg e)⟩
theorem n5(hk:k.kind=32):CR prog 264 #[k.val] w (.string ⟨#[48]⟩):=by
 refine enter func264 rfl ntmps264 rfl<|?_;have aR:=St.s0 w;refine(dy) aR fun b1 w1 b d st1=>?_;refine(bq) aL st1.b0<|(aT) (fun g3=>?_) fun g3=>?_
 ·
  skip
  refine(bF) ?_;exact⟨rfl,(St.cg st1)⟩
 exact absurd g3 (by simp [hk])
theorem tq(hi:i<aa.length) (gq:i≤99) (hr:eE B w a r c aa):CR prog 72 #[.slice a r c,(aH aa (i:Int)).val] w (.bool true):=by
 have g:=dA hi gq
 have j:(aH aa (i:Int)).text=itoa i:=by unfold aH;rw [if_neg (by omega)]
 have o:30≤(aH aa (i:Int)).kind∧(aH aa (i:Int)).kind≤32:=by rw [g];split <;> omega
 refine enter func72 rfl ntmps72 rfl<|?_;have aR:=St.s0 w;refine(dy) aR fun b3 w1 t y st1=>?_;refine cD ?_;have z:=st1.bA;refine WC.cH (m:=12) (E:=bN [(1,fun v _=>v=.bool true),(4,fun v _=>v=.bool true),(9,fun v _=>v=.int .i64 (i:Int)),(10,fun v _=>v=(aH aa (i:Int)).val)]) st1 (aU (⟨fun _ _ _ _ _ _ _ h=>h,⟨fun _ _ _ _ _ _ _ h=>h,⟨fun _ _ _ _ _ _ _ h=>h,⟨fun _ _ _ _ _ _ _ h=>h,trivial⟩⟩⟩⟩)) mixed (by kernel_rfl)<|(fe) ak St.g0<|?_;refine DW.c0 (fun d b e=>fH (k:=aH aa (i:Int)) o j gq)<|(fe) ak St.g0<|?_;refine DW.c1 (u:=.bool true) (fun d b e=>lz (k:=aH aa (i:Int))) (by rw [show(decide ((aH aa (i:Int)).kind=31) || decide ((aH aa (i:Int)).kind=32))=true by(rw [g];split <;> simp)])<|(fe) ak St.g0<|?_;refine DW.c0 (fun d b e=>js (k:=aH aa (i:Int)) o j gq)<|?_;refine DW.c0 (fun d b e=>lR (n:=(i:Int)) (hr.ext (St.cg b.2)))<|(fe) ak St.g0<|(cx)<|?_;rintro w2 ⟨D,st2⟩ ⟨_,⟨_,⟨_,⟨_,_⟩⟩⟩⟩;refine WP .r (PV.Ce eI (p:=aH aa (i:Int)) (q:=aH aa (i:Int)) rfl rfl)<|(bF) ?_;exact⟨by simp,(St.cg st2)⟩
set_option maxHeartbeats 400000
theorem mw{xs:List Key}(m:St w M Z w []) (hl:Rd RR.key 2 Z w a n c xs) (q:xs.length≤1000000):Calls prog 84 #[.slice a n c] w fun e w'=>∃d g h,e=.returned (.slice d g h)∧St w M Z w' [As.os RR.key 43 2 d g h xs]:=by
 have hlen:=hl.len;refine enter func84 rfl ntmps84 rfl<|?_;have aR:=m;have st1:=aR.fr hl;refine(aT) (fun g4=>?_) fun g4=>?_
 ·
  simp at g4
  subst g4;have b:=hl.qQ;subst b;have st2:=st1.fD RR.key 43 2;refine(bF) ?_;exact⟨none,0,0,rfl,st2.p1.drop⟩
 refine cD ?_;refine WL.go rfl (OX.vb Jq VX rfl fun b5 w1 j o=>?_);have st2:=St.mI (R:=RR.key) (E:=43) (k:=2) (a:=some ⟨b5,0,none⟩) (n:=0) (c:=0) (xs:=[]) st1 j.ext (OR.Kw o (Nat.zero_le _)) (fun x b=>by simp [aZ] at b;subst b;exact j.ge);refine nx ?_;refine WL.ap rfl rfl st2 ((As.gr st2.g1)) fun t u w2 v y p=>?_;refine(bF) ?_;exact⟨_,_,_,rfl,p.p1.drop⟩
theorem tr{xs:List Rec}(m:St w M Z w []) (hl:Rd RR.fl 8 Z w a n c xs) (q:xs.length≤1000000):Calls prog 117 #[.slice a n c] w fun e w'=>∃d g h,e=.returned (.slice d g h)∧St w M Z w' [As.os RR.fl 50 8 d g h xs]:=by
 have hlen:=hl.len;refine enter func117 rfl ntmps117 rfl<|?_;have aR:=m;have st1:=aR.fr hl;refine(aT) (fun g4=>?_) fun g4=>?_
 ·
  simp at g4
  subst g4;have b:=hl.qQ;subst b;have st2:=st1.fD RR.fl 50 8;refine(bF) ?_;exact⟨none,0,0,rfl,st2.p1.drop⟩
 refine cD ?_;refine WL.go rfl (OX.vb Jp VY rfl fun b5 w1 j o=>?_);have st2:=St.mI (R:=RR.fl) (E:=50) (k:=8) (a:=some ⟨b5,0,none⟩) (n:=0) (c:=0) (xs:=[]) st1 j.ext (OR.Kw o (Nat.zero_le _)) (fun x b=>by simp [aZ] at b;subst b;exact j.ge);refine nx ?_;refine WL.ap rfl rfl st2 ((As.gr st2.g1)) fun t u w2 v y p=>?_;refine(bF) ?_;exact⟨_,_,_,rfl,p.p1.drop⟩
theorem ts{xs:List cj}(m:St w M Z w []) (hl:Rd RR.aA 4 Z w a n c xs) (q:xs.length≤1000000):Calls prog 73 #[.slice a n c] w fun e w'=>∃d g h,e=.returned (.slice d g h)∧St w M Z w' [As.os RR.aA 80 4 d g h xs]:=by
 have hlen:=hl.len;refine enter func73 rfl ntmps73 rfl<|?_;have aR:=m;have st1:=aR.fr hl;refine(aT) (fun g4=>?_) fun g4=>?_
 ·
  simp at g4
  subst g4;have b:=hl.qQ;subst b;have st2:=st1.fD RR.aA 80 4;refine(bF) ?_;exact⟨none,0,0,rfl,st2.p1.drop⟩
 refine cD ?_;refine WL.go rfl (OX.vb Jo VZ rfl fun b5 w1 j o=>?_);have st2:=St.mI (R:=RR.aA) (E:=80) (k:=4) (a:=some ⟨b5,0,none⟩) (n:=0) (c:=0) (xs:=[]) st1 j.ext (OR.Kw o (Nat.zero_le _)) (fun x b=>by simp [aZ] at b;subst b;exact j.ge);refine nx ?_;refine WL.ap rfl rfl st2 ((As.gr st2.g1)) fun t u w2 v y p=>?_;refine(bF) ?_;exact⟨_,_,_,rfl,p.p1.drop⟩
theorem AX{x:Rec}(p:St w M Z w []) (hk:Rd RR.key 2 Z w a n c x.reads) (u:x.reads.length≤4000):Calls prog 80 #[.agg (x.row a n c).toArray] w fun e w'=>∃d g h,e=.returned (.agg (x.row d g h).toArray)∧St w M Z w' [As.os RR.key 43 2 d g h x.reads]:=by
 refine enter func80 rfl ntmps80 rfl<|?_;have aR:=p;have st1:=aR.fr hk;refine(dy) st1 fun b1 w1 v y st2=>?_;refine(fy) st2 fun b2 w2 z D j=>?_;refine(bq) gS j.b1<|?_;have b:=j;refine(cE) Qp (mw b.e0 (As.gr b.g2) (by omega)) ?_;rintro _ w3 ⟨f1,f2,f3,rfl,q⟩;have t:=St.lr b q;refine nx ?_;refine WL.s1 t.p2 fun w4 _ m=>?_;refine(bf) dN m.b0<|(dw) gk m.p2 fun w5 E F o=>?_;refine(jt) dN o.b0<|?_;exact⟨_,_,_,rfl,o.p2.k1⟩
theorem tt{p:Rec→Bool}(g:CF prog f) (hl:Rd RR.fl 8 Z w a n c l) (m:∀w1,aK [] w w1→∀x∈l,∀a n c,Rd RR.key 2 Z w1 a n c x.reads→Calls prog f #[.agg (x.row a n c).toArray,cap] w1 fun e w'=>e=.returned (.bool (p x))∧aK [] w1 w'):Calls prog 101 #[.slice a n c,.func (.func f) #[] #[cap]] w fun e w'=>∃j:Int,e=.returned (.int .i64 j)∧ug l p j∧aK [] w w':=by
 have hlen:=hl.len;have hle:=hl.le;refine enter func101 rfl ntmps101 rfl<|?_;have aR:=St.s0 w;refine aQ ?_;refine bJ ?_;refine WC.bm (σ:=Nat) (db:=fun i=>[(0,.slice a n c),(1,.func (.func f) #[] #[cap]),(7,.int .i64 (n:Int)),(8,.int .i64 (i:Int))]) (F:=fun i=>[]) (I:=fun i=>(i≤n)∧(∀j x,j<i→l[j]?=some x→p x=false)∧True) (μ:=fun i=>n - i) (0) (aR) Sub.t (⟨by omega,fun j x h=>by omega,trivial⟩)<|?_;rintro i w1 st1 ⟨hi,b,_⟩;simp only [CA,NA] at st1 hi b ⊢;refine(aT) (fun g9=>?_) fun g9=>?_
 ·
  simp at g9
  have d:i<l.length:=by omega
  refine lV ?_;obtain⟨E,G,H,o,J,q,u,K⟩:=Rd.at hl d;obtain⟨q1,L,N,rfl,v,O⟩:=q;refine cD ?_;refine WP .r (PV.dO jk o rfl rfl (by omega))<|(bf) dN (aW u (St.cg st1) (by simp))<|?_;refine WL.go rfl (OX.nt g rfl rfl rfl ((Calls.cap (m _ (St.cg st1) l[i] (List.getElem_mem d) _ _ _ (v.ext (St.cg st1)))).mono ?_));rintro _ w2 ⟨rfl,s2⟩;refine⟨_,rfl,?_⟩;have st2:=st1.step s2;refine(aT) (fun g16=>?_) fun g16=>?_
  ·
   refine(bF) ?_;exact⟨_,rfl,.inl ⟨i,_,ae d,g16,b,rfl⟩,(St.cg st2)⟩
  have g16:p l[i]=false:=by simpa using g16
  refine eX ?_;refine eb (i+1) ⟨st2,⟨by omega,cp d b (by simpa using g16),trivial⟩⟩
 simp at g9
 have y:∀x∈l,p x=false:=fun x z=>by obtain⟨j,D,rfl⟩:=List.getElem_of_mem z;exact b j _ (by omega) (ae D)
 refine(bF) ?_;exact⟨_,rfl,.inr ⟨y,rfl⟩,(St.cg st1)⟩
theorem oY{p:Rec→Bool}(d:CF prog f) (hl:Rd RR.fl 8 Z w a n c l) (g:∀w1,aK [] w w1→∀x∈l,∀a n c,Rd RR.key 2 Z w1 a n c x.reads→Calls prog f #[.agg (x.row a n c).toArray,cap] w1 fun e w'=>e=.returned (.bool (p x))∧aK [] w1 w') (h:∀x∈l,p x=false):CR prog 110 #[.slice a n c,.func (.func f) #[] #[cap]] w (.bool false):=by
 refine enter func110 rfl ntmps110 rfl<|?_;have aR:=St.s0 w;refine(cE) Qr (tt (w:=w) d (hl.ext (St.cg aR)) (fun w1 h1=>g w1 (aK.trans (St.cg aR) h1))) ?_;rintro _ w1 ⟨j,rfl,m,s1⟩;have st1:=aR.step s1
 have o:j = -1:=by rcases m with⟨i,x,h1,b,_⟩ | ⟨_,b⟩;exact absurd b (by simp [h x (List.mem_of_getElem? h1)]);exact b
 subst o;refine(bF) ?_;exact⟨by simp,(St.cg st1)⟩
theorem tu{l:List Key}(hl:Rd RR.key 2 Z w a n c l):Calls prog 95 #[.slice a n c,k.val] w fun e w'=>((k∈l∧∃i:Nat,e=.returned (.int .i64 (i:Int)))∨(k∉l∧e=.returned (.int .i64 (-1))))∧aK [] w w':=by
 have hlen:=hl.len;have hle:=hl.le;refine enter func95 rfl ntmps95 rfl<|?_;have aR:=St.s0 w;refine(dy) aR fun b3 w1 E G st1=>?_;refine aQ ?_;refine WC.bm (σ:=Nat) (db:=fun i=>[(0,.slice a n c),(3,.pointer (some ⟨b3,0,none⟩)),(7,.int .i64 (n:Int)),(8,.int .i64 (i:Int))]) (F:=fun i=>[]) (I:=fun i=>(i≤n)∧(∀j x,j<i→l[j]?=some x→x≠k)∧True) (μ:=fun i=>n - i) (0) (st1) Sub.t (⟨by omega,fun j x h=>by omega,trivial⟩)<|?_;rintro i w2 st2 ⟨hi,b,_⟩;simp only [CA,NA] at st2 hi b ⊢;refine(aT) (fun g9=>?_) fun g9=>?_
 ·
  simp at g9
  have d:i<l.length:=by omega
  refine lV ?_;obtain⟨H,J,K,v,L,g,y,N⟩:=Rd.at hl d;have g:=RR.bT g;subst g;have O:=st2.bA;refine WC.dS (m:=5) st2 mixed<|(fe) ak St.g0<|bJ ?_;refine DP .r (fun _ o=>PV.dO dn v rfl rfl (by omega))<|DP .r (fun _ o=>VA ak (aW y (St.cg o.2) (by simp)) .r)<|(cx)<|?_;rintro w3 ⟨P,u⟩ _;refine WP .r (PV.Ce eI (p:=k) (q:=l[i]) rfl rfl)<|(aT) (fun g16=>?_) fun g16=>?_
  ·
   simp at g16
   refine(bF) ?_;exact⟨.inl ⟨g16 ▸ List.getElem_mem d,i,rfl⟩,(St.cg u)⟩
  simp at g16
  refine eX ?_;refine eb (i+1) ⟨u,⟨by omega,cp d b (fun e=>g16 e.symm),trivial⟩⟩
 simp at g9
 have z:k∉l:=fun hm=>by obtain⟨j,D,h⟩:=List.getElem_of_mem hm;exact b j _ (by omega) (ae D) h
 refine(bF) ?_;exact⟨.inr ⟨z,rfl⟩,(St.cg st2)⟩
theorem jL{l:List Key}(hl:Rd RR.key 2 Z w a n c l):CR prog 56 #[.slice a n c,k.val] w (.bool (decide (k∈l))):=by
 refine enter func56 rfl ntmps56 rfl<|?_;have aR:=St.s0 w;refine(dy) aR fun b3 w1 m o st1=>?_;refine(bf) ak st1.b0<|(cE) WW ((tu (k:=k) (w:=w1) (hl.ext (St.cg st1))).mono (fun e d h=>show ∃j:Int,e=.returned (.int .i64 j)∧decide (0≤j)=decide (k∈l)∧aK [] w1 d from by rcases h.1 with⟨h1,i,b⟩ | ⟨h1,b⟩;exact⟨i,b,by simp [h1],h.2⟩;exact⟨-1,b,by simp [h1],h.2⟩)) ?_;rintro _ w2 ⟨j,rfl,g,s2⟩;have st2:=st1.step s2;refine(bF) ?_;exact⟨by rw [g],(St.cg st2)⟩
theorem v7(G:St w M Z w []) (hl:Rd RR.fl 8 Z w a n c l) (H:l.length≤1000000):Calls prog 74 #[.slice a n c] w fun e w'=>∃q u v Z',e=.returned (.slice q u v)∧dU w.heap.size Z Z'∧St w M Z' w' [As.os RR.fl 50 8 q u v l]:=by
 have hlen:=hl.len;have hle:=hl.le;refine enter func74 rfl ntmps74 rfl<|?_;have aR:=G;have st1:=aR.fr hl;refine jg ?_;have st2:=st1;refine(cE) QC (tr st2.e0 (As.gr st2.g0) H) ?_;rintro _ w1 ⟨f1,f2,f3,rfl,J⟩;have y:=St.lr st2 J;have X:=((As.gs y.g0)).len;refine aQ ?_;refine WC.kl (σ:=Nat × (Nat→Prop)) (db:=fun(i,b)=>[(3,.slice f1 f2 f3),(8,.slice f1 f2 f3),(9,.int .i64 (f2:Int)),(10,.int .i64 (i:Int))]) (F:=fun(i,b)=>[As.os RR.fl 50 8 f1 f2 f3 l]) (I:=fun(i,b)=>(i≤f2)∧(dU w.heap.size Z b)∧True) (μ:=fun(i,b)=>f2 - i) (Zf:=fun(i,b)=>b) (0,Z) (y) Sub.t (⟨by omega,dU.refl _ _,trivial⟩)<|?_;rintro⟨i,b⟩ w2 d ⟨hi,j,_⟩;simp only [CA,NA] at d hi j ⊢;refine(aT) (fun g11=>?_) fun g11=>?_
 ·
  simp at g11
  have m:i<l.length:=by omega
  refine df ?_;obtain⟨Y,nX,o,i6,K,L⟩:=Ow.at (As.gs d.g0) (by omega) (ae m);obtain⟨q1,q2,q3,rfl,N,z⟩:=K;have O:=d.fr (N);refine bJ ?_;refine WP .r (PV.dO jk o rfl rfl (by omega))<|(bf) dN L<|(fy) O fun b5 w3 JA Ih P=>?_;refine(dw) gk P fun w4 kI nj D=>?_;refine(bf) dN D.b0<|?_;have g:=D;refine(cE) WN (AX g.e0 (As.gr g.g1) z) ?_;rintro _ w5 ⟨e1,e2,e3,rfl,E⟩;have Q:=St.lr g E;have R:=St.dC E;have hsz:=g.size;have p:=Q.dZ (by omega);have S:=j.trans (dU.nA (F:=fun x=>x∈aZ e1) R) hsz;refine WP .r (PV.dO jk o rfl rfl (by omega))<|?_;refine WL.go rfl (OX.OY (i:=i) gk (As.gs p.g3) o m rfl rfl rfl (Rec.one _ _ _ _) l[i] ⟨e1,e2,e3,rfl,(As.gr p.g0),z⟩ fun w6 T U=>?_);have V:=p.p3.lT T U (fun x h=>.inl h);have W:=V.Kk (List.set_getElem_self m);refine eX ?_;refine eb (i+1,_) ⟨W.p4.p1.k2,⟨by omega,S,trivial⟩⟩
 refine(bF) ?_;exact⟨_,_,_,_,rfl,j,d.p1.drop⟩
theorem su(G:St w M Z w []) (hi:Rd RR.aA 4 Z w a1 n1 e1 x.ab) (hr:Rd RR.fl 8 Z w a2 n2 e2 x.ah) (H:x.ah.length≤1000000) (I:x.ab.length≤1000000):Calls prog 39 #[.agg (x.row a1 n1 e1 a2 n2 e2).toArray] w fun e w'=>∃g h j o p q Z',e=.returned (.agg (x.row g h j o p q).toArray)∧dU w.heap.size Z Z'∧St w M Z' w' [As.os RR.aA 80 4 g h j x.ab,As.os RR.fl 50 8 o p q x.ah]:=by
 refine enter func39 rfl ntmps39 rfl<|?_;have aR:=G;have st1:=aR.fr hi;have st2:=st1.fr hr;refine(dy) st2 fun b1 w1 Q R J=>?_;refine(fy) J fun b2 w2 S T K=>?_;refine cq ?_;refine WC.cN (m:=7) [] [2,5] [0,1,2,3,4,5,6] [] K (aq.k4 M0 M1 M2 M3<|aq.nil) mixed (by kernel_rfl) (by kernel_rfl) rfl<|(N8) jI SV.g1<|(gH) (fun w3 U V t W=>?_);simp only [CA,NA] at t;have d:=t;refine OX.call WE rfl rfl ((ts d.e0 (As.gr d.g3) I).mono ?_);rintro _ w4 ⟨f1,f2,f3,rfl,u⟩;have L:=St.lr d u;refine⟨_,rfl,u.bS.size,_,rfl,_,_,_,L,ay.k4<|ay.cons<|ay.nil,aq.k4 M1 M2 M3 M4<|aq.nil,?_⟩;refine(N8) fb SV.g1<|(gH) (fun w5 X Y v n9=>?_);simp only [CA,NA] at v;have b:=v;refine OX.call WG rfl rfl ((v7 b.e0 (As.gr b.g3) H).mono ?_);rintro _ w6 ⟨f4,f5,f6,Z1,rfl,y,z⟩;have N:=St.lv b z y;have O:=y.le b.size;refine⟨_,rfl,z.bS.size,_,rfl,_,_,_,N,ay.k4<|ay.k2<|ay.nil,aq.k4 M2 M3 M4 M5<|aq.nil,?_⟩;refine(nD) ?_;intro w7 yi D;simp only [CM,NM,CA,NA,jD.it] at D;refine WL.s1 D.p3 fun w8 _ P=>?_;refine nx ?_;refine WL.s1 P fun w9 _ E=>?_;refine WL.nil (EX.np ?_);refine(bf) bu E.b0<|(dw) jl E.p3 fun jP kI nj F=>?_;refine(jt) bu F.b0<|?_;exact⟨_,_,_,_,_,_,_,rfl,O,F.p2.p3.k2⟩
theorem oZ{r:Rec}{b:Nat}(hb:bM w b 32 (x.row a1 n1 e1 a2 n2 e2)):CR prog 111 #[.agg (r.row a n c).toArray,.pointer (some ⟨b,0,none⟩)] w (.bool (decide (x.ad<r.av))):=by
 refine enter func111 rfl ntmps111 rfl<|?_;have aR:=St.s0 w;refine(dy) aR fun b2 w1 d e st1=>?_;refine(bq) aL st1.b0<|(bq) aL (bM.range (hb.ext (St.cg st1)))<|(bF) ?_;exact⟨rfl,(St.cg st1)⟩
set_option maxHeartbeats 400000
theorem tv{l:List cj}{p:cj→Bool}(m:CF prog f) (hl:Rd RR.aA 4 Z w a n c l) (o:∀w1,aK [] w w1→∀x∈l,Calls prog f #[.agg x.cells.toArray,cap] w1 fun e w'=>e=.returned (.bool (p x))∧aK [] w1 w'):Calls prog 146 #[.slice a n c,.func (.func f) #[] #[cap]] w fun e w'=>∃j:Int,e=.returned (.int .i64 j)∧ug l p j∧aK [] w w':=by
 have hlen:=hl.len;have hle:=hl.le;refine enter func146 rfl ntmps146 rfl<|?_;have aR:=St.s0 w;refine aQ ?_;refine bJ ?_;refine WC.bm (σ:=Nat) (db:=fun i=>[(0,.slice a n c),(1,.func (.func f) #[] #[cap]),(7,.int .i64 (n:Int)),(8,.int .i64 (i:Int))]) (F:=fun i=>[]) (I:=fun i=>(i≤n)∧(∀j x,j<i→l[j]?=some x→p x=false)∧True) (μ:=fun i=>n - i) (0) (aR) Sub.t (⟨by omega,fun j x h=>by omega,trivial⟩)<|?_;rintro i w1 st1 ⟨hi,b,_⟩;simp only [CA,NA] at st1 hi b ⊢;refine(aT) (fun g9=>?_) fun g9=>?_
 ·
  simp at g9
  have d:i<l.length:=by omega
  refine lV ?_;obtain⟨D,E,G,q,H,g,u,J⟩:=Rd.at hl d;have g:=RR.bT g;subst g;refine cD ?_;refine WP .r (PV.dO qc q rfl rfl (by omega))<|(bf) ku (aW u (St.cg st1) (by simp))<|?_;refine WL.go rfl (OX.nt m rfl rfl rfl ((Calls.cap (o _ (St.cg st1) l[i] (List.getElem_mem d))).mono ?_));rintro _ w2 ⟨rfl,s2⟩;refine⟨_,rfl,?_⟩;have st2:=st1.step s2;refine(aT) (fun g16=>?_) fun g16=>?_
  ·
   refine(bF) ?_;exact⟨_,rfl,.inl ⟨i,_,ae d,g16,b,rfl⟩,(St.cg st2)⟩
  have g16:p l[i]=false:=by simpa using g16
  refine eX ?_;refine eb (i+1) ⟨st2,⟨by omega,cp d b (by simpa using g16),trivial⟩⟩
 simp at g9
 have v:∀x∈l,p x=false:=fun x y=>by obtain⟨j,z,rfl⟩:=List.getElem_of_mem y;exact b j _ (by omega) (ae z)
 refine(bF) ?_;exact⟨_,rfl,.inr ⟨v,rfl⟩,(St.cg st1)⟩
theorem tw{x:cj}{bk:Nat}(hb:bM w bk 43 k.cells):CR prog 147 #[.agg x.cells.toArray,.pointer (some ⟨bk,0,none⟩)] w (.bool (decide (x.key=k))):=by
 refine enter func147 rfl ntmps147 rfl<|?_;have aR:=St.s0 w;refine(dy) aR fun b2 w1 b d st1=>?_;refine(jY) ak st1.b0<|(bf) ak (bM.range (hb.ext (St.cg st1)))<|?_;refine WP .r (PV.Ce eI (p:=x.key) (q:=k) rfl rfl)<|(bF) ?_;exact⟨rfl,(St.cg st1)⟩
theorem oa(hi:Rd RR.aA 4 Z w a1 n1 e1 x.ab):Calls prog 100 #[.agg (x.row a1 n1 e1 a2 n2 e2).toArray,k.val] w fun e w'=>∃y:cj,e=.returned (.agg y.cells.toArray)∧y.value=(bs x.ab k).value∧y.changed=(bs x.ab k).changed∧aK [] w w':=by
 have hlen:=hi.len;have hle:=hi.le;refine enter func100 rfl ntmps100 rfl<|?_;have aR:=St.s0 w;refine(dy) aR fun b2 w1 K L st1=>?_;refine(dy) st1 fun b3 w2 N O st2=>?_;refine(fy) st2 fun b4 w3 P Q m=>?_;refine(bq) jI m.b2<|?_;refine WP .r (PV.func (us:=[]) (vs:=[.pointer (some ⟨b3,0,none⟩)]) rfl rfl)<|(cE) QZ (tv (p:=fun x=>decide (x.key=k)) Q0 (hi.ext (St.cg m)) (fun w1 h1 y _=>tw ((As.gb m.g1).ext h1))) ?_;rintro _ w4 ⟨j,rfl,o,v⟩;have q:=m.step v;refine(aT) (fun g11=>?_) fun g11=>?_
 ·
  simp at g11
  have z:∀y∈x.ab,(decide (y.key=k))=false:=by rcases o with⟨i,y,_,_,_,h⟩ | ⟨h,_⟩;omega;exact h
  have b:x.ab.find? (fun x=>x.key == k)=none:=nv (i:=x.ab.length) (Nat.le_refl _) (fun j x _ d=>by simpa using z x (List.mem_of_getElem? d));refine(dw) xY q fun w5 R S g=>?_;refine(jt) ku g.b0<|?_;exact⟨⟨bO,⟨#[]⟩,0⟩,rfl,by unfold bs;rw [b];rfl,by unfold bs;rw [b];rfl,(St.cg g)⟩
 simp at g11
 obtain⟨i,y,d,D,E,rfl⟩:∃i:Nat,∃y,x.ab[i]?=some y∧decide (y.key=k)=true∧(∀j y,j<i→x.ab[j]?=some y→(y.key == k)=false)∧j=i:=by
  rcases o with⟨i,y,h1,F,G,H⟩ | ⟨_,h⟩
  ·
   exact⟨i,y,h1,F,fun j y o d=>by simpa using G j y o d,H⟩
  omega
 obtain⟨u,rfl⟩:=List.getElem?_eq_some_iff.1 d;have b:x.ab.find? (fun x=>x.key == k)=some x.ab[i]:=gN u E (by simpa using D);refine cq ?_;obtain⟨T,U,V,I,W,t,J,X⟩:=Rd.at hi u;have t:=RR.bT t;subst t;refine(bq) jI q.b2<|nx ?_;refine WP .r (PV.dO qc I rfl rfl (by omega))<|(bf) ku (aW J (St.cg q) (by simp))<|(dw) xY q fun w5 Y oh g=>?_;refine(jt) ku g.b0<|?_;exact⟨x.ab[i],rfl,by unfold bs;rw [b];rfl,by unfold bs;rw [b];rfl,(St.cg g)⟩
theorem yE(hi:Rd RR.aA 4 Z w a1 n1 e1 x.ab) (hr:Rd RR.fl 8 Z w a2 n2 e2 x.ah):CR prog 59 #[.agg (x.row a1 n1 e1 a2 n2 e2).toArray,k.val] w (.string (bs x.ab k).value):=by
 refine enter func59 rfl ntmps59 rfl<|?_;have aR:=St.s0 w;refine(dy) aR fun b2 w1 e g st1=>?_;refine(dy) st1 fun b3 w2 h j st2=>?_;refine(bf) bu st2.b1<|(bf) ak st2.b0<|(cE) Jr (oa (k:=k) (hi.ext (St.cg st2))) ?_;rintro _ w3 ⟨y,rfl,hy,_,b⟩;have d:=st2.step b;refine WP .r (PV.qR (fs:=[_,_,_]) (f:=1) (off:=2) (T:=80) underlying80 rfl rfl (show ∀w,(isAgg 9).run _ w=.ok false w from isAgg9) rfl rfl)<|(bF) ?_;exact⟨by rw [← hy],(St.cg d)⟩
set_option maxHeartbeats 400000
theorem yF{ar:Option Addr}{cr c1 c2:Nat}(b:St w M Z w []):Calls prog 75 #[.slice ar r cr,.agg (x.row a1 n1 c1 a2 n2 c2).toArray] w fun e w'=>∃s m q,e=.returned (.pointer (some ⟨s,0,none⟩))∧St w M Z w' [As.blk s 157 (SD.cells ⟨ar,a1,a2,r,cr,n1,c1,n2,c2,m,q,s⟩ x),As.map Key.val m [],As.map Key.val q []]:=by
 refine enter func75 rfl ntmps75 rfl<|?_;have aR:=b;refine(dy) aR fun b3 w1 o p st1=>?_;refine(bf) bu st1.b0<|?_;refine WL.mm Key.val st1 fun d w2 t u st2=>?_;refine WL.mm Key.val st2 fun g w3 v y h=>?_;refine WP .r (PV.br (us:=(SD.cells ⟨ar,a1,a2,r,cr,n1,c1,n2,c2,d,g,0⟩ x)) P7 rfl rfl rfl)<|(dy) h fun z w4 D E j=>?_;refine(bF) ?_;exact⟨_,_,_,rfl,j.p3.drop.p2.p1⟩
end Go.Rc

