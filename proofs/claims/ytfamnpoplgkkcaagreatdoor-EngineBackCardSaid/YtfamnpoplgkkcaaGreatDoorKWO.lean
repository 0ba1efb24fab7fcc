/- Walks over the program, part WO. Conditions: as each theorem says. -/
import Derived.Test.YtfamnpoplgkkcaaGreatDoorKFacts
import Derived.Test.YtfamnpoplgkkcaaGreatDoorKWLibE
import Derived.Test.YtfamnpoplgkkcaaGreatDoorKBe
import Derived.Test.YtfamnpoplgkkcaaGreatDoorKBd
import Derived.Test.YtfamnpoplgkkcaaGreatDoorKWE
set_option linter.all false
namespace Go.Rc
open Go Go.Proofs Go.Proofs.Tryz
variable {n r c i r2 e2 n1 e1 n2:Nat}{w:World}{aa:List aF}{A B C M Z:Nat→Prop}{a a2 a1:Option Addr}{k:Key}{s:ByteArray}{l:List Rec}{ae:List ByteArray}{x:Rec}{f:FuncId}{cap:Value}
set_option maxHeartbeats 400000
theorem nP{n:Int} :CR prog 207 #[.int .i64 n] w ((bd n).val):=by
 refine enter func207 rfl ntmps207 rfl<|?_;have aM:=St.s0 w;refine(fF) aM fun b2 w1 e g st1=>?_;refine cv ?_;refine WC.eC (t:=8) (v:=.bool (decide (n<0) || decide (99<n))) st1 ?_<|?_
 ·
  refine(c7) (fun g5=>?_) (fun g5=>?_)
  ·
   exact(cP) (by simp only [g5];first | rfl | simp) (st1)
  exact(cP) (by simp only [g5];first | rfl | simp) (st1)
 intro w2 st2;refine(bl) (fun g8=>?_) fun g8=>?_
 ·
  have hk:bd n=de:=by unfold bd;rw [if_pos (by simp at g8;omega)]
  refine(dH) gz st2 fun w3 h j b=>?_;refine(nC) aq b.b0<|?_;rw [hk];exact⟨rfl,(St.cg b)⟩
 simp at g8
 have hk:bd n=⟨30,itoa n⟩:=by unfold bd;rw [if_neg (by omega)]
 refine(eO) (fS (n:=n) (by omega) (by omega) w2) st2 fun w3 m b=>?_;refine WP .r (PV.bA (us:=[.int .i64 30,.string (itoa n)]) vA rfl rfl rfl)<|(dH) gz b fun w4 o p d=>?_;refine(nC) aq d.b0<|?_;rw [hk];exact⟨rfl,(St.cg d)⟩
theorem tC{n:Int}(hr:eJ A w a r c aa):CR prog 202 #[.slice a r c,.int .i64 n] w (.tuple #[.int .i64 (block aa n).1,.int .i64 (block aa n).2]):=by
 have hle:=hr.le;have hlen:=hr.len;refine enter func202 rfl ntmps202 rfl<|?_;have aM:=St.s0 w;refine ho ?_;refine WC.eC (t:=15) (v:=.bool (decide (n<0) || decide ((r:Int)≤n))) aM ?_<|?_
 ·
  refine(c7) (fun g10=>?_) (fun g10=>?_)
  ·
   exact(cP) (by simp only [g10];first | rfl | simp) (aM)
  exact(cP) (by simp only [g10];first | rfl | simp) (aM)
 intro w1 st1;refine(bl) (fun g15=>?_) fun g15=>?_
 ·
  have hb:=rA aa n (by simp at g15;omega);refine(xt) ?_;exact⟨by rw [hb],(St.cg st1)⟩
 obtain⟨b,rfl⟩:∃i:Nat,n=i:=⟨n.toNat,by simp at g15;omega⟩
 have o:b<aa.length:=by simp at g15;omega
 have h:block aa b=if az aa b then ((aZ aa b:Int),(cF aa (b+1):Int)) else ((b:Int),(b:Int)+1):=by
  unfold block;rw [if_neg (by omega)];rfl
 refine ba ?_;refine nx ?_;obtain⟨X,Y,Ya,H,_,⟨q1,q2,q3,rfl,_⟩,J,_⟩:=(hr.ext (St.cg st1)).at (ah o);refine cM ?_;refine WP .r (PV.ef iI H rfl rfl (by omega))<|nx ?_;refine WP .r (PV.ld1 (j:=0) ed J rfl rfl)<|(bl) (fun g24=>?_) fun g24=>?_
 ·
  simp at g24
  have hb:block aa b=((b:Int),(b:Int)+1):=by rw [h,if_neg (by rw [bm o,g24];simp)]
  refine(xt) ?_;exact⟨by rw [hb],(St.cg st1)⟩
 simp at g24
 rw [if_pos (by rw [bm o];exact g24)] at h;refine cv ?_;refine WC.bq (σ:=Nat) (cX:=fun k=>[(0,.slice a r c),(6,.int .i64 (k:Int)),(7,.int .i64 ((b:Int)+1))]) (F:=fun k=>[]) (I:=fun k=>(k≤b)∧(aZ aa k=aZ aa b)∧True) (μ:=fun k=>k) (b) (st1) Sub.t (⟨Nat.le_refl _,rfl,trivial⟩)<|?_;rintro k w2 st2 ⟨hk,p,_⟩;simp only [CA,NA] at st2 hk p ⊢;refine cm ?_;refine WC.eC (t:=36) (v:=.bool (decide ((0:Int)<k) && az aa (k - 1))) st2 ?_<|?_
 ·
  refine(c7) (fun q=>?_) (fun q=>?_)
  ·
   simp at q
   obtain⟨b_y,o_y,r_y,K,_,⟨L,N,O,rfl,_⟩,P,_⟩:=(hr.ext (St.cg st2)).at (ah (show k - 1<aa.length by omega));have DF:aa[k-1].ring=az aa (k-1):=(bm (by omega)).symm;refine cM ?_;refine WP .r (PV.Bb iI (i:=k - 1) K rfl rfl (by omega) (by omega))<|nx ?_;refine WP .r (PV.ld1 (j:=0) ed P rfl rfl)<|?_;exact(cP) (by simp [*]) (st2)
  simp at q
  have Q:¬(0<k):=by omega
  exact(cP) (by simp [*]) (st2)
 intro w3 z;refine(bl) (fun d=>?_) fun d=>?_
 ·
  simp at d
  obtain⟨g1,g2⟩:=d;obtain⟨j,rfl⟩:∃j,k=j+1:=⟨k - 1,by omega⟩;refine oa ?_;refine fJ (j) ⟨z,⟨by omega,by rw [← p,lA (by simpa using g2)],trivial⟩⟩
 simp at d
 have R:(block aa b).1=k:=by
  rw [h]
  show(aZ aa b:Int)=k
  rw [← p,ny]
  by_cases h0:k=0
  ·
   exact .inl h0
  exact .inr (d (by omega))
 refine eE ?_;refine WC.bq (σ:=Nat) (cX:=fun m=>[(0,.slice a r c),(6,.int .i64 (k:Int)),(7,.int .i64 (m:Int))]) (F:=fun m=>[]) (I:=fun m=>(b+1≤m)∧(m≤r)∧(cF aa m=cF aa (b+1))∧True) (μ:=fun m=>r - m) (b+1) (z) Sub.t (⟨Nat.le_refl _,by omega,rfl,trivial⟩)<|?_;rintro m w4 e ⟨S,T,u,_⟩;simp only [CA,NA] at e S T u ⊢;refine cm ?_;refine WC.eC (t:=49) (v:=.bool (decide ((m:Int)<r) && az aa m)) e ?_<|?_
 ·
  refine(c7) (fun y=>?_) (fun y=>?_)
  ·
   simp at y
   obtain⟨b_z,o_z,r_z,U,_,⟨L,N,O,rfl,_⟩,V,_⟩:=(hr.ext (St.cg e)).at (ah (show m<aa.length by omega));have D:aa[m].ring=az aa m:=(bm (by omega)).symm
   have E:decide ((m:Int)<r)=true:=by simp;omega
   refine cm ?_;refine WP .r (PV.ef iI U rfl rfl (by omega))<|nx ?_;refine WP .r (PV.ld1 (j:=0) ed V rfl rfl)<|?_;exact(cP) (by first | (rw [D,E];rfl) | simp [*]) (e)
  simp at y
  have Q:¬(m<aa.length):=by omega
  exact(cP) (by first | (rw [D,E];rfl) | simp [*]) (e)
 intro w5 G;refine(bl) (fun g=>?_) fun g=>?_
 ·
  simp at g
  obtain⟨g3,g4⟩:=g;refine oa ?_;refine fJ (m+1) ⟨G,⟨by omega,by omega,by rw [← u,← nv g4],trivial⟩⟩
 simp at g
 have W:(block aa b).2=m:=by
  rw [h]
  show(cF aa (b+1):Int)=m
  rw [← u,oO]
  rcases Nat.lt_or_ge m r with h0 | h0
  ·
   exact g (by omega)
  exact iR (by omega)
 refine ba ?_;refine(xt) ?_;exact⟨by rw [R,W],(St.cg G)⟩
theorem kZ{cell:Bool}{n:Int}(hr:eJ A w a r c aa) (hi:i<aa.length):CR prog 148 #[.slice a r c,.int .i64 (i:Int),.bool cell,.int .i64 n] w (.bool (eK aa i cell n)):=by
 have hle:=hr.le;have hlen:=hr.len;have g:=bm hi;have o:=xz hi
 have ht:eR aa i=if aa[i].ring=true then (block aa (i:Int)).2 else (block aa (i:Int)).1:=by unfold eR;rw [g]
 refine enter func148 rfl ntmps148 rfl<|?_;have aM:=St.s0 w;refine(bl) (fun g11=>?_) fun g11=>?_
 ·
  refine nx ?_;refine WC.iT (t:=8) (v:=.bool (decide (0≤n) && decide (n≤15))) aM ?_<|?_
  ·
   refine(c7) (fun g14=>?_) (fun g14=>?_)
   ·
    exact(fB) (by simp only [g14];first | rfl | simp) (aM)
   exact(fB) (by simp only [g14];first | rfl | simp) (aM)
  intro w1 st1;refine(bJ) ?_;exact⟨by unfold eK;rw [if_pos g11],(St.cg st1)⟩
 refine(eO) (tC (n:=(i:Int)) (hr.ext (St.cg aM))) aM fun w1 s1 st1=>?_;refine ho ?_;obtain⟨p,q,u,h,_,⟨q1,y,z,rfl,_⟩,m,_⟩:=(hr.ext (St.cg st1)).at (ah hi);refine WC.iT (t:=8) (v:=.bool (decide (0≤n) && decide (n<eR aa i))) st1 ?_<|?_
 ·
  refine(c7) (fun b=>?_) (fun b=>?_)
  ·
   refine(c7) (fun d=>?_) (fun d=>?_)
   ·
    refine ba ?_;exact(fB) (by rw [ht];first | (simp [b,d];done) | (simp at b d;simp [b,d];done) | (simp at b d ⊢;split <;> omega) | (simp at b d;simp [b,d];omega)) (st1)
   refine cm ?_;refine WP .r (PV.ef iI h rfl rfl (by omega))<|nx ?_;refine WP .r (PV.ld1 (j:=0) ed m rfl rfl)<|(c7) (fun e=>?_) (fun e=>?_)
   ·
    exact(fB) (by rw [ht];first | (simp [b,d,e];done) | (simp at b d e;simp [b,d,e];done) | (simp at b d e ⊢;split <;> omega) | (simp at b d e;simp [b,d,e];omega)) (st1)
   exact(fB) (by rw [ht];first | (simp [b,d,e];done) | (simp at b d e;simp [b,d,e];done) | (simp at b d e ⊢;split <;> omega) | (simp at b d e;simp [b,d,e];omega)) (st1)
  refine ba ?_;exact(fB) (by rw [ht];first | (simp [b];done) | (simp at b;simp [b];done) | (simp at b ⊢;split <;> omega) | (simp at b;simp [b];omega)) (st1)
 intro w2 st2;refine(bJ) ?_;exact⟨by unfold eK;rw [g11];rfl,(St.cg st2)⟩
theorem me{k:Nat}{x:Ask}(hr:eJ A w a r c aa) (hi:i<aa.length):CR prog 104 #[.slice a r c,.int .i64 (i:Int),x.val,.bool (decide ((k:Int)=0))] w (.bool (fG aa i aa[i].ring k x)):=by
 have hle:=hr.le;have hlen:=hr.len;obtain⟨q,u,y,g,_,⟨q1,z,D,rfl,_⟩,h,_⟩:=hr.at (ah hi);have e:(fG aa i aa[i].ring k x)=(eK aa i x.cell x.n && (if x.pick then !aa[i].ring && decide (k≠0) && eK aa i x.cell x.zj else decide (x.zj=0))):=rfl;rw [e]
 clear e
 have b:decide ((k:Int)=0)=decide (k=0):=by simp
 refine enter func104 rfl ntmps104 rfl<|?_;have aM:=St.s0 w;refine(dt) aM fun E w1 F G st1=>?_;refine dz ?_;refine WC.eC (t:=30) (v:=.bool ((x.pick && (aa[i].ring || decide (k=0))) || !eK aa i x.cell x.n)) st1 ?_<|?_
 ·
  refine(bF) ed st1.b0<|(c7) (fun g11=>?_) (fun g11=>?_)
  ·
   refine cm ?_;refine WP .r (PV.ef iI g rfl rfl (by omega))<|nx ?_;refine WP .r (PV.ld1 (j:=0) ed (aS h (St.cg st1) (by simp)) rfl rfl)<|(c7) (fun g17=>?_) (fun g17=>?_)
   ·
    refine ba ?_;exact(cP) (by first | (simp only [g11,g17,← b];rfl) | (simp [g11,g17,b];done) | (simp at g11 g17;simp [g11,g17,b];done) | (simp at g11 g17;simp_all;done)) (st1)
   refine(c7) (fun g21=>?_) (fun g21=>?_)
   ·
    exact(cP) (by first | (simp only [g11,g17,g21,← b];rfl) | (simp [g11,g17,g21,b];done) | (simp at g11 g17 g21;simp [g11,g17,g21,b];done) | (simp at g11 g17 g21;simp_all;done)) (st1)
   refine(bF) ed st1.b0<|(bF) aT st1.b0<|(eO) (kZ (cell:=x.cell) (n:=x.n) (hr.ext (St.cg st1)) hi) st1 fun w2 s2 st2=>?_;exact(cP) (by first | (simp only [g11,g17,g21,← b];rfl) | (simp [g11,g17,g21,b];done) | (simp at g11 g17 g21;simp [g11,g17,g21,b];done) | (simp at g11 g17 g21;simp_all;done)) (st2)
  refine ba ?_;refine(bF) ed st1.b0<|(bF) aT st1.b0<|(eO) (kZ (cell:=x.cell) (n:=x.n) (hr.ext (St.cg st1)) hi) st1 fun w2 s2 st2=>?_;exact(cP) (by first | (simp only [g11,← b];rfl) | (simp [g11,b];done) | (simp at g11;simp [g11,b];done) | (simp at g11;simp_all;done)) (st2)
 intro w2 st2;refine(bl) (fun m=>?_) fun m=>?_
 ·
  refine(bJ) ?_;exact⟨by cases hm:eK aa i x.cell x.n <;> cases H:x.pick <;> cases o:aa[i].ring <;> by_cases h0:k=0 <;> simp_all,(St.cg st2)⟩
 refine(bF) ed st2.b0<|(bl) (fun d=>?_) fun d=>?_
 ·
  simp at d
  refine(bF) aT st2.b0<|(bJ) ?_;exact⟨by cases hm:eK aa i x.cell x.n <;> simp_all,(St.cg st2)⟩
 simp at d
 refine(bF) ed st2.b0<|(bF) aT st2.b0<|(eO) (kZ (cell:=x.cell) (n:=x.zj) (hr.ext (St.cg st2)) hi) st2 fun w3 I p=>?_;refine(bJ) ?_;exact⟨by cases hm:eK aa i x.cell x.n <;> cases o:aa[i].ring <;> by_cases h0:k=0 <;> simp_all,(St.cg p)⟩
theorem pW(hr:eJ A w a r c aa) (N:ao aa):CR prog 62 #[.slice a r c] w (.bool true):=by
 have hle:=hr.le;have hlen:=hr.len;have DC:=N.1;refine enter func62 rfl ntmps62 rfl<|?_;have aM:=St.s0 w;refine ba ?_;refine(bl) (fun g12=>?_) fun g12=>?_
 ·
  exact cI g12
 ·
  refine hY ?_;refine WC.bq (σ:=Nat) (cX:=fun i=>[(0,.slice a r c),(13,.slice a r c),(14,.int .i64 (r:Int)),(15,.int .i64 (i:Int))]) (F:=fun i=>[]) (I:=fun i=>(i≤r)∧True) (μ:=fun i=>r - i) (0) (aM) Sub.t (⟨by omega,trivial⟩)<|?_;rintro i w1 st1 ⟨hi,_⟩;simp only [CA,NA] at st1 hi ⊢;refine(bl) (fun g16=>?_) fun g16=>?_
  ·
   simp at g16
   have E:i<aa.length:=by omega
   obtain⟨TV,O,q⟩:=N.2 i _ (ah E)
   unfold oT at q
   obtain⟨b_x,o_x,Ya,Q,_,⟨q1,j,P,rfl,G⟩,R,_⟩:=hr.at (ah E);have CZ:=G.len;refine eE ?_;refine WP .r (PV.ef iI Q rfl rfl (by omega))<|(bS) Cs (aS R (St.cg st1) (by simp))<|(fF) st1 fun b4 w2 FK FL st2=>?_;refine(dH) EY st2 fun w3 oB qx b=>?_;refine ba ?_;refine(bF) ed b.b0<|(bl) (fun g21=>?_) fun g21=>?_
   ·
    rw [if_pos g21] at q
    simp at q
    refine ho ?_;refine WC.eC (t:=48) (v:=.bool false) b ?_<|?_
    ·
     refine(bF) ma b.b0<|(c7) (fun d=>?_) (fun d=>?_)
     ·
      refine ba ?_;exact(cP) (tG d) (b)
     refine(bF) aT b.b0<|(c7) (fun e=>?_) (fun e=>?_)
     ·
      refine ba ?_;exact(cP) (tG (aj d e)) (b)
     refine(bF) aT b.b0<|(c7) (fun g=>?_) (fun g=>?_)
     ·
      exact(cP) (tG (aj d<|aj e g)) (b)
     refine(bF) aT b.b0<|(c7) (fun m=>?_) (fun m=>?_)
     ·
      exact(cP) (tG (aj d<|aj e<|aj g m)) (b)
     refine(bF) aT b.b0<|?_;exact(cP) (tG (aj d<|aj e<|aj g m)) (b)
    intro w4 y;refine(bl) (fun z=>?_) fun z=>?_
    ·
     exact cI z
    refine(bF) ma y.b0<|dz ?_;refine WC.bq (σ:=Nat) (cX:=fun k=>[(0,.slice a r c),(3,.int .i64 (i:Int)),(13,.slice a r c),(14,.int .i64 (r:Int)),(15,.int .i64 (i:Int)),(50,.slice q1 j P),(51,.int .i64 (j:Int)),(52,.int .i64 (k:Int))]) (F:=fun k=>[]) (I:=fun k=>(k≤j)∧True) (μ:=fun k=>j - k) (0) (y) Sub.t (⟨by omega,trivial⟩)<|?_;rintro k w5 h ⟨hk,_⟩;simp only [CA,NA] at h hk ⊢;refine(bl) (fun o=>?_) fun o=>?_
    ·
     simp at o
     have D:k<aa[i].asks.length:=by omega
     obtain⟨S,T,U,H,_,rfl,J,_⟩:=(G.ext (St.cg h)).at (ah D);refine eE ?_;refine WP .r (PV.ef EW H rfl rfl (by omega))<|(bS) mS J<|(fF) h fun V w6 W X K=>?_;refine(dH) vG K fun w7 Ap uV p=>?_;refine(bS) mS p.b0<|cm ?_;refine WL.c1 (u:=.bool true) (me (k:=k) (x:=aa[i].asks[k]) (hr.ext (St.cg p)) E) (by rw [show fG aa i aa[i].ring k aa[i].asks[k]=true from O k _ (ah D)]) p fun Y s8 L=>?_;refine cM ?_;refine WC.dw rfl<|eE ?_;refine fJ (k+1) ⟨L.drop,⟨by omega,trivial⟩⟩
    simp at o
    refine mG ?_;refine fJ (i+1) ⟨h.drop,⟨by omega,trivial⟩⟩
   rw [if_neg (by simp [g21])] at q
   simp at q
   refine cv ?_;refine WC.eC (t:=48) (v:=.bool false) b ?_<|?_
   ·
    refine(bF) ma b.b0<|(c7) (fun d=>?_) (fun d=>?_)
    ·
     refine ba ?_;exact(cP) (tG d) (b)
    refine(bF) aT b.b0<|(c7) (fun e=>?_) (fun e=>?_)
    ·
     refine ba ?_;exact(cP) (tG (aj d e)) (b)
    refine(bF) aT b.b0<|(c7) (fun g=>?_) (fun g=>?_)
    ·
     exact(cP) (tG (aj d<|aj e g)) (b)
    refine(bF) aT b.b0<|(c7) (fun m=>?_) (fun m=>?_)
    ·
     exact(cP) (tG (aj d<|aj e<|aj g m)) (b)
    refine(bF) aT b.b0<|?_;exact(cP) (tG (aj d<|aj e<|aj g m)) (b)
   intro w4 y;refine(bl) (fun z=>?_) fun z=>?_
   ·
    exact cI z
   refine(bF) ma y.b0<|dz ?_;refine WC.bq (σ:=Nat) (cX:=fun k=>[(0,.slice a r c),(3,.int .i64 (i:Int)),(13,.slice a r c),(14,.int .i64 (r:Int)),(15,.int .i64 (i:Int)),(50,.slice q1 j P),(51,.int .i64 (j:Int)),(52,.int .i64 (k:Int))]) (F:=fun k=>[]) (I:=fun k=>(k≤j)∧True) (μ:=fun k=>j - k) (0) (y) Sub.t (⟨by omega,trivial⟩)<|?_;rintro k w5 h ⟨hk,_⟩;simp only [CA,NA] at h hk ⊢;refine(bl) (fun o=>?_) fun o=>?_
   ·
    simp at o
    have D:k<aa[i].asks.length:=by omega
    obtain⟨S,T,U,H,_,rfl,J,_⟩:=(G.ext (St.cg h)).at (ah D);refine eE ?_;refine WP .r (PV.ef EW H rfl rfl (by omega))<|(bS) mS J<|(fF) h fun V w6 W X K=>?_;refine(dH) vG K fun w7 Jj zt p=>?_;refine(bS) mS p.b0<|cm ?_;refine WL.c1 (u:=.bool true) (me (k:=k) (x:=aa[i].asks[k]) (hr.ext (St.cg p)) E) (by rw [show fG aa i aa[i].ring k aa[i].asks[k]=true from O k _ (ah D)]) p fun Y s8 L=>?_;refine cM ?_;refine WC.dw rfl<|eE ?_;refine fJ (k+1) ⟨L.drop,⟨by omega,trivial⟩⟩
   simp at o
   refine mG ?_;refine fJ (i+1) ⟨h.drop,⟨by omega,trivial⟩⟩
  simp at g16
  refine(bJ) ?_;exact⟨rfl,(St.cg st1)⟩
 -- jU dK C63
theorem tD(ht:kb prog A w) (hn:n≤65535):CR prog 206 #[.string (itoa (n:Int))] w (.int .i64 (n:Int)):=by
 refine enter func206 rfl ntmps206 rfl<|?_;have aM:=St.s0 w;refine(eO) (vK (n:=n) (by omega) w) aM fun w1 s1 st1=>?_;refine oa ?_;refine WC.eC (t:=25) (v:=.bool false) st1 ?_<|?_
 ·
  refine cm ?_;refine WP .r (PV.HC tq rfl)<|nx ?_;refine WL.bX (t:=12) rfl (fun g12=>?_) (fun g12=>?_)
  ·
   refine ba ?_;exact(cP) (tG g12) (st1)
  refine cv ?_;refine WL.bX (t:=16) rfl (fun g16=>?_) (fun g16=>?_)
  ·
   exact(cP) (tG (aj g12 g16)) (st1)
  refine cv ?_;refine WL.bX (t:=20) rfl (fun g20=>?_) (fun g20=>?_)
  ·
   exact(cP) (tG (aj g12<|aj g16 g20)) (st1)
  refine(eO) (kY (n:=(n:Int)) (ht.ext (St.cg st1)) (by omega) (by omega)) st1 fun w2 s2 st2=>?_;exact(cP) (tG (aj g12<|aj g16 g20)) (st2)
 intro w2 st2;refine(bl) (fun b=>?_) fun b=>?_
 ·
  exact cI b
 refine(bJ) ?_;exact⟨rfl,(St.cg st2)⟩
theorem tE(ht:kb prog A w) (g:s.size≤1000) (b:∀n:Nat,n≤65535→s≠itoa (n:Int)):CR prog 206 #[.string s] w (.int .i64 0):=by
 refine enter func206 rfl ntmps206 rfl<|?_;have aM:=St.s0 w;refine(c6) GN (CY (s:=s) (ht.ext (St.cg aM)) g) ?_;rintro _ w1 ⟨v,ok,ev,rfl,j,h,s1⟩;have st1:=aM.step s1;refine oa ?_;refine WC.eC (t:=25) (v:=.bool true) st1 ?_<|?_
 ·
  refine cm ?_;refine WP .r (PV.LK tq rfl h)<|(c7) (fun g12=>?_) (fun g12=>?_)
  ·
   refine ba ?_;exact(cP) (by first | (simp [g12];done) | (simp at g12 ⊢;intro e;exact b v.toNat (by omega) (by rw [show((v.toNat:Nat):Int)=v by omega];exact e.symm))) (st1)
  refine(c7) (fun g16=>?_) (fun g16=>?_)
  ·
   exact(cP) (by first | (simp [g12,g16];done) | (simp at g12 g16 ⊢;intro e;exact b v.toNat (by omega) (by rw [show((v.toNat:Nat):Int)=v by omega];exact e.symm))) (st1)
  refine(c7) (fun g20=>?_) (fun g20=>?_)
  ·
   exact(cP) (by first | (simp [g12,g16,g20];done) | (simp at g12 g16 g20 ⊢;intro e;exact b v.toNat (by omega) (by rw [show((v.toNat:Nat):Int)=v by omega];exact e.symm))) (st1)
  refine(eO) (kY (n:=v) (ht.ext (St.cg st1)) (by omega) (by omega)) st1 fun w2 s2 st2=>?_;exact(cP) (by first | (simp [g12,g16,g20];done) | (simp at g12 g16 g20 ⊢;intro e;exact b v.toNat (by omega) (by rw [show((v.toNat:Nat):Int)=v by omega];exact e.symm))) (st2)
 intro w2 st2;refine(bl) (fun d=>?_) fun d=>?_
 ·
  refine(bJ) ?_;exact⟨rfl,(St.cg st2)⟩
 exact cI d
theorem nQ(ht:kb prog A w) (b:s.size≤1000):CR prog 206 #[.string s] w (.int .i64 (ct s:Int)):=by
 by_cases h:∃n:Nat,n≤65535∧s=itoa (n:Int)
 ·
  obtain⟨n,hn,rfl⟩:=h;rw [dc hn];exact tD ht hn
 have h0:∀n:Nat,n≤65535→s≠itoa (n:Int):=fun n hn e=>h ⟨n,hn,e⟩;rw [zA h0];exact tE ht b h0
theorem qQ{kd:Int}{l:List Nat}(hl:Ints A w a r c (l.map fun x:Nat=>(x:Int))) (g:∀x∈l,x≤65535) (hr:r≤1000):CR prog 208 #[.int .i64 kd,.slice a r c] w (.int .i64 (cU kd 0 l:Int)):=by
 have hle:=SR.le hl;have hlen:=SR.len hl;rw [List.length_map] at hlen;have m:∀i,∀x∈l.take i,x≤65535:=fun i x p=>g x (List.mem_of_mem_take p);refine enter func208 rfl ntmps208 rfl<|?_;have aM:=St.s0 w;refine ba ?_;refine oa ?_;refine WC.bq (σ:=Nat) (cX:=fun i=>[(0,.int .i64 kd),(5,.int .i64 (mB 0 (l.take i):Int)),(6,.int .i64 (oQ 0 (l.take i):Int)),(7,.int .i64 (dy 0 (l.take i):Int)),(10,.slice a r c),(11,.int .i64 (r:Int)),(12,.int .i64 (i:Int))]) (F:=fun i=>[]) (I:=fun i=>(i≤r)∧True) (μ:=fun i=>r - i) (0) (aM) Sub.t (⟨by omega,trivial⟩)<|?_;rintro i w1 st1 ⟨hi,_⟩;simp only [CA,NA] at st1 hi ⊢;refine(bl) (fun g13=>?_) fun g13=>?_
 ·
  simp at g13
  have h:i<l.length:=by omega
  have q:i<(l.map fun x:Nat=>(x:Int)).length:=by simpa using h
  have u:=yH (c:=0) (m i);have v:=oR (c:=0) (by omega) (m i);have y:=lC (c:=0) (by omega) (m i);have E:=g l[i] (List.getElem_mem h)
  have G:(l.take i).length≤1000:=by rw [List.length_take];omega
  have e1:=zq (c:=0) h;have e2:=xo (c:=0) h;have e3:=xp (c:=0) h;refine dz ?_;obtain⟨H,J,K,z,_,rfl,o,_⟩:=(SR.ext hl (St.cg st1)).at (ah q);rw [List.getElem_map] at o;refine nx ?_;refine WP .r (PV.ef x8 z rfl rfl (by omega))<|WP .r (PV.j1 aT o rfl rfl)<|oa ?_;refine WP .r (PV.DV rfl rfl)<|cm ?_;refine WP .r (PV.orN rfl rfl (by omega) (by omega))<|mG ?_;refine fJ (i+1) ⟨st1,⟨by omega,trivial⟩⟩
 simp at g13
 have D:l.take i=l:=List.take_of_length_le (by omega);rw [D];have u:=yH (c:=0) g;have v:=oR (c:=0) (by omega) g;have y:=lC (c:=0) (by omega) g
 have L:l.length≤1000:=by omega
 refine ba ?_;refine(bl) (fun b=>?_) fun b=>?_
 ·
  simp at b
  refine(bJ) ?_;exact⟨by unfold cU;rw [if_pos b,Int.tmod_eq_emod_of_nonneg (by omega)];rfl,(St.cg st1)⟩
 simp at b
 refine(bl) (fun d=>?_) fun d=>?_
 ·
  simp at d
  refine cM ?_;refine WP .r (PV.quo rfl rfl (by omega) (by rw [Int.tdiv_eq_ediv_of_nonneg (by omega)];omega) (by rw [Int.tdiv_eq_ediv_of_nonneg (by omega)];omega))<|(bJ) ?_;exact⟨by unfold cU;rw [if_neg b,if_pos d,Int.tdiv_eq_ediv_of_nonneg (by omega),Int.tmod_eq_emod_of_nonneg (by omega)];rfl,(St.cg st1)⟩
 simp at d
 refine(bl) (fun e=>?_) fun e=>?_
 ·
  simp at e
  refine(bJ) ?_;exact⟨by unfold cU;rw [if_neg b,if_neg d,if_pos e],(St.cg st1)⟩
 simp at e
 refine(bl) (fun j=>?_) fun j=>?_
 ·
  simp at j
  refine(bJ) ?_;exact⟨by unfold cU;rw [if_neg b,if_neg d,if_neg e,if_pos j,Int.tmod_eq_emod_of_nonneg (by omega)];rfl,(St.cg st1)⟩
 simp at j
 refine(bJ) ?_;exact⟨by unfold cU;rw [if_neg b,if_neg d,if_neg e,if_neg j],(St.cg st1)⟩
set_option maxHeartbeats 1600000 in
theorem vU(ht:kb prog A w) (X:ao aa) (hi:i<aa.length) (hr:eJ B w a r c aa) (hl:Strs C w a2 r2 e2 ae) (hsz:∀s∈ae,s.size≤1000):CR prog 155 #[.slice a r c,(aK aa (i:Int)).val,.slice a2 r2 e2] w ((bP aa (aK aa (i:Int)) ae).val):=by
 have DC:=X.len
 have gT:i≤99:=by omega
 have hle:=hr.le;have hlen:=hr.len;have CX:=hl.len;have Aq:=hl.le
 obtain⟨kd,Yb,hk⟩:∃kd:Int,(kd=31∨kd=32)∧aK aa (i:Int)=⟨kd,itoa i⟩:=by
  unfold aK
  rw [if_neg (by omega)]
  cases h:az aa i
  ·
   exact⟨31,.inl rfl,by simp [h]⟩
  exact⟨32,.inr rfl,by simp [h]⟩
 have O:=br hi gT;obtain⟨TV,TW,abr⟩:=X.2 i _ (ah hi);have TX:=ao.hb X _ (List.getElem_mem hi);obtain⟨g,Yc⟩:∃g:Nat,aa[i].c=g:=⟨aa[i].c.toNat,by omega⟩;obtain⟨b_x,o_x,Ya,vV,_,⟨q1,b,q3,rfl,GP⟩,Oi,_⟩:=hr.at (ah hi);rw [Yc] at Oi;have CZ:=GP.len;rw [hk] at O ⊢;refine enter func155 rfl ntmps155 rfl<|?_;have aM:=St.s0 w;refine(dt) aM fun b4 w1 FK FL st1=>?_;refine(fF) st1 fun b6 w2 Jp Jq st2=>?_;refine(bS) aq st2.b1<|(eO) (ic (k:=(⟨kd,itoa i⟩:Key)) ⟨by simp only [];omega,by simp only [];omega⟩ rfl gT) st2 fun w3 s3 Y=>?_;refine dz ?_;refine WC.eC (t:=30) (v:=.bool false) Y ?_<|?_
 ·
  have TY:=Y.cu;refine WC.dN (m:=12) (E:=cO [(10,fun v _=>v=(aK aa (i:Int)).val)]) Y (ca (⟨fun _ _ _ _ _ _ _ h=>h,trivial⟩)) mixed (by kernel_rfl)<|cM ?_;refine DW.bX (t:=19) rfl (fun g19=>?_) (fun g19=>?_)
  ·
   refine(da) ?_;rintro w4 ⟨qR,D⟩ _;exact(cP) (by first | rfl | (simp [g19,hk];done) | (simp [g19,hk];omega) | (simp only [g19];done) | (simp only [g19];rfl) | (simp [g19];done) | (simp;done) | (simp at g19 ⊢ <;> omega) | (simp <;> omega) | (simp [g19] <;> omega) | (simp at g19 <;> omega)) (D)
  refine(kf) aT St.g1<|cM ?_;refine DW.bX (t:=24) rfl (fun g24=>?_) (fun g24=>?_)
  ·
   refine(da) ?_;rintro w4 ⟨qR,D⟩ _;exact(cP) (by first | rfl | (simp [g19,g24,hk];done) | (simp [g19,g24,hk];omega) | (simp only [g19,g24];done) | (simp only [g19,g24];rfl) | (simp [g19,g24];done) | (simp;done) | (simp at g19 g24 ⊢ <;> omega) | (simp <;> omega) | (simp [g19,g24] <;> omega) | (simp at g19 g24 <;> omega)) (D)
  refine cm ?_;refine DW.c0 (fun wx hC hF=>j9 (n:=(i:Int)) (hr.ext (St.cg hC.2)))<|(iN) aq St.g1<|(da)<|?_;rintro w4 ⟨qR,D⟩ ⟨_,_⟩;refine WP .r (PV.Kx fP (p:=aK aa (i:Int)) (q:=(⟨kd,itoa i⟩:Key)) rfl rfl)<|?_;exact(cP) (by first | rfl | (simp [g19,g24,hk];done) | (simp [g19,g24,hk];omega) | (simp only [g19,g24];done) | (simp only [g19,g24];rfl) | (simp [g19,g24];done) | (simp;done) | (simp at g19 g24 ⊢ <;> omega) | (simp <;> omega) | (simp [g19,g24] <;> omega) | (simp at g19 g24 <;> omega)) (D)
 intro w4 D;refine(bl) (fun Yd=>?_) fun Yd=>?_
 ·
  exact cI Yd
 refine fE ?_;refine WP .r (PV.Bb iI (i:=i) vV rfl rfl (by omega) (by omega))<|(bS) Cs (aS Oi (St.cg D) (by simp))<|(fF) D fun b8 w5 nw8 hb8 mf=>?_;refine(dH) EY mf fun w6 oB qx K=>?_;refine ba ?_;refine(bF) ma K.b0<|(bl) (fun TZ=>?_) fun TZ=>?_
 ·
  simp at TZ
  have hn:r2<aa[i].asks.length:=by omega
  have z:=gF (ae:=ae) O hi (by rw [O];exact hk) (show ae.length<aa[i].asks.length by omega);simp only [← CX] at z
  have Jt:r2=0→aa[i].asks[r2].pick=false:=fun h0=>by
   have:=TW r2 _ (ah hn)
   cases hp:aa[i].asks[r2].pick
   ·
    rfl
   unfold fG at this
   rw [hp] at this
   simp [h0] at this
  refine nx ?_;obtain⟨b_y,o_y,r_y,T0,_,rfl,T1,_⟩:=(GP.ext (St.cg K)).at (ah hn);refine(bF) ma K.b0<|nx ?_;refine WP .r (PV.ef EW T0 rfl rfl (by omega))<|(bS) mS T1<|(fF) K fun QR w7 FM FN P=>?_;refine(dH) vG P fun w8 Ap uV o=>?_;refine(bF) aT o.b0<|dz ?_;refine WC.eC (t:=65) (v:=.bool (fT aa[i].asks[r2] ae)) o ?_<|?_
  ·
   refine(bF) ed o.b0<|nx ?_;refine WL.bX (t:=52) rfl (fun U=>?_) (fun U=>?_)
   ·
    refine cv ?_;refine WL.bX (t:=56) rfl (fun Ar=>?_) (fun Ar=>?_)
    ·
     simp at Ar
     obtain⟨b_z,o_z,r_z,T2,_,rfl,T3,_⟩:=(hl.ext (St.cg o)).at (ah (show r2 - 1<ae.length by omega))
     have yP:fT aa[i].asks[r2] ae=decide ((ct ae[r2 - 1]:Int).tmod 2=0):=by
      unfold fT
      simp only [U,← CX,Bool.true_and];rw [decide_eq_false (by omega),Bool.false_or,getElem!_pos ae (r2 - 1) (by omega),Int.tmod_eq_emod_of_nonneg (by omega)]
      congr 1
      exact propext ⟨fun h=>by omega,fun h=>by omega⟩
     refine cM ?_;refine WP .r (PV.Bb vE (i:=r2 - 1) T2 rfl rfl (by omega) (by omega))<|WP .r (PV.j1 e4 T3 rfl rfl)<|(eO) (nQ (s:=ae[r2 - 1]) (ht.ext (St.cg o)) (hsz _ (List.getElem_mem _))) o fun w9 s9 d=>?_;exact(cP) (by rw [yP]) (d)
    exact absurd (Jt (by simp at Ar;omega)) (by simp [U])
   have yP:fT aa[i].asks[r2] ae=false:=by unfold fT;rw [U];rfl
   refine ba ?_;exact(cP) (by rw [yP]) (o)
  intro w9 d;refine(bl) (fun Jo=>?_) fun Jo=>?_
  ·
   have Q:oS aa[i].asks[r2] ae=aa[i].asks[r2].zj:=by unfold oS;rw [if_pos Jo]
   refine(bF) aT d.b0<|(bF) ed d.b0<|(bl) (fun J=>?_) fun J=>?_
   ·
    rw [Q,if_pos J] at z;refine(eO) (nP) d fun S V y=>?_;refine WP .r (PV.bA (us:=[.bool false,.string ⟨#[]⟩,.int .i64 (bd _).kind,.string (bd _).text]) vC rfl rfl rfl)<|(dH) mb y.p2 fun T Jj zt e=>?_;refine(nC) mT e.b0<|?_;rw [z];exact⟨rfl,(St.cg e)⟩
   rw [Q,if_neg (by simp [J])] at z;refine(eO) (j9 (hr.ext (St.cg d))) d fun S V y=>?_;refine WP .r (PV.bA (us:=[.bool false,.string ⟨#[]⟩,.int .i64 (aK aa _).kind,.string (aK aa _).text]) vC rfl rfl rfl)<|(dH) mb y.p2 fun T T4 T5 e=>?_;refine(nC) mT e.b0<|?_;rw [z];exact⟨rfl,(St.cg e)⟩
  have Q:oS aa[i].asks[r2] ae=aa[i].asks[r2].n:=by unfold oS;rw [if_neg (by simp [Jo])]
  refine(bF) ed d.b0<|(bl) (fun J=>?_) fun J=>?_
  ·
   rw [Q,if_pos J] at z;refine(eO) (nP) d fun S V y=>?_;refine WP .r (PV.bA (us:=[.bool false,.string ⟨#[]⟩,.int .i64 (bd _).kind,.string (bd _).text]) vC rfl rfl rfl)<|(dH) mb y.p2 fun T Ye QA e=>?_;refine(nC) mT e.b0<|?_;rw [z];exact⟨rfl,(St.cg e)⟩
  rw [Q,if_neg (by simp [J])] at z;refine(eO) (j9 (hr.ext (St.cg d))) d fun S V y=>?_;refine WP .r (PV.bA (us:=[.bool false,.string ⟨#[]⟩,.int .i64 (aK aa _).kind,.string (aK aa _).text]) vC rfl rfl rfl)<|(dH) mb y.p2 fun T T6 T7 e=>?_;refine(nC) mT e.b0<|?_;rw [z];exact⟨rfl,(St.cg e)⟩
 simp at TZ
 have z:=iq (ae:=ae) O hi (by rw [O];exact hk) (show aa[i].asks.length≤ae.length by omega);rw [← CZ,Yc,Int.toNat_natCast] at z
 have KO:∀x∈(ae.take b).map ct,x≤65535:=fun x G=>by obtain⟨s,_,rfl⟩:=List.mem_map.1 G;exact lB s
 have Kz:=mC (kind:=aa[i].final) (c:=g) (l:=(ae.take b).map ct) (by omega) KO
 have hll:((ae.take b).map ct).length=b:=by rw [List.length_map,List.length_take];omega
 refine(bF) aT K.b0<|?_;refine WL.go rfl (OX.bf (us:=[.int .i64 (g:Int)]) Cv rfl rfl rfl rfl fun Yf w7 Oj T8=>?_);have P:=St.n0 (R:=RR.int) (E:=3) (k:=1) (a:=some ⟨Yf,0,none⟩) (n:=1) (c:=1) (xs:=[(g:Int)]) K Oj.ext (OR.dU T8 (Nat.zero_le _) rfl (by simp [Value.oneCell']) rfl) (fun x G=>by simp [bN] at G;subst G;exact Oj.ge);refine(bF) ma P.b1<|nx ?_;refine WP .r (PV.sB vE (hl.ext (St.cg P)) rfl rfl (by omega))<|dz ?_;refine WC.bq (σ:=Nat × (Option Addr) × Nat × Nat) (cX:=fun(j,L,H,N)=>[(6,.pointer (some ⟨b6,0,none⟩)),(8,.pointer (some ⟨b8,0,none⟩)),(12,.slice L H N),(84,.slice a2 b e2),(85,.int .i64 (b:Int)),(86,.int .i64 (j:Int))]) (F:=fun(j,L,H,N)=>[As.os RR.int 3 1 L H N ((((g::((ae.take b).map ct).take j)).map fun x:Nat=>(x:Int)))]) (I:=fun(j,L,H,N)=>(j≤b)∧True) (μ:=fun(j,L,H,N)=>b - j) (0,(some ⟨Yf,0,none⟩),1,1) (P) Sub.t (⟨by omega,trivial⟩)<|?_;rintro⟨j,L,H,N⟩ w8 o ⟨hj,_⟩;simp only [CA,NA] at o hj ⊢;have y9:=((As.gs o.g0)).len
 have Ol:H≤1+j:=by have h0:=y9;simp at h0;omega
 refine(bl) (fun FO=>?_) fun FO=>?_
 ·
  simp at FO
  have Ju:j<ae.length:=by omega
  obtain⟨b_u,o_u,r_u,T9,_,rfl,Ua,_⟩:=(hl.ext (St.cg o)).at (ah Ju);refine fE ?_;refine WP .r (PV.ef vE T9 rfl rfl (by omega))<|WP .r (PV.j1 e4 Ua rfl rfl)<|(eO) (nQ (s:=ae[j]) (ht.ext (St.cg o)) (hsz _ (List.getElem_mem _))) o fun w9 s9 d=>?_;refine WL.go rfl (OX.bf (us:=[.int .i64 (ct ae[j]:Int)]) Cv rfl rfl rfl rfl fun Om S Jv Jw=>?_);have y:=d.dG Jv Jw;refine WL.ap rfl rfl y.p1 (SR.dU (A:=fun _=>True) (x:=((ct ae[j]:Nat):Int)) (As.gb y.g0) trivial rfl (by simp [Value.oneCell']) rfl) fun a94 Ub T abu abv e=>?_;refine cm ?_;have W:=e.Qw (show(((((g::((ae.take b).map ct).take j)).map fun x:Nat=>(x:Int)))++[((ct ae[j]:Nat):Int)])=(((g::((ae.take b).map ct).take (j+1))).map fun x:Nat=>(x:Int)) by rw [List.take_succ_eq_append_getElem (by omega),← List.cons_append,List.map_append,List.getElem_map,List.getElem_take];rfl);refine fE ?_;refine fJ (j+1,a94,(H+1),Ub) ⟨W.p1.drop,⟨by omega,trivial⟩⟩
 simp at FO
 have hje:((ae.take b).map ct).take j=(ae.take b).map ct:=List.take_of_length_le (by omega);have d:=o.Qw (show(((g::((ae.take b).map ct).take j)).map fun x:Nat=>(x:Int))=(((g::(ae.take b).map ct)).map fun x:Nat=>(x:Int)) by rw [hje]);refine(bF) aT d.b1<|nx ?_;refine WL.c1 (u:=.int .i64 ((cU aa[i].final g ((ae.take b).map ct)):Int)) (qQ (kd:=aa[i].final) (l:=g::(ae.take b).map ct) (Ow.rd (As.gs d.g0) (by simp;omega)) (fun x G=>by rcases List.mem_cons.1 G with rfl | G;omega;exact KO x G) (by omega)) (by rw [u5]) d fun w9 s9 y=>?_;refine(eO) (kY (n:=((cU aa[i].final g ((ae.take b).map ct)):Int)) (ht.ext (St.cg y)) (by omega) (by omega)) y fun S V e=>?_;refine WP .r (PV.bA (us:=[.bool true,.string (itoa ((cU aa[i].final g ((ae.take b).map ct)):Int)),.int .i64 0,.string ⟨#[]⟩]) vC rfl rfl rfl)<|(dH) mb e.p2 fun T Yg Yh W=>?_;refine(nC) mT W.b0<|?_;rw [z];exact⟨rfl,(St.cg W)⟩
theorem ie(ht:kb prog A w) (d:ao aa) (hi:i<aa.length) (hr:eJ B w a r c aa) (hl:Strs C w a2 r2 e2 ae) (hsz:∀s∈ae,s.size≤1000):CR prog 119 #[.slice a r c,(aK aa (i:Int)).val,.slice a2 r2 e2] w ((bP aa (aK aa (i:Int)) ae).val):=by
 have j:=d.len;have g:=cY hi (by omega);refine enter func119 rfl ntmps119 rfl<|?_;have aM:=St.s0 w;refine(dt) aM fun b4 w1 m o st1=>?_;refine(fF) st1 fun p w2 q t st2=>?_;refine(bS) aq st2.b1<|?_;refine WL.c1 (u:=.bool true) (jV (k:=aK aa (i:Int))) (by rw [show(decide ((aK aa (i:Int)).kind=31) || decide ((aK aa (i:Int)).kind=32))=true by(rw [g];split <;> simp)]) st2 fun w3 v b=>?_;refine cM ?_;refine WC.ki rfl<|(bS) aq b.b1<|(eO) (vU (ht.ext (St.cg b)) d hi (hr.ext (St.cg b)) (hl.ext (St.cg b)) hsz) b fun w4 y h=>?_;refine(dH) mb h fun w5 z D e=>?_;refine(nC) mT e.b0<|?_;exact⟨rfl,(St.cg e)⟩
theorem mg(hk:k.kind=32):CR prog 281 #[k.val] w (.string ⟨#[48]⟩):=by
 refine enter func281 rfl ntmps281 rfl<|?_;have aM:=St.s0 w;refine(dt) aM fun b1 w1 b d st1=>?_;refine(bF) aT st1.b0<|(bl) (fun g3=>?_) fun g3=>?_
 ·
  skip
  refine(bJ) ?_;exact⟨rfl,(St.cg st1)⟩
 exact absurd g3 (by simp [hk])
theorem qS(hi:i<aa.length) (gT:i≤99) (hr:eJ B w a r c aa):CR prog 66 #[.slice a r c,(aK aa (i:Int)).val] w (.bool true):=by
 have g:=cY hi gT
 have j:(aK aa (i:Int)).text=itoa i:=by unfold aK;rw [if_neg (by omega)]
 have o:30≤(aK aa (i:Int)).kind∧(aK aa (i:Int)).kind≤32:=by rw [g];split <;> omega
 refine enter func66 rfl ntmps66 rfl<|?_;have aM:=St.s0 w;refine(dt) aM fun b3 w1 t y st1=>?_;refine cv ?_;have z:=st1.cu;refine WC.dN (m:=12) (E:=cO [(1,fun v _=>v=.bool true),(4,fun v _=>v=.bool true),(9,fun v _=>v=.int .i64 (i:Int)),(10,fun v _=>v=(aK aa (i:Int)).val)]) st1 (ca (⟨fun _ _ _ _ _ _ _ h=>h,⟨fun _ _ _ _ _ _ _ h=>h,⟨fun _ _ _ _ _ _ _ h=>h,⟨fun _ _ _ _ _ _ _ h=>h,trivial⟩⟩⟩⟩)) mixed (by kernel_rfl)<|(iN) aq St.g0<|?_;refine DW.c0 (fun d b e=>eN (k:=aK aa (i:Int)) o j gT)<|(iN) aq St.g0<|?_;refine DW.c1 (u:=.bool true) (fun d b e=>jV (k:=aK aa (i:Int))) (by rw [show(decide ((aK aa (i:Int)).kind=31) || decide ((aK aa (i:Int)).kind=32))=true by(rw [g];split <;> simp)])<|(iN) aq St.g0<|?_;refine DW.c0 (fun d b e=>ic (k:=aK aa (i:Int)) o j gT)<|?_;refine DW.c0 (fun d b e=>j9 (n:=(i:Int)) (hr.ext (St.cg b.2)))<|(iN) aq St.g0<|(da)<|?_;rintro w2 ⟨D,st2⟩ ⟨_,⟨_,⟨_,⟨_,_⟩⟩⟩⟩;refine WP .r (PV.Be fP (p:=aK aa (i:Int)) (q:=aK aa (i:Int)) rfl rfl)<|(bJ) ?_;exact⟨by simp,(St.cg st2)⟩
set_option maxHeartbeats 400000
theorem fU{xs:List Key}(m:St w M Z w []) (hl:Rd RR.key 2 Z w a n c xs) (q:xs.length≤1000000):Calls prog 78 #[.slice a n c] w fun e w'=>∃d g h,e=.returned (.slice d g h)∧St w M Z w' [As.os RR.key 41 2 d g h xs]:=by
 have hlen:=hl.len;refine enter func78 rfl ntmps78 rfl<|?_;have aM:=m;have st1:=aM.fr hl;refine(bl) (fun g4=>?_) fun g4=>?_
 ·
  simp at g4
  subst g4;have b:=hl.o0;subst b;have st2:=st1.gx RR.key 41 2;refine(bJ) ?_;exact⟨none,0,0,rfl,st2.p1.drop⟩
 refine cv ?_;refine WL.go rfl (OX.sH GJ SE rfl fun b5 w1 j o=>?_);have st2:=St.n0 (R:=RR.key) (E:=41) (k:=2) (a:=some ⟨b5,0,none⟩) (n:=0) (c:=0) (xs:=[]) st1 j.ext (OR.HD o (Nat.zero_le _)) (fun x b=>by simp [bN] at b;subst b;exact j.ge);refine nx ?_;refine WL.ap rfl rfl st2 ((As.gr st2.g1)) fun t u w2 v y p=>?_;refine(bJ) ?_;exact⟨_,_,_,rfl,p.p1.drop⟩
theorem qT{xs:List Rec}(m:St w M Z w []) (hl:Rd RR.iz 8 Z w a n c xs) (q:xs.length≤1000000):Calls prog 114 #[.slice a n c] w fun e w'=>∃d g h,e=.returned (.slice d g h)∧St w M Z w' [As.os RR.iz 47 8 d g h xs]:=by
 have hlen:=hl.len;refine enter func114 rfl ntmps114 rfl<|?_;have aM:=m;have st1:=aM.fr hl;refine(bl) (fun g4=>?_) fun g4=>?_
 ·
  simp at g4
  subst g4;have b:=hl.o0;subst b;have st2:=st1.gx RR.iz 47 8;refine(bJ) ?_;exact⟨none,0,0,rfl,st2.p1.drop⟩
 refine cv ?_;refine WL.go rfl (OX.sH GI SF rfl fun b5 w1 j o=>?_);have st2:=St.n0 (R:=RR.iz) (E:=47) (k:=8) (a:=some ⟨b5,0,none⟩) (n:=0) (c:=0) (xs:=[]) st1 j.ext (OR.HD o (Nat.zero_le _)) (fun x b=>by simp [bN] at b;subst b;exact j.ge);refine nx ?_;refine WL.ap rfl rfl st2 ((As.gr st2.g1)) fun t u w2 v y p=>?_;refine(bJ) ?_;exact⟨_,_,_,rfl,p.p1.drop⟩
theorem kD{xs:List bG}(m:St w M Z w []) (hl:Rd RR.aC 4 Z w a n c xs) (q:xs.length≤1000000):Calls prog 67 #[.slice a n c] w fun e w'=>∃d g h,e=.returned (.slice d g h)∧St w M Z w' [As.os RR.aC 88 4 d g h xs]:=by
 have hlen:=hl.len;refine enter func67 rfl ntmps67 rfl<|?_;have aM:=m;have st1:=aM.fr hl;refine(bl) (fun g4=>?_) fun g4=>?_
 ·
  simp at g4
  subst g4;have b:=hl.o0;subst b;have st2:=st1.gx RR.aC 88 4;refine(bJ) ?_;exact⟨none,0,0,rfl,st2.p1.drop⟩
 refine cv ?_;refine WL.go rfl (OX.sH GH SG rfl fun b5 w1 j o=>?_);have st2:=St.n0 (R:=RR.aC) (E:=88) (k:=4) (a:=some ⟨b5,0,none⟩) (n:=0) (c:=0) (xs:=[]) st1 j.ext (OR.HD o (Nat.zero_le _)) (fun x b=>by simp [bN] at b;subst b;exact j.ge);refine nx ?_;refine WL.ap rfl rfl st2 ((As.gr st2.g1)) fun t u w2 v y p=>?_;refine(bJ) ?_;exact⟨_,_,_,rfl,p.p1.drop⟩
theorem k7(p:St w M Z w []) (hk:Rd RR.key 2 Z w a n c x.reads) (u:x.reads.length≤4000):Calls prog 74 #[.agg (x.row a n c).toArray] w fun e w'=>∃d g h,e=.returned (.agg (x.row d g h).toArray)∧St w M Z w' [As.os RR.key 41 2 d g h x.reads]:=by
 refine enter func74 rfl ntmps74 rfl<|?_;have aM:=p;have st1:=aM.fr hk;refine(dt) st1 fun b1 w1 v y st2=>?_;refine(fF) st2 fun b2 w2 z D j=>?_;refine(bF) eD j.b1<|?_;have b:=j;refine(c6) CN (fU b.e0 (As.gr b.g2) (by omega)) ?_;rintro _ w3 ⟨f1,f2,f3,rfl,q⟩;have t:=St.lr b q;refine nx ?_;refine WL.s1 t.p2 fun w4 _ m=>?_;refine(bS) dV m.b0<|(dH) iK m.p2 fun w5 E F o=>?_;refine(nC) dV o.b0<|?_;exact⟨_,_,_,rfl,o.p2.k1⟩
theorem kE{p:Rec→Bool}(g:CF prog f) (hl:Rd RR.iz 8 Z w a n c l) (m:∀w1,aQ [] w w1→∀x∈l,∀a n c,Rd RR.key 2 Z w1 a n c x.reads→Calls prog f #[.agg (x.row a n c).toArray,cap] w1 fun e w'=>e=.returned (.bool (p x))∧aQ [] w1 w'):Calls prog 85 #[.slice a n c,.func (.func f) #[] #[cap]] w fun e w'=>∃j:Int,e=.returned (.int .i64 j)∧pn l p j∧aQ [] w w':=by
 have hlen:=hl.len;have hle:=hl.le;refine enter func85 rfl ntmps85 rfl<|?_;have aM:=St.s0 w;refine ba ?_;refine cm ?_;refine WC.bq (σ:=Nat) (cX:=fun i=>[(0,.slice a n c),(1,.func (.func f) #[] #[cap]),(7,.int .i64 (n:Int)),(8,.int .i64 (i:Int))]) (F:=fun i=>[]) (I:=fun i=>(i≤n)∧(∀j x,j<i→l[j]?=some x→p x=false)∧True) (μ:=fun i=>n - i) (0) (aM) Sub.t (⟨by omega,fun j x h=>by omega,trivial⟩)<|?_;rintro i w1 st1 ⟨hi,b,_⟩;simp only [CA,NA] at st1 hi b ⊢;refine(bl) (fun g9=>?_) fun g9=>?_
 ·
  simp at g9
  have d:i<l.length:=by omega
  refine hY ?_;obtain⟨E,G,H,o,J,q,u,K⟩:=Rd.at hl d;obtain⟨q1,L,N,rfl,v,O⟩:=q;refine cv ?_;refine WP .r (PV.ef jQ o rfl rfl (by omega))<|(bS) dV (aS u (St.cg st1) (by simp))<|?_;refine WL.go rfl (OX.jz g rfl rfl rfl ((Calls.cap (m _ (St.cg st1) l[i] (List.getElem_mem d) _ _ _ (v.ext (St.cg st1)))).mono ?_));rintro _ w2 ⟨rfl,s2⟩;refine⟨_,rfl,?_⟩;have st2:=st1.step s2;refine(bl) (fun g16=>?_) fun g16=>?_
  ·
   refine(bJ) ?_;exact⟨_,rfl,.inl ⟨i,_,ah d,g16,b,rfl⟩,(St.cg st2)⟩
  have g16:p l[i]=false:=by simpa using g16
  refine eE ?_;refine fJ (i+1) ⟨st2,⟨by omega,cL d b (by simpa using g16),trivial⟩⟩
 simp at g9
 have y:∀x∈l,p x=false:=fun x z=>by obtain⟨j,D,rfl⟩:=List.getElem_of_mem z;exact b j _ (by omega) (ah D)
 refine(bJ) ?_;exact⟨_,rfl,.inr ⟨y,rfl⟩,(St.cg st1)⟩
theorem nf{p:Rec→Bool}(d:CF prog f) (hl:Rd RR.iz 8 Z w a n c l) (g:∀w1,aQ [] w w1→∀x∈l,∀a n c,Rd RR.key 2 Z w1 a n c x.reads→Calls prog f #[.agg (x.row a n c).toArray,cap] w1 fun e w'=>e=.returned (.bool (p x))∧aQ [] w1 w') (h:∀x∈l,p x=false):CR prog 107 #[.slice a n c,.func (.func f) #[] #[cap]] w (.bool false):=by
 refine enter func107 rfl ntmps107 rfl<|?_;have aM:=St.s0 w;refine(c6) MV (kE (w:=w) d (hl.ext (St.cg aM)) (fun w1 h1=>g w1 (aQ.trans (St.cg aM) h1))) ?_;rintro _ w1 ⟨j,rfl,m,s1⟩;have st1:=aM.step s1
 have o:j = -1:=by rcases m with⟨i,x,h1,b,_⟩ | ⟨_,b⟩;exact absurd b (by simp [h x (List.mem_of_getElem? h1)]);exact b
 subst o;refine(bJ) ?_;exact⟨by simp,(St.cg st1)⟩
theorem qU{l:List Key}(hl:Rd RR.key 2 Z w a n c l):Calls prog 214 #[.slice a n c,k.val] w fun e w'=>((k∈l∧∃i:Nat,e=.returned (.int .i64 (i:Int)))∨(k∉l∧e=.returned (.int .i64 (-1))))∧aQ [] w w':=by
 have hlen:=hl.len;have hle:=hl.le;refine enter func214 rfl ntmps214 rfl<|?_;have aM:=St.s0 w;refine(dt) aM fun b3 w1 E G st1=>?_;refine ba ?_;refine WC.bq (σ:=Nat) (cX:=fun i=>[(0,.slice a n c),(3,.pointer (some ⟨b3,0,none⟩)),(7,.int .i64 (n:Int)),(8,.int .i64 (i:Int))]) (F:=fun i=>[]) (I:=fun i=>(i≤n)∧(∀j x,j<i→l[j]?=some x→x≠k)∧True) (μ:=fun i=>n - i) (0) (st1) Sub.t (⟨by omega,fun j x h=>by omega,trivial⟩)<|?_;rintro i w2 st2 ⟨hi,b,_⟩;simp only [CA,NA] at st2 hi b ⊢;refine(bl) (fun g9=>?_) fun g9=>?_
 ·
  simp at g9
  have d:i<l.length:=by omega
  refine hY ?_;obtain⟨H,J,K,v,L,g,y,N⟩:=Rd.at hl d;have g:=RR.bp g;subst g;have O:=st2.cu;refine WC.dS (m:=5) st2 mixed<|(iN) aq St.g0<|cm ?_;refine DP .r (fun _ o=>PV.ef fR v rfl rfl (by omega))<|DP .r (fun _ o=>VA aq (aS y (St.cg o.2) (by simp)) .r)<|(da)<|?_;rintro w3 ⟨P,u⟩ _;refine WP .r (PV.Be fP (p:=k) (q:=l[i]) rfl rfl)<|(bl) (fun g16=>?_) fun g16=>?_
  ·
   simp at g16
   refine(bJ) ?_;exact⟨.inl ⟨g16 ▸ List.getElem_mem d,i,rfl⟩,(St.cg u)⟩
  simp at g16
  refine eE ?_;refine fJ (i+1) ⟨u,⟨by omega,cL d b (fun e=>g16 e.symm),trivial⟩⟩
 simp at g9
 have z:k∉l:=fun hm=>by obtain⟨j,D,h⟩:=List.getElem_of_mem hm;exact b j _ (by omega) (ah D) h
 refine(bJ) ?_;exact⟨.inr ⟨z,rfl⟩,(St.cg st2)⟩
theorem nh{l:List Key}(hl:Rd RR.key 2 Z w a n c l):CR prog 161 #[.slice a n c,k.val] w (.bool (decide (k∈l))):=by
 refine enter func161 rfl ntmps161 rfl<|?_;have aM:=St.s0 w;refine(dt) aM fun b3 w1 m o st1=>?_;refine(bS) aq st1.b0<|(c6) N7 ((qU (k:=k) (w:=w1) (hl.ext (St.cg st1))).mono (fun e d h=>show ∃j:Int,e=.returned (.int .i64 j)∧decide (0≤j)=decide (k∈l)∧aQ [] w1 d from by rcases h.1 with⟨h1,i,b⟩ | ⟨h1,b⟩;exact⟨i,b,by simp [h1],h.2⟩;exact⟨-1,b,by simp [h1],h.2⟩)) ?_;rintro _ w2 ⟨j,rfl,g,s2⟩;have st2:=st1.step s2;refine(bJ) ?_;exact⟨by rw [g],(St.cg st2)⟩
theorem tF{bk:Nat}(hb:bC w bk 41 k.cells):CR prog 86 #[.agg (x.row a n c).toArray,.pointer (some ⟨bk,0,none⟩)] w (.bool (decide (x.key=k))):=by
 refine enter func86 rfl ntmps86 rfl<|?_;have aM:=St.s0 w;refine(dt) aM fun b2 w1 b d st1=>?_;refine(lj) aq st1.b0<|(bS) aq (bC.range (hb.ext (St.cg st1)))<|?_;refine WP .r (PV.Be fP (p:=x.key) (q:=k) rfl rfl)<|(bJ) ?_;exact⟨rfl,(St.cg st1)⟩
theorem tH(H:St w M Z w []) (hl:Rd RR.iz 8 Z w a n c l):Calls prog 44 #[.slice a n c,k.val] w fun e w'=>∃y z D,e=.returned (.tuple #[.agg ((aD l k).row y z D).toArray,.bool (ay l k).isSome])∧(aD l k).reads.length≤4000∧St w M Z w' [As.os RR.key 41 2 y z D (aD l k).reads]:=by
 have hlen:=hl.len;have hle:=hl.le;refine enter func44 rfl ntmps44 rfl<|?_;have aM:=H;have st1:=aM.fr hl;refine(dt) st1 fun b3 w1 X Y st2=>?_;refine(fF) st2 fun b4 w2 FK FL q=>?_;refine fE ?_;refine WP .r (PV.func (us:=[]) (vs:=[.pointer (some ⟨b3,0,none⟩)]) rfl rfl)<|(c6) MV (kE (p:=fun x=>decide (x.key=k)) TA (As.gr q.g2) (fun w1 h1 x _ a n c _=>tF ((As.gb q.g1).ext h1))) ?_;rintro _ w3 ⟨j,rfl,o,I⟩;have t:=q.step I;refine(bl) (fun g11=>?_) fun g11=>?_
 ·
  simp at g11
  have J:∀x∈l,(decide (x.key=k))=false:=by rcases o with⟨i,x,_,_,_,h⟩ | ⟨h,_⟩;omega;exact h
  have d:ay l k=none:=lD (i:=l.length) (Nat.le_refl _) (fun j x _ g=>by simpa using J x (List.mem_of_getElem? g))
  have b:aD l k=jB:=by unfold aD;rw [d];rfl
  have u:=t.gx RR.key 41 2;refine(dH) iK u.p1 fun w4 oB qx m=>?_;refine dz ?_;refine EX.gJ rfl (RS.cell dV rfl m.b0 rfl<|RS.tmp rfl<|RS.nil) rfl<|?_;exact⟨none,0,0,by rw [d,b];rfl,by rw [b];simp [jB],by rw [b];exact m.p1.k1⟩
 simp at g11
 obtain⟨i,x,g,K,L,rfl⟩:∃i:Nat,∃x,l[i]?=some x∧decide (x.key=k)=true∧(∀j x,j<i→l[j]?=some x→(x.key == k)=false)∧j=i:=by
  rcases o with⟨i,x,h1,N,O,P⟩ | ⟨_,h⟩
  ·
   exact⟨i,x,h1,N,fun j x o g=>by simpa using O j x o g,P⟩
  omega
 obtain⟨E,rfl⟩:=List.getElem?_eq_some_iff.1 g;have d:ay l k=some l[i]:=fV E L (by simpa using K)
 have b:aD l k=l[i]:=by unfold aD;rw [d];rfl
 refine cM ?_;obtain⟨jq,tw,pS,Q,jT,R,S,T⟩:=Rd.at (As.gr t.g2) E;obtain⟨q1,q2,q3,rfl,U,F⟩:=R;have u:=t.fg T S;have m:=u.fr U;refine cM ?_;refine WP .r (PV.ef jQ Q rfl rfl (by omega))<|(bS) dV (As.mF m.g1)<|?_;have v:=m;refine(c6) Jc (k7 v.e0 (As.gr v.g0) F) ?_;rintro _ w4 ⟨e1,e2,e3,rfl,V⟩;have W:=St.lr v V;refine(dH) iK W.p3 fun w5 Ap uV G=>?_;refine cv ?_;refine EX.gJ rfl (RS.cell dV rfl G.b0 rfl<|RS.tmp rfl<|RS.nil) rfl<|?_;exact⟨e1,e2,e3,by rw [d,b];rfl,by rw [b];exact F,by rw [b];exact G.p1.k1⟩
theorem tI(G:St w M Z w []) (hl:Rd RR.iz 8 Z w a n c l) (H:l.length≤1000000):Calls prog 68 #[.slice a n c] w fun e w'=>∃q u v Z',e=.returned (.slice q u v)∧eI w.heap.size Z Z'∧St w M Z' w' [As.os RR.iz 47 8 q u v l]:=by
 have hlen:=hl.len;have hle:=hl.le;refine enter func68 rfl ntmps68 rfl<|?_;have aM:=G;have st1:=aM.fr hl;refine ho ?_;have st2:=st1;refine(c6) Ng (qT st2.e0 (As.gr st2.g0) H) ?_;rintro _ w1 ⟨f1,f2,f3,rfl,J⟩;have y:=St.lr st2 J;have X:=((As.gs y.g0)).len;refine ba ?_;refine WC.lG (σ:=Nat × (Nat→Prop)) (cX:=fun(i,b)=>[(3,.slice f1 f2 f3),(8,.slice f1 f2 f3),(9,.int .i64 (f2:Int)),(10,.int .i64 (i:Int))]) (F:=fun(i,b)=>[As.os RR.iz 47 8 f1 f2 f3 l]) (I:=fun(i,b)=>(i≤f2)∧(eI w.heap.size Z b)∧True) (μ:=fun(i,b)=>f2 - i) (Zf:=fun(i,b)=>b) (0,Z) (y) Sub.t (⟨by omega,eI.refl _ _,trivial⟩)<|?_;rintro⟨i,b⟩ w2 d ⟨hi,j,_⟩;simp only [CA,NA] at d hi j ⊢;refine(bl) (fun g11=>?_) fun g11=>?_
 ·
  simp at g11
  have m:i<l.length:=by omega
  refine dz ?_;obtain⟨Y,pS,o,jT,K,L⟩:=Ow.at (As.gs d.g0) (by omega) (ah m);obtain⟨q1,q2,q3,rfl,N,z⟩:=K;have O:=d.fr (N);refine cm ?_;refine WP .r (PV.ef jQ o rfl rfl (by omega))<|(bS) dV L<|(fF) O fun b5 w3 TK TL P=>?_;refine(dH) iK P fun w4 oB qx D=>?_;refine(bS) dV D.b0<|?_;have g:=D;refine(c6) Jc (k7 g.e0 (As.gr g.g1) z) ?_;rintro _ w5 ⟨e1,e2,e3,rfl,E⟩;have Q:=St.lr g E;have R:=St.gg E;have hsz:=g.size;have p:=Q.dM (by omega);have S:=j.trans (eI.uS (F:=fun x=>x∈bN e1) R) hsz;refine WP .r (PV.ef jQ o rfl rfl (by omega))<|?_;refine WL.go rfl (OX.Lt (i:=i) iK (As.gs p.g3) o m rfl rfl rfl (Rec.one _ _ _ _) l[i] ⟨e1,e2,e3,rfl,(As.gr p.g0),z⟩ fun w6 T U=>?_);have V:=p.p3.gK T U (fun x h=>.inl h);have W:=V.Qw (List.set_getElem_self m);refine eE ?_;refine fJ (i+1,_) ⟨W.p4.p1.k2,⟨by omega,S,trivial⟩⟩
 refine(bJ) ?_;exact⟨_,_,_,_,rfl,j,d.p1.drop⟩
theorem pX{x:bZ}(G:St w M Z w []) (hi:Rd RR.aC 4 Z w a1 n1 e1 x.ab) (hr:Rd RR.iz 8 Z w a2 n2 e2 x.ai) (H:x.ai.length≤1000000) (I:x.ab.length≤1000000):Calls prog 31 #[.agg (x.row a1 n1 e1 a2 n2 e2).toArray] w fun e w'=>∃g h j o p q Z',e=.returned (.agg (x.row g h j o p q).toArray)∧eI w.heap.size Z Z'∧St w M Z' w' [As.os RR.aC 88 4 g h j x.ab,As.os RR.iz 47 8 o p q x.ai]:=by
 refine enter func31 rfl ntmps31 rfl<|?_;have aM:=G;have st1:=aM.fr hi;have st2:=st1.fr hr;refine(dt) st2 fun b1 w1 Q R J=>?_;refine(fF) J fun b2 w2 S T K=>?_;refine cM ?_;refine WC.cz (m:=7) [] [2,5] [0,1,2,3,4,5,6] [] K (av.k4 M0 M1 M2 M3<|av.nil) mixed (by kernel_rfl) (by kernel_rfl) rfl<|(wW) hV SV.g1<|(gR) (fun w3 U V t W=>?_);simp only [CA,NA] at t;have d:=t;refine OX.call MR rfl rfl ((kD d.e0 (As.gr d.g3) I).mono ?_);rintro _ w4 ⟨f1,f2,f3,rfl,u⟩;have L:=St.lr d u;refine⟨_,rfl,u.cH.size,_,rfl,_,_,_,L,aG.k4<|aG.cons<|aG.nil,av.k4 M1 M2 M3 M4<|av.nil,?_⟩;refine(wW) iH SV.g1<|(gR) (fun w5 X Y v mh=>?_);simp only [CA,NA] at v;have b:=v;refine OX.call Tr rfl rfl ((tI b.e0 (As.gr b.g3) H).mono ?_);rintro _ w6 ⟨f4,f5,f6,Z1,rfl,y,z⟩;have N:=St.lv b z y;have O:=y.le b.size;refine⟨_,rfl,z.cH.size,_,rfl,_,_,_,N,aG.k4<|aG.k2<|aG.nil,av.k4 M2 M3 M4 M5<|av.nil,?_⟩;refine(lJ) ?_;intro w7 yl D;simp only [CM,NM,CA,NA,iv.it] at D;refine WL.s1 D.p3 fun w8 _ P=>?_;refine nx ?_;refine WL.s1 P fun w9 _ E=>?_;refine WL.nil (EX.np ?_);refine(bS) cq E.b0<|(dH) iJ E.p3 fun oC oB qx F=>?_;refine(nC) cq F.b0<|?_;exact⟨_,_,_,_,_,_,_,rfl,O,F.p2.p3.k2⟩
theorem ni{r:Rec}{x:bZ}{b:Nat}(hb:bC w b 31 (x.row a1 n1 e1 a2 n2 e2)):CR prog 108 #[.agg (r.row a n c).toArray,.pointer (some ⟨b,0,none⟩)] w (.bool (decide (x.ad<r.ak))):=by
 refine enter func108 rfl ntmps108 rfl<|?_;have aM:=St.s0 w;refine(dt) aM fun b2 w1 d e st1=>?_;refine(bF) aT st1.b0<|(bF) aT (bC.range (hb.ext (St.cg st1)))<|(bJ) ?_;exact⟨rfl,(St.cg st1)⟩
end Go.Rc

