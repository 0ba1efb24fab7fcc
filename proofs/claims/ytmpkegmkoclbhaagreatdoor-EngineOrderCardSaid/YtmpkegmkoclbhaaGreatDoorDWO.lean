/- Walks over the program, part WO. Conditions: as each theorem says. -/
import Derived.Test.YtmpkegmkoclbhaaGreatDoorDFacts
import Derived.Test.YtmpkegmkoclbhaaGreatDoorDWLibE
import Derived.Test.YtmpkegmkoclbhaaGreatDoorDBe
import Derived.Test.YtmpkegmkoclbhaaGreatDoorDBd
import Derived.Test.YtmpkegmkoclbhaaGreatDoorDWF
set_option linter.all false
namespace Go.Rc
open Go Go.Proofs Go.Proofs.Tryz
variable {n r c i r2 e2 n1 e1 n2:Nat}{w:World}{aa:List aH}{A B C M Z:Nat→Prop}{a a2 a1:Option Addr}{k:Key}{s:ByteArray}{l:List Rec}{ae:List ByteArray}{x:Rec}{f:FuncId}{cap:Value}
set_option maxHeartbeats 400000
theorem sZ{n:Int} :CR prog 195 #[.int .i64 n] w ((cF n).val):=by
 refine enter func195 rfl ntmps195 rfl<|?_;have aQ:=St.s0 w;refine(eZ) aQ fun b2 w1 e g st1=>?_;refine cy ?_;refine WC.dZ (t:=8) (v:=.bool (decide (n<0) || decide (99<n))) st1 ?_<|?_
 ·
  refine(db) (fun g5=>?_) (fun g5=>?_)
  ·
   exact(cA) (by simp only [g5];first | rfl | simp) (st1)
  exact(cA) (by simp only [g5];first | rfl | simp) (st1)
 intro w2 st2;refine(aS) (fun g8=>?_) fun g8=>?_
 ·
  have hk:cF n=eS:=by unfold cF;rw [if_pos (by simp at g8;omega)]
  refine(cJ) hP st2 fun w3 h j b=>?_;refine(kT) ao b.b0<|?_;rw [hk];exact⟨rfl,(St.cg b)⟩
 simp at g8
 have hk:cF n=⟨30,itoa n⟩:=by unfold cF;rw [if_neg (by omega)]
 refine(eP) (jl (n:=n) (by omega) (by omega) w2) st2 fun w3 m b=>?_;refine WP .r (PV.bB (us:=[.int .i64 30,.string (itoa n)]) Cd rfl rfl rfl)<|(cJ) hP b fun w4 o p d=>?_;refine(kT) ao d.b0<|?_;rw [hk];exact⟨rfl,(St.cg d)⟩
theorem zM{n:Int}(hr:fP A w a r c aa):CR prog 190 #[.slice a r c,.int .i64 n] w (.tuple #[.int .i64 (block aa n).1,.int .i64 (block aa n).2]):=by
 have hle:=hr.le;have hlen:=hr.len;refine enter func190 rfl ntmps190 rfl<|?_;have aQ:=St.s0 w;refine gV ?_;refine WC.dZ (t:=15) (v:=.bool (decide (n<0) || decide ((r:Int)≤n))) aQ ?_<|?_
 ·
  refine(db) (fun g10=>?_) (fun g10=>?_)
  ·
   exact(cA) (by simp only [g10];first | rfl | simp) (aQ)
  exact(cA) (by simp only [g10];first | rfl | simp) (aQ)
 intro w1 st1;refine(aS) (fun g15=>?_) fun g15=>?_
 ·
  have hb:=xv aa n (by simp at g15;omega);refine(AF) ?_;exact⟨by rw [hb],(St.cg st1)⟩
 obtain⟨b,rfl⟩:∃i:Nat,n=i:=⟨n.toNat,by simp at g15;omega⟩
 have o:b<aa.length:=by simp at g15;omega
 have h:block aa b=if aF aa b then ((bG aa b:Int),(dJ aa (b+1):Int)) else ((b:Int),(b:Int)+1):=by
  unfold block;rw [if_neg (by omega)];rfl
 refine aY ?_;refine nx ?_;obtain⟨X,Y,r_x,H,_,⟨q1,q2,q3,rfl,_⟩,J,_⟩:=(hr.ext (St.cg st1)).at (ak o);refine cq ?_;refine WP .r (PV.dU jk H rfl rfl (by omega))<|nx ?_;refine WP .r (PV.ld1 (j:=0) dH J rfl rfl)<|(aS) (fun g24=>?_) fun g24=>?_
 ·
  simp at g24
  have hb:block aa b=((b:Int),(b:Int)+1):=by rw [h,if_neg (by rw [bW o,g24];simp)]
  refine(AF) ?_;exact⟨by rw [hb],(St.cg st1)⟩
 simp at g24
 rw [if_pos (by rw [bW o];exact g24)] at h;refine cy ?_;refine WC.br (σ:=Nat) (dn:=fun k=>[(0,.slice a r c),(6,.int .i64 (k:Int)),(7,.int .i64 ((b:Int)+1))]) (F:=fun k=>[]) (I:=fun k=>(k≤b)∧(bG aa k=bG aa b)∧True) (μ:=fun k=>k) (b) (st1) Sub.t (⟨Nat.le_refl _,rfl,trivial⟩)<|?_;rintro k w2 st2 ⟨hk,p,_⟩;simp only [CA,NA] at st2 hk p ⊢;refine bO ?_;refine WC.dZ (t:=36) (v:=.bool (decide ((0:Int)<k) && aF aa (k - 1))) st2 ?_<|?_
 ·
  refine(db) (fun q=>?_) (fun q=>?_)
  ·
   simp at q
   obtain⟨b_y,o_y,r_y,K,_,⟨L,N,O,rfl,_⟩,P,_⟩:=(hr.ext (St.cg st2)).at (ak (show k - 1<aa.length by omega));have B2:aa[k-1].ring=aF aa (k-1):=(bW (by omega)).symm;refine cq ?_;refine WP .r (PV.DU jk (i:=k - 1) K rfl rfl (by omega) (by omega))<|nx ?_;refine WP .r (PV.ld1 (j:=0) dH P rfl rfl)<|?_;exact(cA) (by simp [*]) (st2)
  simp at q
  have Q:¬(0<k):=by omega
  exact(cA) (by simp [*]) (st2)
 intro w3 z;refine(aS) (fun d=>?_) fun d=>?_
 ·
  simp at d
  obtain⟨g1,g2⟩:=d;obtain⟨j,rfl⟩:∃j,k=j+1:=⟨k - 1,by omega⟩;refine kS ?_;refine eB (j) ⟨z,⟨by omega,by rw [← p,pT (by simpa using g2)],trivial⟩⟩
 simp at d
 have R:(block aa b).1=k:=by
  rw [h]
  show(bG aa b:Int)=k
  rw [← p,sn]
  by_cases h0:k=0
  ·
   exact .inl h0
  exact .inr (d (by omega))
 refine ez ?_;refine WC.br (σ:=Nat) (dn:=fun m=>[(0,.slice a r c),(6,.int .i64 (k:Int)),(7,.int .i64 (m:Int))]) (F:=fun m=>[]) (I:=fun m=>(b+1≤m)∧(m≤r)∧(dJ aa m=dJ aa (b+1))∧True) (μ:=fun m=>r - m) (b+1) (z) Sub.t (⟨Nat.le_refl _,by omega,rfl,trivial⟩)<|?_;rintro m w4 e ⟨S,T,u,_⟩;simp only [CA,NA] at e S T u ⊢;refine bO ?_;refine WC.dZ (t:=49) (v:=.bool (decide ((m:Int)<r) && aF aa m)) e ?_<|?_
 ·
  refine(db) (fun y=>?_) (fun y=>?_)
  ·
   simp at y
   obtain⟨b_z,o_z,r_z,U,_,⟨L,N,O,rfl,_⟩,V,_⟩:=(hr.ext (St.cg e)).at (ak (show m<aa.length by omega));have D:aa[m].ring=aF aa m:=(bW (by omega)).symm
   have E:decide ((m:Int)<r)=true:=by simp;omega
   refine bO ?_;refine WP .r (PV.dU jk U rfl rfl (by omega))<|nx ?_;refine WP .r (PV.ld1 (j:=0) dH V rfl rfl)<|?_;exact(cA) (by first | (rw [D,E];rfl) | simp [*]) (e)
  simp at y
  have Q:¬(m<aa.length):=by omega
  exact(cA) (by first | (rw [D,E];rfl) | simp [*]) (e)
 intro w5 G;refine(aS) (fun g=>?_) fun g=>?_
 ·
  simp at g
  obtain⟨g3,g4⟩:=g;refine kS ?_;refine eB (m+1) ⟨G,⟨by omega,by omega,by rw [← u,← sk g4],trivial⟩⟩
 simp at g
 have W:(block aa b).2=m:=by
  rw [h]
  show(dJ aa (b+1):Int)=m
  rw [← u,tZ]
  rcases Nat.lt_or_ge m r with h0 | h0
  ·
   exact g (by omega)
  exact lR (by omega)
 refine aY ?_;refine(AF) ?_;exact⟨by rw [R,W],(St.cg G)⟩
theorem pF{cell:Bool}{n:Int}(hr:fP A w a r c aa) (hi:i<aa.length):CR prog 138 #[.slice a r c,.int .i64 (i:Int),.bool cell,.int .i64 n] w (.bool (gB aa i cell n)):=by
 have hle:=hr.le;have hlen:=hr.len;have g:=bW hi;have o:=Ed hi
 have ht:fD aa i=if aa[i].ring=true then (block aa (i:Int)).2 else (block aa (i:Int)).1:=by unfold fD;rw [g]
 refine enter func138 rfl ntmps138 rfl<|?_;have aQ:=St.s0 w;refine(aS) (fun g11=>?_) fun g11=>?_
 ·
  refine nx ?_;refine WC.kR (t:=8) (v:=.bool (decide (0≤n) && decide (n≤15))) aQ ?_<|?_
  ·
   refine(db) (fun g14=>?_) (fun g14=>?_)
   ·
    exact(gH) (by simp only [g14];first | rfl | simp) (aQ)
   exact(gH) (by simp only [g14];first | rfl | simp) (aQ)
  intro w1 st1;refine(bz) ?_;exact⟨by unfold gB;rw [if_pos g11],(St.cg st1)⟩
 refine(eP) (zM (n:=(i:Int)) (hr.ext (St.cg aQ))) aQ fun w1 s1 st1=>?_;refine gV ?_;obtain⟨p,q,u,h,_,⟨q1,y,z,rfl,_⟩,m,_⟩:=(hr.ext (St.cg st1)).at (ak hi);refine WC.kR (t:=8) (v:=.bool (decide (0≤n) && decide (n<fD aa i))) st1 ?_<|?_
 ·
  refine(db) (fun b=>?_) (fun b=>?_)
  ·
   refine(db) (fun d=>?_) (fun d=>?_)
   ·
    refine aY ?_;exact(gH) (by rw [ht];first | (simp [b,d];done) | (simp at b d;simp [b,d];done) | (simp at b d ⊢;split <;> omega) | (simp at b d;simp [b,d];omega)) (st1)
   refine bO ?_;refine WP .r (PV.dU jk h rfl rfl (by omega))<|nx ?_;refine WP .r (PV.ld1 (j:=0) dH m rfl rfl)<|(db) (fun e=>?_) (fun e=>?_)
   ·
    exact(gH) (by rw [ht];first | (simp [b,d,e];done) | (simp at b d e;simp [b,d,e];done) | (simp at b d e ⊢;split <;> omega) | (simp at b d e;simp [b,d,e];omega)) (st1)
   exact(gH) (by rw [ht];first | (simp [b,d,e];done) | (simp at b d e;simp [b,d,e];done) | (simp at b d e ⊢;split <;> omega) | (simp at b d e;simp [b,d,e];omega)) (st1)
  refine aY ?_;exact(gH) (by rw [ht];first | (simp [b];done) | (simp at b;simp [b];done) | (simp at b ⊢;split <;> omega) | (simp at b;simp [b];omega)) (st1)
 intro w2 st2;refine(bz) ?_;exact⟨by unfold gB;rw [g11];rfl,(St.cg st2)⟩
theorem qG{k:Nat}{x:Ask}(hr:fP A w a r c aa) (hi:i<aa.length):CR prog 92 #[.slice a r c,.int .i64 (i:Int),x.val,.bool (decide ((k:Int)=0))] w (.bool (fo aa i aa[i].ring k x)):=by
 have hle:=hr.le;have hlen:=hr.len;obtain⟨q,u,y,g,_,⟨q1,z,D,rfl,_⟩,h,_⟩:=hr.at (ak hi);have e:(fo aa i aa[i].ring k x)=(gB aa i x.cell x.n && (if x.pick then !aa[i].ring && decide (k≠0) && gB aa i x.cell x.DV else decide (x.DV=0))):=rfl;rw [e]
 clear e
 have b:decide ((k:Int)=0)=decide (k=0):=by simp
 refine enter func92 rfl ntmps92 rfl<|?_;have aQ:=St.s0 w;refine(dy) aQ fun E w1 F G st1=>?_;refine dd ?_;refine WC.dZ (t:=30) (v:=.bool ((x.pick && (aa[i].ring || decide (k=0))) || !gB aa i x.cell x.n)) st1 ?_<|?_
 ·
  refine(a7) dH st1.b0<|(db) (fun g11=>?_) (fun g11=>?_)
  ·
   refine bO ?_;refine WP .r (PV.dU jk g rfl rfl (by omega))<|nx ?_;refine WP .r (PV.ld1 (j:=0) dH (aW h (St.cg st1) (by simp)) rfl rfl)<|(db) (fun g17=>?_) (fun g17=>?_)
   ·
    refine aY ?_;exact(cA) (by first | (simp only [g11,g17,← b];rfl) | (simp [g11,g17,b];done) | (simp at g11 g17;simp [g11,g17,b];done) | (simp at g11 g17;simp_all;done)) (st1)
   refine(db) (fun g21=>?_) (fun g21=>?_)
   ·
    exact(cA) (by first | (simp only [g11,g17,g21,← b];rfl) | (simp [g11,g17,g21,b];done) | (simp at g11 g17 g21;simp [g11,g17,g21,b];done) | (simp at g11 g17 g21;simp_all;done)) (st1)
   refine(a7) dH st1.b0<|(a7) aP st1.b0<|(eP) (pF (cell:=x.cell) (n:=x.n) (hr.ext (St.cg st1)) hi) st1 fun w2 s2 st2=>?_;exact(cA) (by first | (simp only [g11,g17,g21,← b];rfl) | (simp [g11,g17,g21,b];done) | (simp at g11 g17 g21;simp [g11,g17,g21,b];done) | (simp at g11 g17 g21;simp_all;done)) (st2)
  refine aY ?_;refine(a7) dH st1.b0<|(a7) aP st1.b0<|(eP) (pF (cell:=x.cell) (n:=x.n) (hr.ext (St.cg st1)) hi) st1 fun w2 s2 st2=>?_;exact(cA) (by first | (simp only [g11,← b];rfl) | (simp [g11,b];done) | (simp at g11;simp [g11,b];done) | (simp at g11;simp_all;done)) (st2)
 intro w2 st2;refine(aS) (fun m=>?_) fun m=>?_
 ·
  refine(bz) ?_;exact⟨by cases hm:gB aa i x.cell x.n <;> cases H:x.pick <;> cases o:aa[i].ring <;> by_cases h0:k=0 <;> simp_all,(St.cg st2)⟩
 refine(a7) dH st2.b0<|(aS) (fun d=>?_) fun d=>?_
 ·
  simp at d
  refine(a7) aP st2.b0<|(bz) ?_;exact⟨by cases hm:gB aa i x.cell x.n <;> simp_all,(St.cg st2)⟩
 simp at d
 refine(a7) dH st2.b0<|(a7) aP st2.b0<|(eP) (pF (cell:=x.cell) (n:=x.DV) (hr.ext (St.cg st2)) hi) st2 fun w3 I p=>?_;refine(bz) ?_;exact⟨by cases hm:gB aa i x.cell x.n <;> cases o:aa[i].ring <;> by_cases h0:k=0 <;> simp_all,(St.cg p)⟩
theorem vG(hr:fP A w a r c aa) (N:aq aa):CR prog 51 #[.slice a r c] w (.bool true):=by
 have hle:=hr.le;have hlen:=hr.len;have Ho:=N.1;refine enter func51 rfl ntmps51 rfl<|?_;have aQ:=St.s0 w;refine aY ?_;refine(aS) (fun g12=>?_) fun g12=>?_
 ·
  exact dL g12
 ·
  refine kg ?_;refine WC.br (σ:=Nat) (dn:=fun i=>[(0,.slice a r c),(13,.slice a r c),(14,.int .i64 (r:Int)),(15,.int .i64 (i:Int))]) (F:=fun i=>[]) (I:=fun i=>(i≤r)∧True) (μ:=fun i=>r - i) (0) (aQ) Sub.t (⟨by omega,trivial⟩)<|?_;rintro i w1 st1 ⟨hi,_⟩;simp only [CA,NA] at st1 hi ⊢;refine(aS) (fun g16=>?_) fun g16=>?_
  ·
   simp at g16
   have E:i<aa.length:=by omega
   obtain⟨afF,O,q⟩:=N.2 i _ (ak E)
   unfold ia at q
   obtain⟨b_x,o_x,r_x,Q,_,⟨q1,j,P,rfl,G⟩,R,_⟩:=hr.at (ak E);have yg:=G.len;refine ez ?_;refine WP .r (PV.dU jk Q rfl rfl (by omega))<|(aZ) sM (aW R (St.cg st1) (by simp))<|(eZ) st1 fun b4 w2 Fh IV st2=>?_;refine(cJ) E4 st2 fun w3 jU j3 b=>?_;refine aY ?_;refine(a7) dH b.b0<|(aS) (fun g21=>?_) fun g21=>?_
   ·
    rw [if_pos g21] at q
    simp at q
    refine gV ?_;refine WC.dZ (t:=48) (v:=.bool false) b ?_<|?_
    ·
     refine(a7) kx b.b0<|(db) (fun d=>?_) (fun d=>?_)
     ·
      refine aY ?_;exact(cA) (tG d) (b)
     refine(a7) aP b.b0<|(db) (fun e=>?_) (fun e=>?_)
     ·
      refine aY ?_;exact(cA) (tG (aj d e)) (b)
     refine(a7) aP b.b0<|(db) (fun g=>?_) (fun g=>?_)
     ·
      exact(cA) (tG (aj d<|aj e g)) (b)
     refine(a7) aP b.b0<|(db) (fun m=>?_) (fun m=>?_)
     ·
      exact(cA) (tG (aj d<|aj e<|aj g m)) (b)
     refine(a7) aP b.b0<|?_;exact(cA) (tG (aj d<|aj e<|aj g m)) (b)
    intro w4 y;refine(aS) (fun z=>?_) fun z=>?_
    ·
     exact dL z
    refine(a7) kx y.b0<|dd ?_;refine WC.br (σ:=Nat) (dn:=fun k=>[(0,.slice a r c),(3,.int .i64 (i:Int)),(13,.slice a r c),(14,.int .i64 (r:Int)),(15,.int .i64 (i:Int)),(50,.slice q1 j P),(51,.int .i64 (j:Int)),(52,.int .i64 (k:Int))]) (F:=fun k=>[]) (I:=fun k=>(k≤j)∧True) (μ:=fun k=>j - k) (0) (y) Sub.t (⟨by omega,trivial⟩)<|?_;rintro k w5 h ⟨hk,_⟩;simp only [CA,NA] at h hk ⊢;refine(aS) (fun o=>?_) fun o=>?_
    ·
     simp at o
     have D:k<aa[i].asks.length:=by omega
     obtain⟨S,T,U,H,_,rfl,J,_⟩:=(G.ext (St.cg h)).at (ak D);refine ez ?_;refine WP .r (PV.dU wI H rfl rfl (by omega))<|(aZ) oJ J<|(eZ) h fun V w6 W X K=>?_;refine(cJ) E1 K fun w7 qU mu p=>?_;refine(aZ) oJ p.b0<|bO ?_;refine WL.c1 (u:=.bool true) (qG (k:=k) (x:=aa[i].asks[k]) (hr.ext (St.cg p)) E) (by rw [show fo aa i aa[i].ring k aa[i].asks[k]=true from O k _ (ak D)]) p fun Y s8 L=>?_;refine cq ?_;refine WC.fK rfl<|ez ?_;refine eB (k+1) ⟨L.drop,⟨by omega,trivial⟩⟩
    simp at o
    refine jM ?_;refine eB (i+1) ⟨h.drop,⟨by omega,trivial⟩⟩
   rw [if_neg (by simp [g21])] at q
   simp at q
   refine cy ?_;refine WC.dZ (t:=48) (v:=.bool false) b ?_<|?_
   ·
    refine(a7) kx b.b0<|(db) (fun d=>?_) (fun d=>?_)
    ·
     refine aY ?_;exact(cA) (tG d) (b)
    refine(a7) aP b.b0<|(db) (fun e=>?_) (fun e=>?_)
    ·
     refine aY ?_;exact(cA) (tG (aj d e)) (b)
    refine(a7) aP b.b0<|(db) (fun g=>?_) (fun g=>?_)
    ·
     exact(cA) (tG (aj d<|aj e g)) (b)
    refine(a7) aP b.b0<|(db) (fun m=>?_) (fun m=>?_)
    ·
     exact(cA) (tG (aj d<|aj e<|aj g m)) (b)
    refine(a7) aP b.b0<|?_;exact(cA) (tG (aj d<|aj e<|aj g m)) (b)
   intro w4 y;refine(aS) (fun z=>?_) fun z=>?_
   ·
    exact dL z
   refine(a7) kx y.b0<|dd ?_;refine WC.br (σ:=Nat) (dn:=fun k=>[(0,.slice a r c),(3,.int .i64 (i:Int)),(13,.slice a r c),(14,.int .i64 (r:Int)),(15,.int .i64 (i:Int)),(50,.slice q1 j P),(51,.int .i64 (j:Int)),(52,.int .i64 (k:Int))]) (F:=fun k=>[]) (I:=fun k=>(k≤j)∧True) (μ:=fun k=>j - k) (0) (y) Sub.t (⟨by omega,trivial⟩)<|?_;rintro k w5 h ⟨hk,_⟩;simp only [CA,NA] at h hk ⊢;refine(aS) (fun o=>?_) fun o=>?_
   ·
    simp at o
    have D:k<aa[i].asks.length:=by omega
    obtain⟨S,T,U,H,_,rfl,J,_⟩:=(G.ext (St.cg h)).at (ak D);refine ez ?_;refine WP .r (PV.dU wI H rfl rfl (by omega))<|(aZ) oJ J<|(eZ) h fun V w6 W X K=>?_;refine(cJ) E1 K fun w7 zy tK p=>?_;refine(aZ) oJ p.b0<|bO ?_;refine WL.c1 (u:=.bool true) (qG (k:=k) (x:=aa[i].asks[k]) (hr.ext (St.cg p)) E) (by rw [show fo aa i aa[i].ring k aa[i].asks[k]=true from O k _ (ak D)]) p fun Y s8 L=>?_;refine cq ?_;refine WC.fK rfl<|ez ?_;refine eB (k+1) ⟨L.drop,⟨by omega,trivial⟩⟩
   simp at o
   refine jM ?_;refine eB (i+1) ⟨h.drop,⟨by omega,trivial⟩⟩
  simp at g16
  refine(bz) ?_;exact⟨rfl,(St.cg st1)⟩
 -- k9 eN C63
theorem zN(ht:lD prog A w) (hn:n≤65535):CR prog 194 #[.string (itoa (n:Int))] w (.int .i64 (n:Int)):=by
 refine enter func194 rfl ntmps194 rfl<|?_;have aQ:=St.s0 w;refine(eP) (Ci (n:=n) (by omega) w) aQ fun w1 s1 st1=>?_;refine kS ?_;refine WC.dZ (t:=25) (v:=.bool false) st1 ?_<|?_
 ·
  refine bO ?_;refine WP .r (PV.QE zl rfl)<|nx ?_;refine WL.dm (t:=12) rfl (fun g12=>?_) (fun g12=>?_)
  ·
   refine aY ?_;exact(cA) (tG g12) (st1)
  refine cy ?_;refine WL.dm (t:=16) rfl (fun g16=>?_) (fun g16=>?_)
  ·
   exact(cA) (tG (aj g12 g16)) (st1)
  refine cy ?_;refine WL.dm (t:=20) rfl (fun g20=>?_) (fun g20=>?_)
  ·
   exact(cA) (tG (aj g12<|aj g16 g20)) (st1)
  refine(eP) (ma (n:=(n:Int)) (ht.ext (St.cg st1)) (by omega) (by omega)) st1 fun w2 s2 st2=>?_;exact(cA) (tG (aj g12<|aj g16 g20)) (st2)
 intro w2 st2;refine(aS) (fun b=>?_) fun b=>?_
 ·
  exact dL b
 refine(bz) ?_;exact⟨rfl,(St.cg st2)⟩
theorem zO(ht:lD prog A w) (g:s.size≤1000) (b:∀n:Nat,n≤65535→s≠itoa (n:Int)):CR prog 194 #[.string s] w (.int .i64 0):=by
 refine enter func194 rfl ntmps194 rfl<|?_;have aQ:=St.s0 w;refine(bY) Pg (K6 (s:=s) (ht.ext (St.cg aQ)) g) ?_;rintro _ w1 ⟨v,ok,ev,rfl,j,h,s1⟩;have st1:=aQ.step s1;refine kS ?_;refine WC.dZ (t:=25) (v:=.bool true) st1 ?_<|?_
 ·
  refine bO ?_;refine WP .r (PV.VM zl rfl h)<|(db) (fun g12=>?_) (fun g12=>?_)
  ·
   refine aY ?_;exact(cA) (by first | (simp [g12];done) | (simp at g12 ⊢;intro e;exact b v.toNat (by omega) (by rw [show((v.toNat:Nat):Int)=v by omega];exact e.symm))) (st1)
  refine(db) (fun g16=>?_) (fun g16=>?_)
  ·
   exact(cA) (by first | (simp [g12,g16];done) | (simp at g12 g16 ⊢;intro e;exact b v.toNat (by omega) (by rw [show((v.toNat:Nat):Int)=v by omega];exact e.symm))) (st1)
  refine(db) (fun g20=>?_) (fun g20=>?_)
  ·
   exact(cA) (by first | (simp [g12,g16,g20];done) | (simp at g12 g16 g20 ⊢;intro e;exact b v.toNat (by omega) (by rw [show((v.toNat:Nat):Int)=v by omega];exact e.symm))) (st1)
  refine(eP) (ma (n:=v) (ht.ext (St.cg st1)) (by omega) (by omega)) st1 fun w2 s2 st2=>?_;exact(cA) (by first | (simp [g12,g16,g20];done) | (simp at g12 g16 g20 ⊢;intro e;exact b v.toNat (by omega) (by rw [show((v.toNat:Nat):Int)=v by omega];exact e.symm))) (st2)
 intro w2 st2;refine(aS) (fun d=>?_) fun d=>?_
 ·
  refine(bz) ?_;exact⟨rfl,(St.cg st2)⟩
 exact dL d
theorem ta(ht:lD prog A w) (b:s.size≤1000):CR prog 194 #[.string s] w (.int .i64 (cD s:Int)):=by
 by_cases h:∃n:Nat,n≤65535∧s=itoa (n:Int)
 ·
  obtain⟨n,hn,rfl⟩:=h;rw [fj hn];exact zN ht hn
 have h0:∀n:Nat,n≤65535→s≠itoa (n:Int):=fun n hn e=>h ⟨n,hn,e⟩;rw [Hp h0];exact zO ht b h0
theorem wR{kd:Int}{l:List Nat}(hl:Ints A w a r c (l.map fun x:Nat=>(x:Int))) (g:∀x∈l,x≤65535) (hr:r≤1000):CR prog 196 #[.int .i64 kd,.slice a r c] w (.int .i64 (dq kd 0 l:Int)):=by
 have hle:=SR.le hl;have hlen:=SR.len hl;rw [List.length_map] at hlen;have m:∀i,∀x∈l.take i,x≤65535:=fun i x p=>g x (List.mem_of_mem_take p);refine enter func196 rfl ntmps196 rfl<|?_;have aQ:=St.s0 w;refine aY ?_;refine kS ?_;refine WC.br (σ:=Nat) (dn:=fun i=>[(0,.int .i64 kd),(5,.int .i64 (pU 0 (l.take i):Int)),(6,.int .i64 (sr 0 (l.take i):Int)),(7,.int .i64 (fc 0 (l.take i):Int)),(10,.slice a r c),(11,.int .i64 (r:Int)),(12,.int .i64 (i:Int))]) (F:=fun i=>[]) (I:=fun i=>(i≤r)∧True) (μ:=fun i=>r - i) (0) (aQ) Sub.t (⟨by omega,trivial⟩)<|?_;rintro i w1 st1 ⟨hi,_⟩;simp only [CA,NA] at st1 hi ⊢;refine(aS) (fun g13=>?_) fun g13=>?_
 ·
  simp at g13
  have h:i<l.length:=by omega
  have q:i<(l.map fun x:Nat=>(x:Int)).length:=by simpa using h
  have u:=tI (c:=0) (m i);have v:=nc (c:=0) (by omega) (m i);have y:=lE (c:=0) (by omega) (m i);have E:=g l[i] (List.getElem_mem h)
  have G:(l.take i).length≤1000:=by rw [List.length_take];omega
  have e1:=xx (c:=0) h;have e2:=ub (c:=0) h;have e3:=uc (c:=0) h;refine dd ?_;obtain⟨H,J,K,z,_,rfl,o,_⟩:=(SR.ext hl (St.cg st1)).at (ak q);rw [List.getElem_map] at o;refine nx ?_;refine WP .r (PV.dU E0 z rfl rfl (by omega))<|WP .r (PV.mq aP o rfl rfl)<|kS ?_;refine WP .r (PV.Jd rfl rfl)<|bO ?_;refine WP .r (PV.orN rfl rfl (by omega) (by omega))<|jM ?_;refine eB (i+1) ⟨st1,⟨by omega,trivial⟩⟩
 simp at g13
 have D:l.take i=l:=List.take_of_length_le (by omega);rw [D];have u:=tI (c:=0) g;have v:=nc (c:=0) (by omega) g;have y:=lE (c:=0) (by omega) g
 have L:l.length≤1000:=by omega
 refine aY ?_;refine(aS) (fun b=>?_) fun b=>?_
 ·
  simp at b
  refine(bz) ?_;exact⟨by unfold dq;rw [if_pos b,Int.tmod_eq_emod_of_nonneg (by omega)];rfl,(St.cg st1)⟩
 simp at b
 refine(aS) (fun d=>?_) fun d=>?_
 ·
  simp at d
  refine cq ?_;refine WP .r (PV.quo rfl rfl (by omega) (by rw [Int.tdiv_eq_ediv_of_nonneg (by omega)];omega) (by rw [Int.tdiv_eq_ediv_of_nonneg (by omega)];omega))<|(bz) ?_;exact⟨by unfold dq;rw [if_neg b,if_pos d,Int.tdiv_eq_ediv_of_nonneg (by omega),Int.tmod_eq_emod_of_nonneg (by omega)];rfl,(St.cg st1)⟩
 simp at d
 refine(aS) (fun e=>?_) fun e=>?_
 ·
  simp at e
  refine(bz) ?_;exact⟨by unfold dq;rw [if_neg b,if_neg d,if_pos e],(St.cg st1)⟩
 simp at e
 refine(aS) (fun j=>?_) fun j=>?_
 ·
  simp at j
  refine(bz) ?_;exact⟨by unfold dq;rw [if_neg b,if_neg d,if_neg e,if_pos j,Int.tmod_eq_emod_of_nonneg (by omega)];rfl,(St.cg st1)⟩
 simp at j
 refine(bz) ?_;exact⟨by unfold dq;rw [if_neg b,if_neg d,if_neg e,if_neg j],(St.cg st1)⟩
set_option maxHeartbeats 1600000 in
theorem CO(ht:lD prog A w) (X:aq aa) (hi:i<aa.length) (hr:fP B w a r c aa) (hl:Strs C w a2 r2 e2 ae) (hsz:∀s∈ae,s.size≤1000):CR prog 145 #[.slice a r c,(aM aa (i:Int)).val,.slice a2 r2 e2] w ((cx aa (aM aa (i:Int)) ae).val):=by
 have Ho:=X.len
 have jr:i≤99:=by omega
 have hle:=hr.le;have hlen:=hr.len;have vf:=hl.len;have vk:=hl.le
 obtain⟨kd,hkd,hk⟩:∃kd:Int,(kd=31∨kd=32)∧aM aa (i:Int)=⟨kd,itoa i⟩:=by
  unfold aM
  rw [if_neg (by omega)]
  cases h:aF aa i
  ·
   exact⟨31,.inl rfl,by simp [h]⟩
  exact⟨32,.inr rfl,by simp [h]⟩
 have O:=cj hi jr;obtain⟨afF,afG,aom⟩:=X.2 i _ (ak hi);have hcb:=aq.hb X _ (List.getElem_mem hi);obtain⟨g,X6⟩:∃g:Nat,aa[i].c=g:=⟨aa[i].c.toNat,by omega⟩;obtain⟨b_x,o_x,r_x,CP,_,⟨q1,b,q3,rfl,Cl⟩,YP,_⟩:=hr.at (ak hi);rw [X6] at YP;have yg:=Cl.len;rw [hk] at O ⊢;refine enter func145 rfl ntmps145 rfl<|?_;have aQ:=St.s0 w;refine(dy) aQ fun b4 w1 Fh IV st1=>?_;refine(eZ) st1 fun b6 w2 DH IK st2=>?_;refine(aZ) ao st2.b1<|(eP) (lk (k:=(⟨kd,itoa i⟩:Key)) ⟨by simp only [];omega,by simp only [];omega⟩ rfl jr) st2 fun w3 s3 Y=>?_;refine dd ?_;refine WC.dZ (t:=30) (v:=.bool false) Y ?_<|?_
 ·
  have U1:=Y.bN;refine WC.dB (m:=12) (E:=cB [(10,fun v _=>v=(aM aa (i:Int)).val)]) Y (bm (⟨fun _ _ _ _ _ _ _ h=>h,trivial⟩)) mixed (by kernel_rfl)<|cq ?_;refine DW.dm (t:=19) rfl (fun g19=>?_) (fun g19=>?_)
  ·
   refine(cQ) ?_;rintro w4 ⟨oy,D⟩ _;exact(cA) (by first | rfl | (simp [g19,hk];done) | (simp [g19,hk];omega) | (simp only [g19];done) | (simp only [g19];rfl) | (simp [g19];done) | (simp;done) | (simp at g19 ⊢ <;> omega) | (simp <;> omega) | (simp [g19] <;> omega) | (simp at g19 <;> omega)) (D)
  refine(iv) aP St.g1<|cq ?_;refine DW.dm (t:=24) rfl (fun g24=>?_) (fun g24=>?_)
  ·
   refine(cQ) ?_;rintro w4 ⟨oy,D⟩ _;exact(cA) (by first | rfl | (simp [g19,g24,hk];done) | (simp [g19,g24,hk];omega) | (simp only [g19,g24];done) | (simp only [g19,g24];rfl) | (simp [g19,g24];done) | (simp;done) | (simp at g19 g24 ⊢ <;> omega) | (simp <;> omega) | (simp [g19,g24] <;> omega) | (simp at g19 g24 <;> omega)) (D)
  refine bO ?_;refine DW.c0 (fun wx hC hF=>om (n:=(i:Int)) (hr.ext (St.cg hC.2)))<|(gN) ao St.g1<|(cQ)<|?_;rintro w4 ⟨oy,D⟩ ⟨_,_⟩;refine WP .r (PV.LG fI (p:=aM aa (i:Int)) (q:=(⟨kd,itoa i⟩:Key)) rfl rfl)<|?_;exact(cA) (by first | rfl | (simp [g19,g24,hk];done) | (simp [g19,g24,hk];omega) | (simp only [g19,g24];done) | (simp only [g19,g24];rfl) | (simp [g19,g24];done) | (simp;done) | (simp at g19 g24 ⊢ <;> omega) | (simp <;> omega) | (simp [g19,g24] <;> omega) | (simp at g19 g24 <;> omega)) (D)
 intro w4 D;refine(aS) (fun UZ=>?_) fun UZ=>?_
 ·
  exact dL UZ
 refine fL ?_;refine WP .r (PV.DU jk (i:=i) CP rfl rfl (by omega) (by omega))<|(aZ) sM (aW YP (St.cg D) (by simp))<|(eZ) D fun b8 w5 LK X9 ja=>?_;refine(cJ) E4 ja fun w6 jU j3 K=>?_;refine aY ?_;refine(a7) kx K.b0<|(aS) (fun Ih=>?_) fun Ih=>?_
 ·
  simp at Ih
  have hn:r2<aa[i].asks.length:=by omega
  have z:=jc (ae:=ae) O hi (by rw [O];exact hk) (show ae.length<aa[i].asks.length by omega);simp only [← vf] at z
  have To:r2=0→aa[i].asks[r2].pick=false:=fun h0=>by
   have:=afG r2 _ (ak hn)
   cases hp:aa[i].asks[r2].pick
   ·
    rfl
   unfold fo at this
   rw [hp] at this
   simp [h0] at this
  refine nx ?_;obtain⟨b_y,o_y,r_y,afI,_,rfl,afJ,_⟩:=(Cl.ext (St.cg K)).at (ak hn);refine(a7) kx K.b0<|nx ?_;refine WP .r (PV.dU wI afI rfl rfl (by omega))<|(aZ) oJ afJ<|(eZ) K fun KW w7 Cz CB P=>?_;refine(cJ) E1 P fun w8 qU mu o=>?_;refine(a7) aP o.b0<|dd ?_;refine WC.dZ (t:=65) (v:=.bool (fm aa[i].asks[r2] ae)) o ?_<|?_
  ·
   refine(a7) dH o.b0<|nx ?_;refine WL.dm (t:=52) rfl (fun U=>?_) (fun U=>?_)
   ·
    refine cy ?_;refine WL.dm (t:=56) rfl (fun Iq=>?_) (fun Iq=>?_)
    ·
     simp at Iq
     obtain⟨b_z,o_z,r_z,afK,_,rfl,afL,_⟩:=(hl.ext (St.cg o)).at (ak (show r2 - 1<ae.length by omega))
     have AK:fm aa[i].asks[r2] ae=decide ((cD ae[r2 - 1]:Int).tmod 2=0):=by
      unfold fm
      simp only [U,← vf,Bool.true_and];rw [decide_eq_false (by omega),Bool.false_or,getElem!_pos ae (r2 - 1) (by omega),Int.tmod_eq_emod_of_nonneg (by omega)]
      congr 1
      exact propext ⟨fun h=>by omega,fun h=>by omega⟩
     refine cq ?_;refine WP .r (PV.DU oK (i:=r2 - 1) afK rfl rfl (by omega) (by omega))<|WP .r (PV.mq fy afL rfl rfl)<|(eP) (ta (s:=ae[r2 - 1]) (ht.ext (St.cg o)) (hsz _ (List.getElem_mem _))) o fun w9 s9 d=>?_;exact(cA) (by rw [AK]) (d)
    exact absurd (To (by simp at Iq;omega)) (by simp [U])
   have AK:fm aa[i].asks[r2] ae=false:=by unfold fm;rw [U];rfl
   refine aY ?_;exact(cA) (by rw [AK]) (o)
  intro w9 d;refine(aS) (fun Tp=>?_) fun Tp=>?_
  ·
   have Q:oZ aa[i].asks[r2] ae=aa[i].asks[r2].DV:=by unfold oZ;rw [if_pos Tp]
   refine(a7) aP d.b0<|(a7) dH d.b0<|(aS) (fun J=>?_) fun J=>?_
   ·
    rw [Q,if_pos J] at z;refine(eP) (sZ) d fun S V y=>?_;refine WP .r (PV.bB (us:=[.bool false,.string ⟨#[]⟩,.int .i64 (cF _).kind,.string (cF _).text]) mB rfl rfl rfl)<|(cJ) gE y.p2 fun T zy tK e=>?_;refine(kT) iR e.b0<|?_;rw [z];exact⟨rfl,(St.cg e)⟩
   rw [Q,if_neg (by simp [J])] at z;refine(eP) (om (hr.ext (St.cg d))) d fun S V y=>?_;refine WP .r (PV.bB (us:=[.bool false,.string ⟨#[]⟩,.int .i64 (aM aa _).kind,.string (aM aa _).text]) mB rfl rfl rfl)<|(cJ) gE y.p2 fun T LP LQ e=>?_;refine(kT) iR e.b0<|?_;rw [z];exact⟨rfl,(St.cg e)⟩
  have Q:oZ aa[i].asks[r2] ae=aa[i].asks[r2].n:=by unfold oZ;rw [if_neg (by simp [Tp])]
  refine(a7) dH d.b0<|(aS) (fun J=>?_) fun J=>?_
  ·
   rw [Q,if_pos J] at z;refine(eP) (sZ) d fun S V y=>?_;refine WP .r (PV.bB (us:=[.bool false,.string ⟨#[]⟩,.int .i64 (cF _).kind,.string (cF _).text]) mB rfl rfl rfl)<|(cJ) gE y.p2 fun T LX D6 e=>?_;refine(kT) iR e.b0<|?_;rw [z];exact⟨rfl,(St.cg e)⟩
  rw [Q,if_neg (by simp [J])] at z;refine(eP) (om (hr.ext (St.cg d))) d fun S V y=>?_;refine WP .r (PV.bB (us:=[.bool false,.string ⟨#[]⟩,.int .i64 (aM aa _).kind,.string (aM aa _).text]) mB rfl rfl rfl)<|(cJ) gE y.p2 fun T S1 S2 e=>?_;refine(kT) iR e.b0<|?_;rw [z];exact⟨rfl,(St.cg e)⟩
 simp at Ih
 have z:=j9 (ae:=ae) O hi (by rw [O];exact hk) (show aa[i].asks.length≤ae.length by omega);rw [← yg,X6,Int.toNat_natCast] at z
 have N1:∀x∈(ae.take b).map cD,x≤65535:=fun x G=>by obtain⟨s,_,rfl⟩:=List.mem_map.1 G;exact kJ s
 have X7:=n9 (kind:=aa[i].final) (c:=g) (l:=(ae.take b).map cD) (by omega) N1
 have hll:((ae.take b).map cD).length=b:=by rw [List.length_map,List.length_take];omega
 refine(a7) aP K.b0<|?_;refine WL.go rfl (OX.aR (us:=[.int .i64 (g:Int)]) Kl rfl rfl rfl rfl fun b79 w7 YQ afM=>?_);have P:=St.pY (R:=RR.int) (E:=3) (k:=1) (a:=some ⟨b79,0,none⟩) (n:=1) (c:=1) (xs:=[(g:Int)]) K YQ.ext (OR.dc afM (Nat.zero_le _) rfl (by simp [Value.oneCell']) rfl) (fun x G=>by simp [aJ] at G;subst G;exact YQ.ge);refine(a7) kx P.b1<|nx ?_;refine WP .r (PV.mZ oK (hl.ext (St.cg P)) rfl rfl (by omega))<|dd ?_;refine WC.br (σ:=Nat × (Option Addr) × Nat × Nat) (dn:=fun(j,L,H,N)=>[(6,.pointer (some ⟨b6,0,none⟩)),(8,.pointer (some ⟨b8,0,none⟩)),(12,.slice L H N),(84,.slice a2 b e2),(85,.int .i64 (b:Int)),(86,.int .i64 (j:Int))]) (F:=fun(j,L,H,N)=>[As.os RR.int 3 1 L H N ((((g::((ae.take b).map cD).take j)).map fun x:Nat=>(x:Int)))]) (I:=fun(j,L,H,N)=>(j≤b)∧True) (μ:=fun(j,L,H,N)=>b - j) (0,(some ⟨b79,0,none⟩),1,1) (P) Sub.t (⟨by omega,trivial⟩)<|?_;rintro⟨j,L,H,N⟩ w8 o ⟨hj,_⟩;simp only [CA,NA] at o hj ⊢;have qT:=((As.gs o.g0)).len
 have Fw:H≤1+j:=by have h0:=qT;simp at h0;omega
 refine(aS) (fun FO=>?_) fun FO=>?_
 ·
  simp at FO
  have FE:j<ae.length:=by omega
  obtain⟨b_u,o_u,r_u,afN,_,rfl,afO,_⟩:=(hl.ext (St.cg o)).at (ak FE);refine fL ?_;refine WP .r (PV.dU oK afN rfl rfl (by omega))<|WP .r (PV.mq fy afO rfl rfl)<|(eP) (ta (s:=ae[j]) (ht.ext (St.cg o)) (hsz _ (List.getElem_mem _))) o fun w9 s9 d=>?_;refine WL.go rfl (OX.aR (us:=[.int .i64 (cD ae[j]:Int)]) Kl rfl rfl rfl rfl fun YR S Tq Tr=>?_);have y:=d.da Tq Tr;refine WL.ap rfl rfl y.p1 (SR.dc (A:=fun _=>True) (x:=((cD ae[j]:Nat):Int)) (As.gb y.g0) trivial rfl (by simp [Value.oneCell']) rfl) fun a94 afP T aop aoq e=>?_;refine bO ?_;have W:=e.Vv (show(((((g::((ae.take b).map cD).take j)).map fun x:Nat=>(x:Int)))++[((cD ae[j]:Nat):Int)])=(((g::((ae.take b).map cD).take (j+1))).map fun x:Nat=>(x:Int)) by rw [List.take_succ_eq_append_getElem (by omega),← List.cons_append,List.map_append,List.getElem_map,List.getElem_take];rfl);refine fL ?_;refine eB (j+1,a94,(H+1),afP) ⟨W.p1.drop,⟨by omega,trivial⟩⟩
 simp at FO
 have hje:((ae.take b).map cD).take j=(ae.take b).map cD:=List.take_of_length_le (by omega);have d:=o.Vv (show(((g::((ae.take b).map cD).take j)).map fun x:Nat=>(x:Int))=(((g::(ae.take b).map cD)).map fun x:Nat=>(x:Int)) by rw [hje]);refine(a7) aP d.b1<|nx ?_;refine WL.c1 (u:=.int .i64 ((dq aa[i].final g ((ae.take b).map cD)):Int)) (wR (kd:=aa[i].final) (l:=g::(ae.take b).map cD) (Ow.rd (As.gs d.g0) (by simp;omega)) (fun x G=>by rcases List.mem_cons.1 G with rfl | G;omega;exact N1 x G) (by omega)) (by rw [BB]) d fun w9 s9 y=>?_;refine(eP) (ma (n:=((dq aa[i].final g ((ae.take b).map cD)):Int)) (ht.ext (St.cg y)) (by omega) (by omega)) y fun S V e=>?_;refine WP .r (PV.bB (us:=[.bool true,.string (itoa ((dq aa[i].final g ((ae.take b).map cD)):Int)),.int .i64 0,.string ⟨#[]⟩]) mB rfl rfl rfl)<|(cJ) gE e.p2 fun T UW UX W=>?_;refine(kT) iR W.b0<|?_;rw [z];exact⟨rfl,(St.cg W)⟩
theorem ll(ht:lD prog A w) (d:aq aa) (hi:i<aa.length) (hr:fP B w a r c aa) (hl:Strs C w a2 r2 e2 ae) (hsz:∀s∈ae,s.size≤1000):CR prog 107 #[.slice a r c,(aM aa (i:Int)).val,.slice a2 r2 e2] w ((cx aa (aM aa (i:Int)) ae).val):=by
 have j:=d.len;have g:=eG hi (by omega);refine enter func107 rfl ntmps107 rfl<|?_;have aQ:=St.s0 w;refine(dy) aQ fun b4 w1 m o st1=>?_;refine(eZ) st1 fun p w2 q t st2=>?_;refine(aZ) ao st2.b1<|?_;refine WL.c1 (u:=.bool true) (nQ (k:=aM aa (i:Int))) (by rw [show(decide ((aM aa (i:Int)).kind=31) || decide ((aM aa (i:Int)).kind=32))=true by(rw [g];split <;> simp)]) st2 fun w3 v b=>?_;refine cq ?_;refine WC.oz rfl<|(aZ) ao b.b1<|(eP) (CO (ht.ext (St.cg b)) d hi (hr.ext (St.cg b)) (hl.ext (St.cg b)) hsz) b fun w4 y h=>?_;refine(cJ) gE h fun w5 z D e=>?_;refine(kT) iR e.b0<|?_;exact⟨rfl,(St.cg e)⟩
theorem qH(hk:k.kind=32):CR prog 243 #[k.val] w (.string ⟨#[48]⟩):=by
 refine enter func243 rfl ntmps243 rfl<|?_;have aQ:=St.s0 w;refine(dy) aQ fun b1 w1 b d st1=>?_;refine(a7) aP st1.b0<|(aS) (fun g3=>?_) fun g3=>?_
 ·
  skip
  refine(bz) ?_;exact⟨rfl,(St.cg st1)⟩
 exact absurd g3 (by simp [hk])
theorem wS(hi:i<aa.length) (jr:i≤99) (hr:fP B w a r c aa):CR prog 55 #[.slice a r c,(aM aa (i:Int)).val] w (.bool true):=by
 have g:=eG hi jr
 have j:(aM aa (i:Int)).text=itoa i:=by unfold aM;rw [if_neg (by omega)]
 have o:30≤(aM aa (i:Int)).kind∧(aM aa (i:Int)).kind≤32:=by rw [g];split <;> omega
 refine enter func55 rfl ntmps55 rfl<|?_;have aQ:=St.s0 w;refine(dy) aQ fun b3 w1 t y st1=>?_;refine cy ?_;have z:=st1.bN;refine WC.dB (m:=12) (E:=cB [(1,fun v _=>v=.bool true),(4,fun v _=>v=.bool true),(9,fun v _=>v=.int .i64 (i:Int)),(10,fun v _=>v=(aM aa (i:Int)).val)]) st1 (bm (⟨fun _ _ _ _ _ _ _ h=>h,⟨fun _ _ _ _ _ _ _ h=>h,⟨fun _ _ _ _ _ _ _ h=>h,⟨fun _ _ _ _ _ _ _ h=>h,trivial⟩⟩⟩⟩)) mixed (by kernel_rfl)<|(gN) ao St.g0<|?_;refine DW.c0 (fun d b e=>ib (k:=aM aa (i:Int)) o j jr)<|(gN) ao St.g0<|?_;refine DW.c1 (u:=.bool true) (fun d b e=>nQ (k:=aM aa (i:Int))) (by rw [show(decide ((aM aa (i:Int)).kind=31) || decide ((aM aa (i:Int)).kind=32))=true by(rw [g];split <;> simp)])<|(gN) ao St.g0<|?_;refine DW.c0 (fun d b e=>lk (k:=aM aa (i:Int)) o j jr)<|?_;refine DW.c0 (fun d b e=>om (n:=(i:Int)) (hr.ext (St.cg b.2)))<|(gN) ao St.g0<|(cQ)<|?_;rintro w2 ⟨D,st2⟩ ⟨_,⟨_,⟨_,⟨_,_⟩⟩⟩⟩;refine WP .r (PV.DX fI (p:=aM aa (i:Int)) (q:=aM aa (i:Int)) rfl rfl)<|(bz) ?_;exact⟨by simp,(St.cg st2)⟩
set_option maxHeartbeats 400000
theorem ju{xs:List Key}(m:St w M Z w []) (hl:Rd RR.key 2 Z w a n c xs) (q:xs.length≤1000000):Calls prog 67 #[.slice a n c] w fun e w'=>∃d g h,e=.returned (.slice d g h)∧St w M Z w' [As.os RR.key 40 2 d g h xs]:=by
 have hlen:=hl.len;refine enter func67 rfl ntmps67 rfl<|?_;have aQ:=m;have st1:=aQ.fr hl;refine(aS) (fun g4=>?_) fun g4=>?_
 ·
  simp at g4
  subst g4;have b:=hl.uh;subst b;have st2:=st1.dp RR.key 40 2;refine(bz) ?_;exact⟨none,0,0,rfl,st2.p1.drop⟩
 refine cy ?_;refine WL.go rfl (OX.yE O7 acW rfl fun b5 w1 j o=>?_);have st2:=St.pY (R:=RR.key) (E:=40) (k:=2) (a:=some ⟨b5,0,none⟩) (n:=0) (c:=0) (xs:=[]) st1 j.ext (OR.QF o (Nat.zero_le _)) (fun x b=>by simp [aJ] at b;subst b;exact j.ge);refine nx ?_;refine WL.ap rfl rfl st2 ((As.gr st2.g1)) fun t u w2 v y p=>?_;refine(bz) ?_;exact⟨_,_,_,rfl,p.p1.drop⟩
theorem wT{xs:List Rec}(m:St w M Z w []) (hl:Rd RR.ei 8 Z w a n c xs) (q:xs.length≤1000000):Calls prog 102 #[.slice a n c] w fun e w'=>∃d g h,e=.returned (.slice d g h)∧St w M Z w' [As.os RR.ei 88 8 d g h xs]:=by
 have hlen:=hl.len;refine enter func102 rfl ntmps102 rfl<|?_;have aQ:=m;have st1:=aQ.fr hl;refine(aS) (fun g4=>?_) fun g4=>?_
 ·
  simp at g4
  subst g4;have b:=hl.uh;subst b;have st2:=st1.dp RR.ei 88 8;refine(bz) ?_;exact⟨none,0,0,rfl,st2.p1.drop⟩
 refine cy ?_;refine WL.go rfl (OX.yE O6 acY rfl fun b5 w1 j o=>?_);have st2:=St.pY (R:=RR.ei) (E:=88) (k:=8) (a:=some ⟨b5,0,none⟩) (n:=0) (c:=0) (xs:=[]) st1 j.ext (OR.QF o (Nat.zero_le _)) (fun x b=>by simp [aJ] at b;subst b;exact j.ge);refine nx ?_;refine WL.ap rfl rfl st2 ((As.gr st2.g1)) fun t u w2 v y p=>?_;refine(bz) ?_;exact⟨_,_,_,rfl,p.p1.drop⟩
theorem oQ{xs:List ct}(m:St w M Z w []) (hl:Rd RR.aD 4 Z w a n c xs) (q:xs.length≤1000000):Calls prog 56 #[.slice a n c] w fun e w'=>∃d g h,e=.returned (.slice d g h)∧St w M Z w' [As.os RR.aD 78 4 d g h xs]:=by
 have hlen:=hl.len;refine enter func56 rfl ntmps56 rfl<|?_;have aQ:=m;have st1:=aQ.fr hl;refine(aS) (fun g4=>?_) fun g4=>?_
 ·
  simp at g4
  subst g4;have b:=hl.uh;subst b;have st2:=st1.dp RR.aD 78 4;refine(bz) ?_;exact⟨none,0,0,rfl,st2.p1.drop⟩
 refine cy ?_;refine WL.go rfl (OX.yE O5 acX rfl fun b5 w1 j o=>?_);have st2:=St.pY (R:=RR.aD) (E:=78) (k:=4) (a:=some ⟨b5,0,none⟩) (n:=0) (c:=0) (xs:=[]) st1 j.ext (OR.QF o (Nat.zero_le _)) (fun x b=>by simp [aJ] at b;subst b;exact j.ge);refine nx ?_;refine WL.ap rfl rfl st2 ((As.gr st2.g1)) fun t u w2 v y p=>?_;refine(bz) ?_;exact⟨_,_,_,rfl,p.p1.drop⟩
theorem pG(p:St w M Z w []) (hk:Rd RR.key 2 Z w a n c x.reads) (u:x.reads.length≤4000):Calls prog 63 #[.agg (x.row a n c).toArray] w fun e w'=>∃d g h,e=.returned (.agg (x.row d g h).toArray)∧St w M Z w' [As.os RR.key 40 2 d g h x.reads]:=by
 refine enter func63 rfl ntmps63 rfl<|?_;have aQ:=p;have st1:=aQ.fr hk;refine(dy) st1 fun b1 w1 v y st2=>?_;refine(eZ) st2 fun b2 w2 z D j=>?_;refine(a7) dE j.b1<|?_;have b:=j;refine(bY) Kx (ju b.e0 (As.gr b.g2) (by omega)) ?_;rintro _ w3 ⟨f1,f2,f3,rfl,q⟩;have t:=St.lr b q;refine nx ?_;refine WL.s1 t.p2 fun w4 _ m=>?_;refine(aZ) cV m.b0<|(cJ) fY m.p2 fun w5 E F o=>?_;refine(kT) cV o.b0<|?_;exact⟨_,_,_,rfl,o.p2.k1⟩
theorem oR{p:Rec→Bool}(g:CF prog f) (hl:Rd RR.ei 8 Z w a n c l) (m:∀w1,aT [] w w1→∀x∈l,∀a n c,Rd RR.key 2 Z w1 a n c x.reads→Calls prog f #[.agg (x.row a n c).toArray,cap] w1 fun e w'=>e=.returned (.bool (p x))∧aT [] w1 w'):Calls prog 78 #[.slice a n c,.func (.func f) #[] #[cap]] w fun e w'=>∃j:Int,e=.returned (.int .i64 j)∧uA l p j∧aT [] w w':=by
 have hlen:=hl.len;have hle:=hl.le;refine enter func78 rfl ntmps78 rfl<|?_;have aQ:=St.s0 w;refine aY ?_;refine bO ?_;refine WC.br (σ:=Nat) (dn:=fun i=>[(0,.slice a n c),(1,.func (.func f) #[] #[cap]),(7,.int .i64 (n:Int)),(8,.int .i64 (i:Int))]) (F:=fun i=>[]) (I:=fun i=>(i≤n)∧(∀j x,j<i→l[j]?=some x→p x=false)∧True) (μ:=fun i=>n - i) (0) (aQ) Sub.t (⟨by omega,fun j x h=>by omega,trivial⟩)<|?_;rintro i w1 st1 ⟨hi,b,_⟩;simp only [CA,NA] at st1 hi b ⊢;refine(aS) (fun g9=>?_) fun g9=>?_
 ·
  simp at g9
  have d:i<l.length:=by omega
  refine kg ?_;obtain⟨E,G,H,o,J,q,u,K⟩:=Rd.at hl d;obtain⟨q1,L,N,rfl,v,O⟩:=q;refine cy ?_;refine WP .r (PV.dU iG o rfl rfl (by omega))<|(aZ) cV (aW u (St.cg st1) (by simp))<|?_;refine WL.go rfl (OX.na g rfl rfl rfl ((Calls.cap (m _ (St.cg st1) l[i] (List.getElem_mem d) _ _ _ (v.ext (St.cg st1)))).mono ?_));rintro _ w2 ⟨rfl,s2⟩;refine⟨_,rfl,?_⟩;have st2:=st1.step s2;refine(aS) (fun g16=>?_) fun g16=>?_
  ·
   refine(bz) ?_;exact⟨_,rfl,.inl ⟨i,_,ak d,g16,b,rfl⟩,(St.cg st2)⟩
  have g16:p l[i]=false:=by simpa using g16
  refine ez ?_;refine eB (i+1) ⟨st2,⟨by omega,cG d b (by simpa using g16),trivial⟩⟩
 simp at g9
 have y:∀x∈l,p x=false:=fun x z=>by obtain⟨j,D,rfl⟩:=List.getElem_of_mem z;exact b j _ (by omega) (ak D)
 refine(bz) ?_;exact⟨_,rfl,.inr ⟨y,rfl⟩,(St.cg st1)⟩
theorem rZ{p:Rec→Bool}(d:CF prog f) (hl:Rd RR.ei 8 Z w a n c l) (g:∀w1,aT [] w w1→∀x∈l,∀a n c,Rd RR.key 2 Z w1 a n c x.reads→Calls prog f #[.agg (x.row a n c).toArray,cap] w1 fun e w'=>e=.returned (.bool (p x))∧aT [] w1 w') (h:∀x∈l,p x=false):CR prog 95 #[.slice a n c,.func (.func f) #[] #[cap]] w (.bool false):=by
 refine enter func95 rfl ntmps95 rfl<|?_;have aQ:=St.s0 w;refine(bY) WX (oR (w:=w) d (hl.ext (St.cg aQ)) (fun w1 h1=>g w1 (aT.trans (St.cg aQ) h1))) ?_;rintro _ w1 ⟨j,rfl,m,s1⟩;have st1:=aQ.step s1
 have o:j = -1:=by rcases m with⟨i,x,h1,b,_⟩ | ⟨_,b⟩;exact absurd b (by simp [h x (List.mem_of_getElem? h1)]);exact b
 subst o;refine(bz) ?_;exact⟨by simp,(St.cg st1)⟩
theorem wU{l:List Key}(hl:Rd RR.key 2 Z w a n c l):Calls prog 202 #[.slice a n c,k.val] w fun e w'=>((k∈l∧∃i:Nat,e=.returned (.int .i64 (i:Int)))∨(k∉l∧e=.returned (.int .i64 (-1))))∧aT [] w w':=by
 have hlen:=hl.len;have hle:=hl.le;refine enter func202 rfl ntmps202 rfl<|?_;have aQ:=St.s0 w;refine(dy) aQ fun b3 w1 E G st1=>?_;refine aY ?_;refine WC.br (σ:=Nat) (dn:=fun i=>[(0,.slice a n c),(3,.pointer (some ⟨b3,0,none⟩)),(7,.int .i64 (n:Int)),(8,.int .i64 (i:Int))]) (F:=fun i=>[]) (I:=fun i=>(i≤n)∧(∀j x,j<i→l[j]?=some x→x≠k)∧True) (μ:=fun i=>n - i) (0) (st1) Sub.t (⟨by omega,fun j x h=>by omega,trivial⟩)<|?_;rintro i w2 st2 ⟨hi,b,_⟩;simp only [CA,NA] at st2 hi b ⊢;refine(aS) (fun g9=>?_) fun g9=>?_
 ·
  simp at g9
  have d:i<l.length:=by omega
  refine kg ?_;obtain⟨H,J,K,v,L,g,y,N⟩:=Rd.at hl d;have g:=RR.bd g;subst g;have O:=st2.bN;refine WC.dS (m:=5) st2 mixed<|(gN) ao St.g0<|bO ?_;refine DP .r (fun _ o=>PV.dU eA v rfl rfl (by omega))<|DP .r (fun _ o=>VA ao (aW y (St.cg o.2) (by simp)) .r)<|(cQ)<|?_;rintro w3 ⟨P,u⟩ _;refine WP .r (PV.DX fI (p:=k) (q:=l[i]) rfl rfl)<|(aS) (fun g16=>?_) fun g16=>?_
  ·
   simp at g16
   refine(bz) ?_;exact⟨.inl ⟨g16 ▸ List.getElem_mem d,i,rfl⟩,(St.cg u)⟩
  simp at g16
  refine ez ?_;refine eB (i+1) ⟨u,⟨by omega,cG d b (fun e=>g16 e.symm),trivial⟩⟩
 simp at g9
 have z:k∉l:=fun hm=>by obtain⟨j,D,h⟩:=List.getElem_of_mem hm;exact b j _ (by omega) (ak D) h
 refine(bz) ?_;exact⟨.inr ⟨z,rfl⟩,(St.cg st2)⟩
theorem r5{l:List Key}(hl:Rd RR.key 2 Z w a n c l):CR prog 151 #[.slice a n c,k.val] w (.bool (decide (k∈l))):=by
 refine enter func151 rfl ntmps151 rfl<|?_;have aQ:=St.s0 w;refine(dy) aQ fun b3 w1 m o st1=>?_;refine(aZ) ao st1.b0<|(bY) XS ((wU (k:=k) (w:=w1) (hl.ext (St.cg st1))).mono (fun e d h=>show ∃j:Int,e=.returned (.int .i64 j)∧decide (0≤j)=decide (k∈l)∧aT [] w1 d from by rcases h.1 with⟨h1,i,b⟩ | ⟨h1,b⟩;exact⟨i,b,by simp [h1],h.2⟩;exact⟨-1,b,by simp [h1],h.2⟩)) ?_;rintro _ w2 ⟨j,rfl,g,s2⟩;have st2:=st1.step s2;refine(bz) ?_;exact⟨by rw [g],(St.cg st2)⟩
theorem zP{bk:Nat}(hb:bU w bk 40 k.cells):CR prog 79 #[.agg (x.row a n c).toArray,.pointer (some ⟨bk,0,none⟩)] w (.bool (decide (x.key=k))):=by
 refine enter func79 rfl ntmps79 rfl<|?_;have aQ:=St.s0 w;refine(dy) aQ fun b2 w1 b d st1=>?_;refine(hW) ao st1.b0<|(aZ) ao (bU.range (hb.ext (St.cg st1)))<|?_;refine WP .r (PV.DX fI (p:=x.key) (q:=k) rfl rfl)<|(bz) ?_;exact⟨rfl,(St.cg st1)⟩
theorem zQ(H:St w M Z w []) (hl:Rd RR.ei 8 Z w a n c l):Calls prog 42 #[.slice a n c,k.val] w fun e w'=>∃y z D,e=.returned (.tuple #[.agg ((aC l k).row y z D).toArray,.bool (aA l k).isSome])∧(aC l k).reads.length≤4000∧St w M Z w' [As.os RR.key 40 2 y z D (aC l k).reads]:=by
 have hlen:=hl.len;have hle:=hl.le;refine enter func42 rfl ntmps42 rfl<|?_;have aQ:=H;have st1:=aQ.fr hl;refine(dy) st1 fun b3 w1 X Y st2=>?_;refine(eZ) st2 fun b4 w2 Fh IV q=>?_;refine fL ?_;refine WP .r (PV.func (us:=[]) (vs:=[.pointer (some ⟨b3,0,none⟩)]) rfl rfl)<|(bY) WX (oR (p:=fun x=>decide (x.key=k)) adR (As.gr q.g2) (fun w1 h1 x _ a n c _=>zP ((As.gb q.g1).ext h1))) ?_;rintro _ w3 ⟨j,rfl,o,I⟩;have t:=q.step I;refine(aS) (fun g11=>?_) fun g11=>?_
 ·
  simp at g11
  have J:∀x∈l,(decide (x.key=k))=false:=by rcases o with⟨i,x,_,_,_,h⟩ | ⟨h,_⟩;omega;exact h
  have d:aA l k=none:=pV (i:=l.length) (Nat.le_refl _) (fun j x _ g=>by simpa using J x (List.mem_of_getElem? g))
  have b:aC l k=nh:=by unfold aC;rw [d];rfl
  have u:=t.dp RR.key 40 2;refine(cJ) fY u.p1 fun w4 jU j3 m=>?_;refine dd ?_;refine EX.ey rfl (RS.cell cV rfl m.b0 rfl<|RS.tmp rfl<|RS.nil) rfl<|?_;exact⟨none,0,0,by rw [d,b];rfl,by rw [b];simp [nh],by rw [b];exact m.p1.k1⟩
 simp at g11
 obtain⟨i,x,g,K,L,rfl⟩:∃i:Nat,∃x,l[i]?=some x∧decide (x.key=k)=true∧(∀j x,j<i→l[j]?=some x→(x.key == k)=false)∧j=i:=by
  rcases o with⟨i,x,h1,N,O,P⟩ | ⟨_,h⟩
  ·
   exact⟨i,x,h1,N,fun j x o g=>by simpa using O j x o g,P⟩
  omega
 obtain⟨E,rfl⟩:=List.getElem?_eq_some_iff.1 g;have d:aA l k=some l[i]:=jy E L (by simpa using K)
 have b:aC l k=l[i]:=by unfold aC;rw [d];rfl
 refine cq ?_;obtain⟨gT,k8,kz,Q,gU,R,S,T⟩:=Rd.at (As.gr t.g2) E;obtain⟨q1,q2,q3,rfl,U,F⟩:=R;have u:=t.fg T S;have m:=u.fr U;refine cq ?_;refine WP .r (PV.dU iG Q rfl rfl (by omega))<|(aZ) cV (As.lF m.g1)<|?_;have v:=m;refine(bY) Sg (pG v.e0 (As.gr v.g0) F) ?_;rintro _ w4 ⟨e1,e2,e3,rfl,V⟩;have W:=St.lr v V;refine(cJ) fY W.p3 fun w5 qU mu G=>?_;refine cy ?_;refine EX.ey rfl (RS.cell cV rfl G.b0 rfl<|RS.tmp rfl<|RS.nil) rfl<|?_;exact⟨e1,e2,e3,by rw [d,b];rfl,by rw [b];exact F,by rw [b];exact G.p1.k1⟩
theorem zR(G:St w M Z w []) (hl:Rd RR.ei 8 Z w a n c l) (H:l.length≤1000000):Calls prog 57 #[.slice a n c] w fun e w'=>∃q u v Z',e=.returned (.slice q u v)∧bK w.heap.size Z Z'∧St w M Z' w' [As.os RR.ei 88 8 q u v l]:=by
 have hlen:=hl.len;have hle:=hl.le;refine enter func57 rfl ntmps57 rfl<|?_;have aQ:=G;have st1:=aQ.fr hl;refine gV ?_;have st2:=st1;refine(bY) W2 (wT st2.e0 (As.gr st2.g0) H) ?_;rintro _ w1 ⟨f1,f2,f3,rfl,J⟩;have y:=St.lr st2 J;have X:=((As.gs y.g0)).len;refine aY ?_;refine WC.gY (σ:=Nat × (Nat→Prop)) (dn:=fun(i,b)=>[(3,.slice f1 f2 f3),(8,.slice f1 f2 f3),(9,.int .i64 (f2:Int)),(10,.int .i64 (i:Int))]) (F:=fun(i,b)=>[As.os RR.ei 88 8 f1 f2 f3 l]) (I:=fun(i,b)=>(i≤f2)∧(bK w.heap.size Z b)∧True) (μ:=fun(i,b)=>f2 - i) (Zf:=fun(i,b)=>b) (0,Z) (y) Sub.t (⟨by omega,bK.refl _ _,trivial⟩)<|?_;rintro⟨i,b⟩ w2 d ⟨hi,j,_⟩;simp only [CA,NA] at d hi j ⊢;refine(aS) (fun g11=>?_) fun g11=>?_
 ·
  simp at g11
  have m:i<l.length:=by omega
  refine dd ?_;obtain⟨Y,kz,o,gU,K,L⟩:=Ow.at (As.gs d.g0) (by omega) (ak m);obtain⟨q1,q2,q3,rfl,N,z⟩:=K;have O:=d.fr (N);refine bO ?_;refine WP .r (PV.dU iG o rfl rfl (by omega))<|(aZ) cV L<|(eZ) O fun b5 w3 H4 H5 P=>?_;refine(cJ) fY P fun w4 jU j3 D=>?_;refine(aZ) cV D.b0<|?_;have g:=D;refine(bY) Sg (pG g.e0 (As.gr g.g1) z) ?_;rintro _ w5 ⟨e1,e2,e3,rfl,E⟩;have Q:=St.lr g E;have R:=St.bP E;have hsz:=g.size;have p:=Q.ba (by omega);have S:=j.trans (bK.dA (F:=fun x=>x∈aJ e1) R) hsz;refine WP .r (PV.dU iG o rfl rfl (by omega))<|?_;refine WL.go rfl (OX.Vw (i:=i) fY (As.gs p.g3) o m rfl rfl rfl (Rec.one _ _ _ _) l[i] ⟨e1,e2,e3,rfl,(As.gr p.g0),z⟩ fun w6 T U=>?_);have V:=p.p3.eO T U (fun x h=>.inl h);have W:=V.Vv (List.set_getElem_self m);refine ez ?_;refine eB (i+1,_) ⟨W.p4.p1.k2,⟨by omega,S,trivial⟩⟩
 refine(bz) ?_;exact⟨_,_,_,_,rfl,j,d.p1.drop⟩
theorem vH{x:bZ}(G:St w M Z w []) (hi:Rd RR.aD 4 Z w a1 n1 e1 x.ab) (hr:Rd RR.ei 8 Z w a2 n2 e2 x.ah) (H:x.ah.length≤1000000) (I:x.ab.length≤1000000):Calls prog 25 #[.agg (x.row a1 n1 e1 a2 n2 e2).toArray] w fun e w'=>∃g h j o p q Z',e=.returned (.agg (x.row g h j o p q).toArray)∧bK w.heap.size Z Z'∧St w M Z' w' [As.os RR.aD 78 4 g h j x.ab,As.os RR.ei 88 8 o p q x.ah]:=by
 refine enter func25 rfl ntmps25 rfl<|?_;have aQ:=G;have st1:=aQ.fr hi;have st2:=st1.fr hr;refine(dy) st2 fun b1 w1 Q R J=>?_;refine(eZ) J fun b2 w2 S T K=>?_;refine cq ?_;refine WC.bL (m:=7) [] [2,5] [0,1,2,3,4,5,6] [] K (ai.k4 M0 M1 M2 M3<|ai.nil) mixed (by kernel_rfl) (by kernel_rfl) rfl<|(oq) i7 SV.g1<|(gh) (fun w3 U V t W=>?_);simp only [CA,NA] at t;have d:=t;refine OX.call WR rfl rfl ((oQ d.e0 (As.gr d.g3) I).mono ?_);rintro _ w4 ⟨f1,f2,f3,rfl,u⟩;have L:=St.lr d u;refine⟨_,rfl,u.bX.size,_,rfl,_,_,_,L,ax.k4<|ax.cons<|ax.nil,ai.k4 M1 M2 M3 M4<|ai.nil,?_⟩;refine(oq) dD SV.g1<|(gh) (fun w5 X Y v jV=>?_);simp only [CA,NA] at v;have b:=v;refine OX.call adH rfl rfl ((zR b.e0 (As.gr b.g3) H).mono ?_);rintro _ w6 ⟨f4,f5,f6,Z1,rfl,y,z⟩;have N:=St.lv b z y;have O:=y.le b.size;refine⟨_,rfl,z.bX.size,_,rfl,_,_,_,N,ax.k4<|ax.k2<|ax.nil,ai.k4 M2 M3 M4 M5<|ai.nil,?_⟩;refine(jo) ?_;intro w7 rX D;simp only [CM,NM,CA,NA,hV.it] at D;refine WL.s1 D.p3 fun w8 _ P=>?_;refine nx ?_;refine WL.s1 P fun w9 _ E=>?_;refine WL.nil (EX.np ?_);refine(aZ) aO E.b0<|(cJ) dN E.p3 fun iT jU j3 F=>?_;refine(kT) aO F.b0<|?_;exact⟨_,_,_,_,_,_,_,rfl,O,F.p2.p3.k2⟩
theorem r6{r:Rec}{x:bZ}{b:Nat}(hb:bU w b 31 (x.row a1 n1 e1 a2 n2 e2)):CR prog 96 #[.agg (r.row a n c).toArray,.pointer (some ⟨b,0,none⟩)] w (.bool (decide (x.ad<r.av))):=by
 refine enter func96 rfl ntmps96 rfl<|?_;have aQ:=St.s0 w;refine(dy) aQ fun b2 w1 d e st1=>?_;refine(a7) aP st1.b0<|(a7) aP (bU.range (hb.ext (St.cg st1)))<|(bz) ?_;exact⟨rfl,(St.cg st1)⟩
end Go.Rc

