/- Walks over the program, part WO. Conditions: as each theorem says. -/
import Derived.Test.YtfamnpoplgkkcaaGreatDoorOFacts
import Derived.Test.YtfamnpoplgkkcaaGreatDoorOWLibE
import Derived.Test.YtfamnpoplgkkcaaGreatDoorOBe
import Derived.Test.YtfamnpoplgkkcaaGreatDoorOBd
import Derived.Test.YtfamnpoplgkkcaaGreatDoorOWF
set_option linter.all false
namespace Go.Rc
open Go Go.Proofs Go.Proofs.Tryz
variable {n r c i r2 e2 n1 e1 n2:Nat}{w:World}{aa:List aG}{A B C M Z:Nat→Prop}{a a2 a1:Option Addr}{k:Key}{s:ByteArray}{l:List Rec}{ae:List ByteArray}{x:Rec}{f:FuncId}{cap:Value}
set_option maxHeartbeats 400000
theorem te{n:Int} :CR prog 207 #[.int .i64 n] w ((cD n).val):=by
 refine enter func207 rfl ntmps207 rfl<|?_;have aO:=St.s0 w;refine(eN) aO fun b2 w1 e g st1=>?_;refine cj ?_;refine WC.dU (t:=8) (v:=.bool (decide (n<0) || decide (99<n))) st1 ?_<|?_
 ·
  refine(dc) (fun g5=>?_) (fun g5=>?_)
  ·
   exact(cw) (by simp only [g5];first | rfl | simp) (st1)
  exact(cw) (by simp only [g5];first | rfl | simp) (st1)
 intro w2 st2;refine(aR) (fun g8=>?_) fun g8=>?_
 ·
  have hk:cD n=eU:=by unfold cD;rw [if_pos (by simp at g8;omega)]
  refine(cF) gQ st2 fun w3 h j b=>?_;refine(kR) ao b.b0<|?_;rw [hk];exact⟨rfl,(St.cg b)⟩
 simp at g8
 have hk:cD n=⟨30,itoa n⟩:=by unfold cD;rw [if_neg (by omega)]
 refine(eS) (ji (n:=n) (by omega) (by omega) w2) st2 fun w3 m b=>?_;refine WP .r (PV.bz (us:=[.int .i64 30,.string (itoa n)]) B4 rfl rfl rfl)<|(cF) gQ b fun w4 o p d=>?_;refine(kR) ao d.b0<|?_;rw [hk];exact⟨rfl,(St.cg d)⟩
theorem zL{n:Int}(hr:fK A w a r c aa):CR prog 202 #[.slice a r c,.int .i64 n] w (.tuple #[.int .i64 (block aa n).1,.int .i64 (block aa n).2]):=by
 have hle:=hr.le;have hlen:=hr.len;refine enter func202 rfl ntmps202 rfl<|?_;have aO:=St.s0 w;refine gL ?_;refine WC.dU (t:=15) (v:=.bool (decide (n<0) || decide ((r:Int)≤n))) aO ?_<|?_
 ·
  refine(dc) (fun g10=>?_) (fun g10=>?_)
  ·
   exact(cw) (by simp only [g10];first | rfl | simp) (aO)
  exact(cw) (by simp only [g10];first | rfl | simp) (aO)
 intro w1 st1;refine(aR) (fun g15=>?_) fun g15=>?_
 ·
  have hb:=xp aa n (by simp at g15;omega);refine(yE) ?_;exact⟨by rw [hb],(St.cg st1)⟩
 obtain⟨b,rfl⟩:∃i:Nat,n=i:=⟨n.toNat,by simp at g15;omega⟩
 have o:b<aa.length:=by simp at g15;omega
 have h:block aa b=if aF aa b then ((bD aa b:Int),(dJ aa (b+1):Int)) else ((b:Int),(b:Int)+1):=by
  unfold block;rw [if_neg (by omega)];rfl
 refine aX ?_;refine nx ?_;obtain⟨X,Y,r_x,H,_,⟨q1,q2,q3,rfl,_⟩,J,_⟩:=(hr.ext (St.cg st1)).at (ak o);refine bY ?_;refine WP .r (PV.dI jh H rfl rfl (by omega))<|nx ?_;refine WP .r (PV.ld1 (j:=0) dG J rfl rfl)<|(aR) (fun g24=>?_) fun g24=>?_
 ·
  simp at g24
  have hb:block aa b=((b:Int),(b:Int)+1):=by rw [h,if_neg (by rw [bW o,g24];simp)]
  refine(yE) ?_;exact⟨by rw [hb],(St.cg st1)⟩
 simp at g24
 rw [if_pos (by rw [bW o];exact g24)] at h;refine cj ?_;refine WC.bd (σ:=Nat) (dj:=fun k=>[(0,.slice a r c),(6,.int .i64 (k:Int)),(7,.int .i64 ((b:Int)+1))]) (F:=fun k=>[]) (I:=fun k=>(k≤b)∧(bD aa k=bD aa b)∧True) (μ:=fun k=>k) (b) (st1) Sub.t (⟨Nat.le_refl _,rfl,trivial⟩)<|?_;rintro k w2 st2 ⟨hk,p,_⟩;simp only [CA,NA] at st2 hk p ⊢;refine bK ?_;refine WC.dU (t:=36) (v:=.bool (decide ((0:Int)<k) && aF aa (k - 1))) st2 ?_<|?_
 ·
  refine(dc) (fun q=>?_) (fun q=>?_)
  ·
   simp at q
   obtain⟨b_y,o_y,r_y,K,_,⟨L,N,O,rfl,_⟩,P,_⟩:=(hr.ext (St.cg st2)).at (ak (show k - 1<aa.length by omega));have Dw:aa[k-1].ring=aF aa (k-1):=(bW (by omega)).symm;refine bY ?_;refine WP .r (PV.DJ jh (i:=k - 1) K rfl rfl (by omega) (by omega))<|nx ?_;refine WP .r (PV.ld1 (j:=0) dG P rfl rfl)<|?_;exact(cw) (by simp [*]) (st2)
  simp at q
  have Q:¬(0<k):=by omega
  exact(cw) (by simp [*]) (st2)
 intro w3 z;refine(aR) (fun d=>?_) fun d=>?_
 ·
  simp at d
  obtain⟨g1,g2⟩:=d;obtain⟨j,rfl⟩:∃j,k=j+1:=⟨k - 1,by omega⟩;refine kI ?_;refine ef (j) ⟨z,⟨by omega,by rw [← p,pP (by simpa using g2)],trivial⟩⟩
 simp at d
 have R:(block aa b).1=k:=by
  rw [h]
  show(bD aa b:Int)=k
  rw [← p,sq]
  by_cases h0:k=0
  ·
   exact .inl h0
  exact .inr (d (by omega))
 refine ed ?_;refine WC.bd (σ:=Nat) (dj:=fun m=>[(0,.slice a r c),(6,.int .i64 (k:Int)),(7,.int .i64 (m:Int))]) (F:=fun m=>[]) (I:=fun m=>(b+1≤m)∧(m≤r)∧(dJ aa m=dJ aa (b+1))∧True) (μ:=fun m=>r - m) (b+1) (z) Sub.t (⟨Nat.le_refl _,by omega,rfl,trivial⟩)<|?_;rintro m w4 e ⟨S,T,u,_⟩;simp only [CA,NA] at e S T u ⊢;refine bK ?_;refine WC.dU (t:=49) (v:=.bool (decide ((m:Int)<r) && aF aa m)) e ?_<|?_
 ·
  refine(dc) (fun y=>?_) (fun y=>?_)
  ·
   simp at y
   obtain⟨b_z,o_z,r_z,U,_,⟨L,N,O,rfl,_⟩,V,_⟩:=(hr.ext (St.cg e)).at (ak (show m<aa.length by omega));have D:aa[m].ring=aF aa m:=(bW (by omega)).symm
   have E:decide ((m:Int)<r)=true:=by simp;omega
   refine bK ?_;refine WP .r (PV.dI jh U rfl rfl (by omega))<|nx ?_;refine WP .r (PV.ld1 (j:=0) dG V rfl rfl)<|?_;exact(cw) (by first | (rw [D,E];rfl) | simp [*]) (e)
  simp at y
  have Q:¬(m<aa.length):=by omega
  exact(cw) (by first | (rw [D,E];rfl) | simp [*]) (e)
 intro w5 G;refine(aR) (fun g=>?_) fun g=>?_
 ·
  simp at g
  obtain⟨g3,g4⟩:=g;refine kI ?_;refine ef (m+1) ⟨G,⟨by omega,by omega,by rw [← u,← sn g4],trivial⟩⟩
 simp at g
 have W:(block aa b).2=m:=by
  rw [h]
  show(dJ aa (b+1):Int)=m
  rw [← u,uc]
  rcases Nat.lt_or_ge m r with h0 | h0
  ·
   exact g (by omega)
  exact lN (by omega)
 refine aX ?_;refine(yE) ?_;exact⟨by rw [R,W],(St.cg G)⟩
theorem pz{cell:Bool}{n:Int}(hr:fK A w a r c aa) (hi:i<aa.length):CR prog 148 #[.slice a r c,.int .i64 (i:Int),.bool cell,.int .i64 n] w (.bool (gw aa i cell n)):=by
 have hle:=hr.le;have hlen:=hr.len;have g:=bW hi;have o:=D4 hi
 have ht:fE aa i=if aa[i].ring=true then (block aa (i:Int)).2 else (block aa (i:Int)).1:=by unfold fE;rw [g]
 refine enter func148 rfl ntmps148 rfl<|?_;have aO:=St.s0 w;refine(aR) (fun g11=>?_) fun g11=>?_
 ·
  refine nx ?_;refine WC.kQ (t:=8) (v:=.bool (decide (0≤n) && decide (n≤15))) aO ?_<|?_
  ·
   refine(dc) (fun g14=>?_) (fun g14=>?_)
   ·
    exact(gz) (by simp only [g14];first | rfl | simp) (aO)
   exact(gz) (by simp only [g14];first | rfl | simp) (aO)
  intro w1 st1;refine(bs) ?_;exact⟨by unfold gw;rw [if_pos g11],(St.cg st1)⟩
 refine(eS) (zL (n:=(i:Int)) (hr.ext (St.cg aO))) aO fun w1 s1 st1=>?_;refine gL ?_;obtain⟨p,q,u,h,_,⟨q1,y,z,rfl,_⟩,m,_⟩:=(hr.ext (St.cg st1)).at (ak hi);refine WC.kQ (t:=8) (v:=.bool (decide (0≤n) && decide (n<fE aa i))) st1 ?_<|?_
 ·
  refine(dc) (fun b=>?_) (fun b=>?_)
  ·
   refine(dc) (fun d=>?_) (fun d=>?_)
   ·
    refine aX ?_;exact(gz) (by rw [ht];first | (simp [b,d];done) | (simp at b d;simp [b,d];done) | (simp at b d ⊢;split <;> omega) | (simp at b d;simp [b,d];omega)) (st1)
   refine bK ?_;refine WP .r (PV.dI jh h rfl rfl (by omega))<|nx ?_;refine WP .r (PV.ld1 (j:=0) dG m rfl rfl)<|(dc) (fun e=>?_) (fun e=>?_)
   ·
    exact(gz) (by rw [ht];first | (simp [b,d,e];done) | (simp at b d e;simp [b,d,e];done) | (simp at b d e ⊢;split <;> omega) | (simp at b d e;simp [b,d,e];omega)) (st1)
   exact(gz) (by rw [ht];first | (simp [b,d,e];done) | (simp at b d e;simp [b,d,e];done) | (simp at b d e ⊢;split <;> omega) | (simp at b d e;simp [b,d,e];omega)) (st1)
  refine aX ?_;exact(gz) (by rw [ht];first | (simp [b];done) | (simp at b;simp [b];done) | (simp at b ⊢;split <;> omega) | (simp at b;simp [b];omega)) (st1)
 intro w2 st2;refine(bs) ?_;exact⟨by unfold gw;rw [g11];rfl,(St.cg st2)⟩
theorem qI{k:Nat}{x:Ask}(hr:fK A w a r c aa) (hi:i<aa.length):CR prog 104 #[.slice a r c,.int .i64 (i:Int),x.val,.bool (decide ((k:Int)=0))] w (.bool (fq aa i aa[i].ring k x)):=by
 have hle:=hr.le;have hlen:=hr.len;obtain⟨q,u,y,g,_,⟨q1,z,D,rfl,_⟩,h,_⟩:=hr.at (ak hi);have e:(fq aa i aa[i].ring k x)=(gw aa i x.cell x.n && (if x.pick then !aa[i].ring && decide (k≠0) && gw aa i x.cell x.DK else decide (x.DK=0))):=rfl;rw [e]
 clear e
 have b:decide ((k:Int)=0)=decide (k=0):=by simp
 refine enter func104 rfl ntmps104 rfl<|?_;have aO:=St.s0 w;refine(dq) aO fun E w1 F G st1=>?_;refine db ?_;refine WC.dU (t:=30) (v:=.bool ((x.pick && (aa[i].ring || decide (k=0))) || !gw aa i x.cell x.n)) st1 ?_<|?_
 ·
  refine(aZ) dG st1.b0<|(dc) (fun g11=>?_) (fun g11=>?_)
  ·
   refine bK ?_;refine WP .r (PV.dI jh g rfl rfl (by omega))<|nx ?_;refine WP .r (PV.ld1 (j:=0) dG (aW h (St.cg st1) (by simp)) rfl rfl)<|(dc) (fun g17=>?_) (fun g17=>?_)
   ·
    refine aX ?_;exact(cw) (by first | (simp only [g11,g17,← b];rfl) | (simp [g11,g17,b];done) | (simp at g11 g17;simp [g11,g17,b];done) | (simp at g11 g17;simp_all;done)) (st1)
   refine(dc) (fun g21=>?_) (fun g21=>?_)
   ·
    exact(cw) (by first | (simp only [g11,g17,g21,← b];rfl) | (simp [g11,g17,g21,b];done) | (simp at g11 g17 g21;simp [g11,g17,g21,b];done) | (simp at g11 g17 g21;simp_all;done)) (st1)
   refine(aZ) dG st1.b0<|(aZ) aN st1.b0<|(eS) (pz (cell:=x.cell) (n:=x.n) (hr.ext (St.cg st1)) hi) st1 fun w2 s2 st2=>?_;exact(cw) (by first | (simp only [g11,g17,g21,← b];rfl) | (simp [g11,g17,g21,b];done) | (simp at g11 g17 g21;simp [g11,g17,g21,b];done) | (simp at g11 g17 g21;simp_all;done)) (st2)
  refine aX ?_;refine(aZ) dG st1.b0<|(aZ) aN st1.b0<|(eS) (pz (cell:=x.cell) (n:=x.n) (hr.ext (St.cg st1)) hi) st1 fun w2 s2 st2=>?_;exact(cw) (by first | (simp only [g11,← b];rfl) | (simp [g11,b];done) | (simp at g11;simp [g11,b];done) | (simp at g11;simp_all;done)) (st2)
 intro w2 st2;refine(aR) (fun m=>?_) fun m=>?_
 ·
  refine(bs) ?_;exact⟨by cases hm:gw aa i x.cell x.n <;> cases H:x.pick <;> cases o:aa[i].ring <;> by_cases h0:k=0 <;> simp_all,(St.cg st2)⟩
 refine(aZ) dG st2.b0<|(aR) (fun d=>?_) fun d=>?_
 ·
  simp at d
  refine(aZ) aN st2.b0<|(bs) ?_;exact⟨by cases hm:gw aa i x.cell x.n <;> simp_all,(St.cg st2)⟩
 simp at d
 refine(aZ) dG st2.b0<|(aZ) aN st2.b0<|(eS) (pz (cell:=x.cell) (n:=x.DK) (hr.ext (St.cg st2)) hi) st2 fun w3 I p=>?_;refine(bs) ?_;exact⟨by cases hm:gw aa i x.cell x.n <;> cases o:aa[i].ring <;> by_cases h0:k=0 <;> simp_all,(St.cg p)⟩
theorem vF(hr:fK A w a r c aa) (N:aq aa):CR prog 62 #[.slice a r c] w (.bool true):=by
 have hle:=hr.le;have hlen:=hr.len;have Ik:=N.1;refine enter func62 rfl ntmps62 rfl<|?_;have aO:=St.s0 w;refine aX ?_;refine(aR) (fun g12=>?_) fun g12=>?_
 ·
  exact dm g12
 ·
  refine jT ?_;refine WC.bd (σ:=Nat) (dj:=fun i=>[(0,.slice a r c),(13,.slice a r c),(14,.int .i64 (r:Int)),(15,.int .i64 (i:Int))]) (F:=fun i=>[]) (I:=fun i=>(i≤r)∧True) (μ:=fun i=>r - i) (0) (aO) Sub.t (⟨by omega,trivial⟩)<|?_;rintro i w1 st1 ⟨hi,_⟩;simp only [CA,NA] at st1 hi ⊢;refine(aR) (fun g16=>?_) fun g16=>?_
  ·
   simp at g16
   have E:i<aa.length:=by omega
   obtain⟨afs,O,q⟩:=N.2 i _ (ak E)
   unfold gZ at q
   obtain⟨b_x,o_x,r_x,Q,_,⟨q1,j,P,rfl,G⟩,R,_⟩:=hr.at (ak E);have yc:=G.len;refine ed ?_;refine WP .r (PV.dI jh Q rfl rfl (by omega))<|(aY) sM (aW R (St.cg st1) (by simp))<|(eN) st1 fun b4 w2 EY Iy st2=>?_;refine(cF) EL st2 fun w3 jO jZ b=>?_;refine aX ?_;refine(aZ) dG b.b0<|(aR) (fun g21=>?_) fun g21=>?_
   ·
    rw [if_pos g21] at q
    simp at q
    refine gL ?_;refine WC.dU (t:=48) (v:=.bool false) b ?_<|?_
    ·
     refine(aZ) kn b.b0<|(dc) (fun d=>?_) (fun d=>?_)
     ·
      refine aX ?_;exact(cw) (tG d) (b)
     refine(aZ) aN b.b0<|(dc) (fun e=>?_) (fun e=>?_)
     ·
      refine aX ?_;exact(cw) (tG (aj d e)) (b)
     refine(aZ) aN b.b0<|(dc) (fun g=>?_) (fun g=>?_)
     ·
      exact(cw) (tG (aj d<|aj e g)) (b)
     refine(aZ) aN b.b0<|(dc) (fun m=>?_) (fun m=>?_)
     ·
      exact(cw) (tG (aj d<|aj e<|aj g m)) (b)
     refine(aZ) aN b.b0<|?_;exact(cw) (tG (aj d<|aj e<|aj g m)) (b)
    intro w4 y;refine(aR) (fun z=>?_) fun z=>?_
    ·
     exact dm z
    refine(aZ) kn y.b0<|db ?_;refine WC.bd (σ:=Nat) (dj:=fun k=>[(0,.slice a r c),(3,.int .i64 (i:Int)),(13,.slice a r c),(14,.int .i64 (r:Int)),(15,.int .i64 (i:Int)),(50,.slice q1 j P),(51,.int .i64 (j:Int)),(52,.int .i64 (k:Int))]) (F:=fun k=>[]) (I:=fun k=>(k≤j)∧True) (μ:=fun k=>j - k) (0) (y) Sub.t (⟨by omega,trivial⟩)<|?_;rintro k w5 h ⟨hk,_⟩;simp only [CA,NA] at h hk ⊢;refine(aR) (fun o=>?_) fun o=>?_
    ·
     simp at o
     have D:k<aa[i].asks.length:=by omega
     obtain⟨S,T,U,H,_,rfl,J,_⟩:=(G.ext (St.cg h)).at (ak D);refine ed ?_;refine WP .r (PV.dI wC H rfl rfl (by omega))<|(aY) kW J<|(eN) h fun V w6 W X K=>?_;refine(cF) u2 K fun w7 qV mi p=>?_;refine(aY) kW p.b0<|bK ?_;refine WL.c1 (u:=.bool true) (qI (k:=k) (x:=aa[i].asks[k]) (hr.ext (St.cg p)) E) (by rw [show fq aa i aa[i].ring k aa[i].asks[k]=true from O k _ (ak D)]) p fun Y s8 L=>?_;refine bY ?_;refine WC.eA rfl<|ed ?_;refine ef (k+1) ⟨L.drop,⟨by omega,trivial⟩⟩
    simp at o
    refine ju ?_;refine ef (i+1) ⟨h.drop,⟨by omega,trivial⟩⟩
   rw [if_neg (by simp [g21])] at q
   simp at q
   refine cj ?_;refine WC.dU (t:=48) (v:=.bool false) b ?_<|?_
   ·
    refine(aZ) kn b.b0<|(dc) (fun d=>?_) (fun d=>?_)
    ·
     refine aX ?_;exact(cw) (tG d) (b)
    refine(aZ) aN b.b0<|(dc) (fun e=>?_) (fun e=>?_)
    ·
     refine aX ?_;exact(cw) (tG (aj d e)) (b)
    refine(aZ) aN b.b0<|(dc) (fun g=>?_) (fun g=>?_)
    ·
     exact(cw) (tG (aj d<|aj e g)) (b)
    refine(aZ) aN b.b0<|(dc) (fun m=>?_) (fun m=>?_)
    ·
     exact(cw) (tG (aj d<|aj e<|aj g m)) (b)
    refine(aZ) aN b.b0<|?_;exact(cw) (tG (aj d<|aj e<|aj g m)) (b)
   intro w4 y;refine(aR) (fun z=>?_) fun z=>?_
   ·
    exact dm z
   refine(aZ) kn y.b0<|db ?_;refine WC.bd (σ:=Nat) (dj:=fun k=>[(0,.slice a r c),(3,.int .i64 (i:Int)),(13,.slice a r c),(14,.int .i64 (r:Int)),(15,.int .i64 (i:Int)),(50,.slice q1 j P),(51,.int .i64 (j:Int)),(52,.int .i64 (k:Int))]) (F:=fun k=>[]) (I:=fun k=>(k≤j)∧True) (μ:=fun k=>j - k) (0) (y) Sub.t (⟨by omega,trivial⟩)<|?_;rintro k w5 h ⟨hk,_⟩;simp only [CA,NA] at h hk ⊢;refine(aR) (fun o=>?_) fun o=>?_
   ·
    simp at o
    have D:k<aa[i].asks.length:=by omega
    obtain⟨S,T,U,H,_,rfl,J,_⟩:=(G.ext (St.cg h)).at (ak D);refine ed ?_;refine WP .r (PV.dI wC H rfl rfl (by omega))<|(aY) kW J<|(eN) h fun V w6 W X K=>?_;refine(cF) u2 K fun w7 zy tK p=>?_;refine(aY) kW p.b0<|bK ?_;refine WL.c1 (u:=.bool true) (qI (k:=k) (x:=aa[i].asks[k]) (hr.ext (St.cg p)) E) (by rw [show fq aa i aa[i].ring k aa[i].asks[k]=true from O k _ (ak D)]) p fun Y s8 L=>?_;refine bY ?_;refine WC.eA rfl<|ed ?_;refine ef (k+1) ⟨L.drop,⟨by omega,trivial⟩⟩
   simp at o
   refine ju ?_;refine ef (i+1) ⟨h.drop,⟨by omega,trivial⟩⟩
  simp at g16
  refine(bs) ?_;exact⟨rfl,(St.cg st1)⟩
 -- k7 eR C63
theorem zM(ht:lq prog A w) (hn:n≤65535):CR prog 206 #[.string (itoa (n:Int))] w (.int .i64 (n:Int)):=by
 refine enter func206 rfl ntmps206 rfl<|?_;have aO:=St.s0 w;refine(eS) (Ca (n:=n) (by omega) w) aO fun w1 s1 st1=>?_;refine kI ?_;refine WC.dU (t:=25) (v:=.bool false) st1 ?_<|?_
 ·
  refine bK ?_;refine WP .r (PV.QB zl rfl)<|nx ?_;refine WL.cI (t:=12) rfl (fun g12=>?_) (fun g12=>?_)
  ·
   refine aX ?_;exact(cw) (tG g12) (st1)
  refine cj ?_;refine WL.cI (t:=16) rfl (fun g16=>?_) (fun g16=>?_)
  ·
   exact(cw) (tG (aj g12 g16)) (st1)
  refine cj ?_;refine WL.cI (t:=20) rfl (fun g20=>?_) (fun g20=>?_)
  ·
   exact(cw) (tG (aj g12<|aj g16 g20)) (st1)
  refine(eS) (l7 (n:=(n:Int)) (ht.ext (St.cg st1)) (by omega) (by omega)) st1 fun w2 s2 st2=>?_;exact(cw) (tG (aj g12<|aj g16 g20)) (st2)
 intro w2 st2;refine(aR) (fun b=>?_) fun b=>?_
 ·
  exact dm b
 refine(bs) ?_;exact⟨rfl,(St.cg st2)⟩
theorem zN(ht:lq prog A w) (g:s.size≤1000) (b:∀n:Nat,n≤65535→s≠itoa (n:Int)):CR prog 206 #[.string s] w (.int .i64 0):=by
 refine enter func206 rfl ntmps206 rfl<|?_;have aO:=St.s0 w;refine(bX) Pa (KN (s:=s) (ht.ext (St.cg aO)) g) ?_;rintro _ w1 ⟨v,ok,ev,rfl,j,h,s1⟩;have st1:=aO.step s1;refine kI ?_;refine WC.dU (t:=25) (v:=.bool true) st1 ?_<|?_
 ·
  refine bK ?_;refine WP .r (PV.Vt zl rfl h)<|(dc) (fun g12=>?_) (fun g12=>?_)
  ·
   refine aX ?_;exact(cw) (by first | (simp [g12];done) | (simp at g12 ⊢;intro e;exact b v.toNat (by omega) (by rw [show((v.toNat:Nat):Int)=v by omega];exact e.symm))) (st1)
  refine(dc) (fun g16=>?_) (fun g16=>?_)
  ·
   exact(cw) (by first | (simp [g12,g16];done) | (simp at g12 g16 ⊢;intro e;exact b v.toNat (by omega) (by rw [show((v.toNat:Nat):Int)=v by omega];exact e.symm))) (st1)
  refine(dc) (fun g20=>?_) (fun g20=>?_)
  ·
   exact(cw) (by first | (simp [g12,g16,g20];done) | (simp at g12 g16 g20 ⊢;intro e;exact b v.toNat (by omega) (by rw [show((v.toNat:Nat):Int)=v by omega];exact e.symm))) (st1)
  refine(eS) (l7 (n:=v) (ht.ext (St.cg st1)) (by omega) (by omega)) st1 fun w2 s2 st2=>?_;exact(cw) (by first | (simp [g12,g16,g20];done) | (simp at g12 g16 g20 ⊢;intro e;exact b v.toNat (by omega) (by rw [show((v.toNat:Nat):Int)=v by omega];exact e.symm))) (st2)
 intro w2 st2;refine(aR) (fun d=>?_) fun d=>?_
 ·
  refine(bs) ?_;exact⟨rfl,(St.cg st2)⟩
 exact dm d
theorem tf(ht:lq prog A w) (b:s.size≤1000):CR prog 206 #[.string s] w (.int .i64 (cB s:Int)):=by
 by_cases h:∃n:Nat,n≤65535∧s=itoa (n:Int)
 ·
  obtain⟨n,hn,rfl⟩:=h;rw [fk hn];exact zM ht hn
 have h0:∀n:Nat,n≤65535→s≠itoa (n:Int):=fun n hn e=>h ⟨n,hn,e⟩;rw [Ha h0];exact zN ht b h0
theorem wL{kd:Int}{l:List Nat}(hl:Ints A w a r c (l.map fun x:Nat=>(x:Int))) (g:∀x∈l,x≤65535) (hr:r≤1000):CR prog 208 #[.int .i64 kd,.slice a r c] w (.int .i64 (dn kd 0 l:Int)):=by
 have hle:=SR.le hl;have hlen:=SR.len hl;rw [List.length_map] at hlen;have m:∀i,∀x∈l.take i,x≤65535:=fun i x p=>g x (List.mem_of_mem_take p);refine enter func208 rfl ntmps208 rfl<|?_;have aO:=St.s0 w;refine aX ?_;refine kI ?_;refine WC.bd (σ:=Nat) (dj:=fun i=>[(0,.int .i64 kd),(5,.int .i64 (pQ 0 (l.take i):Int)),(6,.int .i64 (ss 0 (l.take i):Int)),(7,.int .i64 (fe 0 (l.take i):Int)),(10,.slice a r c),(11,.int .i64 (r:Int)),(12,.int .i64 (i:Int))]) (F:=fun i=>[]) (I:=fun i=>(i≤r)∧True) (μ:=fun i=>r - i) (0) (aO) Sub.t (⟨by omega,trivial⟩)<|?_;rintro i w1 st1 ⟨hi,_⟩;simp only [CA,NA] at st1 hi ⊢;refine(aR) (fun g13=>?_) fun g13=>?_
 ·
  simp at g13
  have h:i<l.length:=by omega
  have q:i<(l.map fun x:Nat=>(x:Int)).length:=by simpa using h
  have u:=tI (c:=0) (m i);have v:=mV (c:=0) (by omega) (m i);have y:=lD (c:=0) (by omega) (m i);have E:=g l[i] (List.getElem_mem h)
  have G:(l.take i).length≤1000:=by rw [List.length_take];omega
  have e1:=xt (c:=0) h;have e2:=ue (c:=0) h;have e3:=uf (c:=0) h;refine db ?_;obtain⟨H,J,K,z,_,rfl,o,_⟩:=(SR.ext hl (St.cg st1)).at (ak q);rw [List.getElem_map] at o;refine nx ?_;refine WP .r (PV.dI EJ z rfl rfl (by omega))<|WP .r (PV.mf aN o rfl rfl)<|kI ?_;refine WP .r (PV.IZ rfl rfl)<|bK ?_;refine WP .r (PV.orN rfl rfl (by omega) (by omega))<|ju ?_;refine ef (i+1) ⟨st1,⟨by omega,trivial⟩⟩
 simp at g13
 have D:l.take i=l:=List.take_of_length_le (by omega);rw [D];have u:=tI (c:=0) g;have v:=mV (c:=0) (by omega) g;have y:=lD (c:=0) (by omega) g
 have L:l.length≤1000:=by omega
 refine aX ?_;refine(aR) (fun b=>?_) fun b=>?_
 ·
  simp at b
  refine(bs) ?_;exact⟨by unfold dn;rw [if_pos b,Int.tmod_eq_emod_of_nonneg (by omega)];rfl,(St.cg st1)⟩
 simp at b
 refine(aR) (fun d=>?_) fun d=>?_
 ·
  simp at d
  refine bY ?_;refine WP .r (PV.quo rfl rfl (by omega) (by rw [Int.tdiv_eq_ediv_of_nonneg (by omega)];omega) (by rw [Int.tdiv_eq_ediv_of_nonneg (by omega)];omega))<|(bs) ?_;exact⟨by unfold dn;rw [if_neg b,if_pos d,Int.tdiv_eq_ediv_of_nonneg (by omega),Int.tmod_eq_emod_of_nonneg (by omega)];rfl,(St.cg st1)⟩
 simp at d
 refine(aR) (fun e=>?_) fun e=>?_
 ·
  simp at e
  refine(bs) ?_;exact⟨by unfold dn;rw [if_neg b,if_neg d,if_pos e],(St.cg st1)⟩
 simp at e
 refine(aR) (fun j=>?_) fun j=>?_
 ·
  simp at j
  refine(bs) ?_;exact⟨by unfold dn;rw [if_neg b,if_neg d,if_neg e,if_pos j,Int.tmod_eq_emod_of_nonneg (by omega)];rfl,(St.cg st1)⟩
 simp at j
 refine(bs) ?_;exact⟨by unfold dn;rw [if_neg b,if_neg d,if_neg e,if_neg j],(St.cg st1)⟩
set_option maxHeartbeats 1600000 in
theorem CC(ht:lq prog A w) (X:aq aa) (hi:i<aa.length) (hr:fK B w a r c aa) (hl:Strs C w a2 r2 e2 ae) (hsz:∀s∈ae,s.size≤1000):CR prog 155 #[.slice a r c,(aM aa (i:Int)).val,.slice a2 r2 e2] w ((cq aa (aM aa (i:Int)) ae).val):=by
 have Ik:=X.len
 have jl:i≤99:=by omega
 have hle:=hr.le;have hlen:=hr.len;have vg:=hl.len;have vl:=hl.le
 obtain⟨kd,hkd,hk⟩:∃kd:Int,(kd=31∨kd=32)∧aM aa (i:Int)=⟨kd,itoa i⟩:=by
  unfold aM
  rw [if_neg (by omega)]
  cases h:aF aa i
  ·
   exact⟨31,.inl rfl,by simp [h]⟩
  exact⟨32,.inr rfl,by simp [h]⟩
 have O:=cz hi jl;obtain⟨afs,aft,anD⟩:=X.2 i _ (ak hi);have hcb:=aq.hb X _ (List.getElem_mem hi);obtain⟨g,XX⟩:∃g:Nat,aa[i].c=g:=⟨aa[i].c.toNat,by omega⟩;obtain⟨b_x,o_x,r_x,CD,_,⟨q1,b,q3,rfl,Cd⟩,YF,_⟩:=hr.at (ak hi);rw [XX] at YF;have yc:=Cd.len;rw [hk] at O ⊢;refine enter func155 rfl ntmps155 rfl<|?_;have aO:=St.s0 w;refine(dq) aO fun b4 w1 EY Iy st1=>?_;refine(eN) st1 fun b6 w2 Dx Is st2=>?_;refine(aY) ao st2.b1<|(eS) (lj (k:=(⟨kd,itoa i⟩:Key)) ⟨by simp only [];omega,by simp only [];omega⟩ rfl jl) st2 fun w3 s3 Y=>?_;refine db ?_;refine WC.dU (t:=30) (v:=.bool false) Y ?_<|?_
 ·
  have UH:=Y.bL;refine WC.dB (m:=12) (E:=cA [(10,fun v _=>v=(aM aa (i:Int)).val)]) Y (bj (⟨fun _ _ _ _ _ _ _ h=>h,trivial⟩)) mixed (by kernel_rfl)<|bY ?_;refine DW.cI (t:=19) rfl (fun g19=>?_) (fun g19=>?_)
  ·
   refine(cP) ?_;rintro w4 ⟨oj,D⟩ _;exact(cw) (by first | rfl | (simp [g19,hk];done) | (simp [g19,hk];omega) | (simp only [g19];done) | (simp only [g19];rfl) | (simp [g19];done) | (simp;done) | (simp at g19 ⊢ <;> omega) | (simp <;> omega) | (simp [g19] <;> omega) | (simp at g19 <;> omega)) (D)
  refine(il) aN St.g1<|bY ?_;refine DW.cI (t:=24) rfl (fun g24=>?_) (fun g24=>?_)
  ·
   refine(cP) ?_;rintro w4 ⟨oj,D⟩ _;exact(cw) (by first | rfl | (simp [g19,g24,hk];done) | (simp [g19,g24,hk];omega) | (simp only [g19,g24];done) | (simp only [g19,g24];rfl) | (simp [g19,g24];done) | (simp;done) | (simp at g19 g24 ⊢ <;> omega) | (simp <;> omega) | (simp [g19,g24] <;> omega) | (simp at g19 g24 <;> omega)) (D)
  refine bK ?_;refine DW.c0 (fun wx hC hF=>n9 (n:=(i:Int)) (hr.ext (St.cg hC.2)))<|(gI) ao St.g1<|(cP)<|?_;rintro w4 ⟨oj,D⟩ ⟨_,_⟩;refine WP .r (PV.Lk fH (p:=aM aa (i:Int)) (q:=(⟨kd,itoa i⟩:Key)) rfl rfl)<|?_;exact(cw) (by first | rfl | (simp [g19,g24,hk];done) | (simp [g19,g24,hk];omega) | (simp only [g19,g24];done) | (simp only [g19,g24];rfl) | (simp [g19,g24];done) | (simp;done) | (simp at g19 g24 ⊢ <;> omega) | (simp <;> omega) | (simp [g19,g24] <;> omega) | (simp at g19 g24 <;> omega)) (D)
 intro w4 D;refine(aR) (fun UF=>?_) fun UF=>?_
 ·
  exact dm UF
 refine fO ?_;refine WP .r (PV.DJ jh (i:=i) CD rfl rfl (by omega) (by omega))<|(aY) sM (aW YF (St.cg D) (by simp))<|(eN) D fun b8 w5 Lq XZ iY=>?_;refine(cF) EL iY fun w6 jO jZ K=>?_;refine aX ?_;refine(aZ) kn K.b0<|(aR) (fun HW=>?_) fun HW=>?_
 ·
  simp at HW
  have hn:r2<aa[i].asks.length:=by omega
  have z:=i6 (ae:=ae) O hi (by rw [O];exact hk) (show ae.length<aa[i].asks.length by omega);simp only [← vg] at z
  have S8:r2=0→aa[i].asks[r2].pick=false:=fun h0=>by
   have:=aft r2 _ (ak hn)
   cases hp:aa[i].asks[r2].pick
   ·
    rfl
   unfold fq at this
   rw [hp] at this
   simp [h0] at this
  refine nx ?_;obtain⟨b_y,o_y,r_y,afv,_,rfl,afw,_⟩:=(Cd.ext (St.cg K)).at (ak hn);refine(aZ) kn K.b0<|nx ?_;refine WP .r (PV.dI wC afv rfl rfl (by omega))<|(aY) kW afw<|(eN) K fun PC w7 Fo Fp P=>?_;refine(cF) u2 P fun w8 qV mi o=>?_;refine(aZ) aN o.b0<|db ?_;refine WC.dU (t:=65) (v:=.bool (fo aa[i].asks[r2] ae)) o ?_<|?_
  ·
   refine(aZ) dG o.b0<|nx ?_;refine WL.cI (t:=52) rfl (fun U=>?_) (fun U=>?_)
   ·
    refine cj ?_;refine WL.cI (t:=56) rfl (fun H6=>?_) (fun H6=>?_)
    ·
     simp at H6
     obtain⟨b_z,o_z,r_z,afx,_,rfl,afy,_⟩:=(hl.ext (St.cg o)).at (ak (show r2 - 1<ae.length by omega))
     have AG:fo aa[i].asks[r2] ae=decide ((cB ae[r2 - 1]:Int).tmod 2=0):=by
      unfold fo
      simp only [U,← vg,Bool.true_and];rw [decide_eq_false (by omega),Bool.false_or,getElem!_pos ae (r2 - 1) (by omega),Int.tmod_eq_emod_of_nonneg (by omega)]
      congr 1
      exact propext ⟨fun h=>by omega,fun h=>by omega⟩
     refine bY ?_;refine WP .r (PV.DJ oC (i:=r2 - 1) afx rfl rfl (by omega) (by omega))<|WP .r (PV.mf fh afy rfl rfl)<|(eS) (tf (s:=ae[r2 - 1]) (ht.ext (St.cg o)) (hsz _ (List.getElem_mem _))) o fun w9 s9 d=>?_;exact(cw) (by rw [AG]) (d)
    exact absurd (S8 (by simp at H6;omega)) (by simp [U])
   have AG:fo aa[i].asks[r2] ae=false:=by unfold fo;rw [U];rfl
   refine aX ?_;exact(cw) (by rw [AG]) (o)
  intro w9 d;refine(aR) (fun Ku=>?_) fun Ku=>?_
  ·
   have Q:oU aa[i].asks[r2] ae=aa[i].asks[r2].DK:=by unfold oU;rw [if_pos Ku]
   refine(aZ) aN d.b0<|(aZ) dG d.b0<|(aR) (fun J=>?_) fun J=>?_
   ·
    rw [Q,if_pos J] at z;refine(eS) (te) d fun S V y=>?_;refine WP .r (PV.bz (us:=[.bool false,.string ⟨#[]⟩,.int .i64 (cD _).kind,.string (cD _).text]) mw rfl rfl rfl)<|(cF) gy y.p2 fun T zy tK e=>?_;refine(kR) iL e.b0<|?_;rw [z];exact⟨rfl,(St.cg e)⟩
   rw [Q,if_neg (by simp [J])] at z;refine(eS) (n9 (hr.ext (St.cg d))) d fun S V y=>?_;refine WP .r (PV.bz (us:=[.bool false,.string ⟨#[]⟩,.int .i64 (aM aa _).kind,.string (aM aa _).text]) mw rfl rfl rfl)<|(cF) gy y.p2 fun T Lv Lx e=>?_;refine(kR) iL e.b0<|?_;rw [z];exact⟨rfl,(St.cg e)⟩
  have Q:oU aa[i].asks[r2] ae=aa[i].asks[r2].n:=by unfold oU;rw [if_neg (by simp [Ku])]
  refine(aZ) dG d.b0<|(aR) (fun J=>?_) fun J=>?_
  ·
   rw [Q,if_pos J] at z;refine(eS) (te) d fun S V y=>?_;refine WP .r (PV.bz (us:=[.bool false,.string ⟨#[]⟩,.int .i64 (cD _).kind,.string (cD _).text]) mw rfl rfl rfl)<|(cF) gy y.p2 fun T LH DX e=>?_;refine(kR) iL e.b0<|?_;rw [z];exact⟨rfl,(St.cg e)⟩
  rw [Q,if_neg (by simp [J])] at z;refine(eS) (n9 (hr.ext (St.cg d))) d fun S V y=>?_;refine WP .r (PV.bz (us:=[.bool false,.string ⟨#[]⟩,.int .i64 (aM aa _).kind,.string (aM aa _).text]) mw rfl rfl rfl)<|(cF) gy y.p2 fun T Pw Px e=>?_;refine(kR) iL e.b0<|?_;rw [z];exact⟨rfl,(St.cg e)⟩
 simp at HW
 have z:=j5 (ae:=ae) O hi (by rw [O];exact hk) (show aa[i].asks.length≤ae.length by omega);rw [← yc,XX,Int.toNat_natCast] at z
 have NU:∀x∈(ae.take b).map cB,x≤65535:=fun x G=>by obtain⟨s,_,rfl⟩:=List.mem_map.1 G;exact kG s
 have Qq:=nV (kind:=aa[i].final) (c:=g) (l:=(ae.take b).map cB) (by omega) NU
 have hll:((ae.take b).map cB).length=b:=by rw [List.length_map,List.length_take];omega
 refine(aZ) aN K.b0<|?_;refine WL.go rfl (OX.aP (us:=[.int .i64 (g:Int)]) J2 rfl rfl rfl rfl fun b79 w7 YG afz=>?_);have P:=St.pU (R:=RR.int) (E:=3) (k:=1) (a:=some ⟨b79,0,none⟩) (n:=1) (c:=1) (xs:=[(g:Int)]) K YG.ext (OR.dd afz (Nat.zero_le _) rfl (by simp [Value.oneCell']) rfl) (fun x G=>by simp [aI] at G;subst G;exact YG.ge);refine(aZ) kn P.b1<|nx ?_;refine WP .r (PV.mS oC (hl.ext (St.cg P)) rfl rfl (by omega))<|db ?_;refine WC.bd (σ:=Nat × (Option Addr) × Nat × Nat) (dj:=fun(j,L,H,N)=>[(6,.pointer (some ⟨b6,0,none⟩)),(8,.pointer (some ⟨b8,0,none⟩)),(12,.slice L H N),(84,.slice a2 b e2),(85,.int .i64 (b:Int)),(86,.int .i64 (j:Int))]) (F:=fun(j,L,H,N)=>[As.os RR.int 3 1 L H N ((((g::((ae.take b).map cB).take j)).map fun x:Nat=>(x:Int)))]) (I:=fun(j,L,H,N)=>(j≤b)∧True) (μ:=fun(j,L,H,N)=>b - j) (0,(some ⟨b79,0,none⟩),1,1) (P) Sub.t (⟨by omega,trivial⟩)<|?_;rintro⟨j,L,H,N⟩ w8 o ⟨hj,_⟩;simp only [CA,NA] at o hj ⊢;have qU:=((As.gs o.g0)).len
 have Fh:H≤1+j:=by have h0:=qU;simp at h0;omega
 refine(aR) (fun Fw=>?_) fun Fw=>?_
 ·
  simp at Fw
  have AK:j<ae.length:=by omega
  obtain⟨b_u,o_u,r_u,afA,_,rfl,afB,_⟩:=(hl.ext (St.cg o)).at (ak AK);refine fO ?_;refine WP .r (PV.dI oC afA rfl rfl (by omega))<|WP .r (PV.mf fh afB rfl rfl)<|(eS) (tf (s:=ae[j]) (ht.ext (St.cg o)) (hsz _ (List.getElem_mem _))) o fun w9 s9 d=>?_;refine WL.go rfl (OX.aP (us:=[.int .i64 (cB ae[j]:Int)]) J2 rfl rfl rfl rfl fun YH S S9 Ta=>?_);have y:=d.de S9 Ta;refine WL.ap rfl rfl y.p1 (SR.dd (A:=fun _=>True) (x:=((cB ae[j]:Nat):Int)) (As.gb y.g0) trivial rfl (by simp [Value.oneCell']) rfl) fun a94 afC T anG anH e=>?_;refine bK ?_;have W:=e.Vd (show(((((g::((ae.take b).map cB).take j)).map fun x:Nat=>(x:Int)))++[((cB ae[j]:Nat):Int)])=(((g::((ae.take b).map cB).take (j+1))).map fun x:Nat=>(x:Int)) by rw [List.take_succ_eq_append_getElem (by omega),← List.cons_append,List.map_append,List.getElem_map,List.getElem_take];rfl);refine fO ?_;refine ef (j+1,a94,(H+1),afC) ⟨W.p1.drop,⟨by omega,trivial⟩⟩
 simp at Fw
 have hje:((ae.take b).map cB).take j=(ae.take b).map cB:=List.take_of_length_le (by omega);have d:=o.Vd (show(((g::((ae.take b).map cB).take j)).map fun x:Nat=>(x:Int))=(((g::(ae.take b).map cB)).map fun x:Nat=>(x:Int)) by rw [hje]);refine(aZ) aN d.b1<|nx ?_;refine WL.c1 (u:=.int .i64 ((dn aa[i].final g ((ae.take b).map cB)):Int)) (wL (kd:=aa[i].final) (l:=g::(ae.take b).map cB) (Ow.rd (As.gs d.g0) (by simp;omega)) (fun x G=>by rcases List.mem_cons.1 G with rfl | G;omega;exact NU x G) (by omega)) (by rw [Bu]) d fun w9 s9 y=>?_;refine(eS) (l7 (n:=((dn aa[i].final g ((ae.take b).map cB)):Int)) (ht.ext (St.cg y)) (by omega) (by omega)) y fun S V e=>?_;refine WP .r (PV.bz (us:=[.bool true,.string (itoa ((dn aa[i].final g ((ae.take b).map cB)):Int)),.int .i64 0,.string ⟨#[]⟩]) mw rfl rfl rfl)<|(cF) gy e.p2 fun T SH SI W=>?_;refine(kR) iL W.b0<|?_;rw [z];exact⟨rfl,(St.cg W)⟩
theorem lk(ht:lq prog A w) (d:aq aa) (hi:i<aa.length) (hr:fK B w a r c aa) (hl:Strs C w a2 r2 e2 ae) (hsz:∀s∈ae,s.size≤1000):CR prog 119 #[.slice a r c,(aM aa (i:Int)).val,.slice a2 r2 e2] w ((cq aa (aM aa (i:Int)) ae).val):=by
 have j:=d.len;have g:=eF hi (by omega);refine enter func119 rfl ntmps119 rfl<|?_;have aO:=St.s0 w;refine(dq) aO fun b4 w1 m o st1=>?_;refine(eN) st1 fun p w2 q t st2=>?_;refine(aY) ao st2.b1<|?_;refine WL.c1 (u:=.bool true) (nJ (k:=aM aa (i:Int))) (by rw [show(decide ((aM aa (i:Int)).kind=31) || decide ((aM aa (i:Int)).kind=32))=true by(rw [g];split <;> simp)]) st2 fun w3 v b=>?_;refine bY ?_;refine WC.oo rfl<|(aY) ao b.b1<|(eS) (CC (ht.ext (St.cg b)) d hi (hr.ext (St.cg b)) (hl.ext (St.cg b)) hsz) b fun w4 y h=>?_;refine(cF) gy h fun w5 z D e=>?_;refine(kR) iL e.b0<|?_;exact⟨rfl,(St.cg e)⟩
theorem qJ(hk:k.kind=32):CR prog 281 #[k.val] w (.string ⟨#[48]⟩):=by
 refine enter func281 rfl ntmps281 rfl<|?_;have aO:=St.s0 w;refine(dq) aO fun b1 w1 b d st1=>?_;refine(aZ) aN st1.b0<|(aR) (fun g3=>?_) fun g3=>?_
 ·
  skip
  refine(bs) ?_;exact⟨rfl,(St.cg st1)⟩
 exact absurd g3 (by simp [hk])
theorem wM(hi:i<aa.length) (jl:i≤99) (hr:fK B w a r c aa):CR prog 66 #[.slice a r c,(aM aa (i:Int)).val] w (.bool true):=by
 have g:=eF hi jl
 have j:(aM aa (i:Int)).text=itoa i:=by unfold aM;rw [if_neg (by omega)]
 have o:30≤(aM aa (i:Int)).kind∧(aM aa (i:Int)).kind≤32:=by rw [g];split <;> omega
 refine enter func66 rfl ntmps66 rfl<|?_;have aO:=St.s0 w;refine(dq) aO fun b3 w1 t y st1=>?_;refine cj ?_;have z:=st1.bL;refine WC.dB (m:=12) (E:=cA [(1,fun v _=>v=.bool true),(4,fun v _=>v=.bool true),(9,fun v _=>v=.int .i64 (i:Int)),(10,fun v _=>v=(aM aa (i:Int)).val)]) st1 (bj (⟨fun _ _ _ _ _ _ _ h=>h,⟨fun _ _ _ _ _ _ _ h=>h,⟨fun _ _ _ _ _ _ _ h=>h,⟨fun _ _ _ _ _ _ _ h=>h,trivial⟩⟩⟩⟩)) mixed (by kernel_rfl)<|(gI) ao St.g0<|?_;refine DW.c0 (fun d b e=>hM (k:=aM aa (i:Int)) o j jl)<|(gI) ao St.g0<|?_;refine DW.c1 (u:=.bool true) (fun d b e=>nJ (k:=aM aa (i:Int))) (by rw [show(decide ((aM aa (i:Int)).kind=31) || decide ((aM aa (i:Int)).kind=32))=true by(rw [g];split <;> simp)])<|(gI) ao St.g0<|?_;refine DW.c0 (fun d b e=>lj (k:=aM aa (i:Int)) o j jl)<|?_;refine DW.c0 (fun d b e=>n9 (n:=(i:Int)) (hr.ext (St.cg b.2)))<|(gI) ao St.g0<|(cP)<|?_;rintro w2 ⟨D,st2⟩ ⟨_,⟨_,⟨_,⟨_,_⟩⟩⟩⟩;refine WP .r (PV.DL fH (p:=aM aa (i:Int)) (q:=aM aa (i:Int)) rfl rfl)<|(bs) ?_;exact⟨by simp,(St.cg st2)⟩
set_option maxHeartbeats 400000
theorem jo{xs:List Key}(m:St w M Z w []) (hl:Rd RR.key 2 Z w a n c xs) (q:xs.length≤1000000):Calls prog 78 #[.slice a n c] w fun e w'=>∃d g h,e=.returned (.slice d g h)∧St w M Z w' [As.os RR.key 41 2 d g h xs]:=by
 have hlen:=hl.len;refine enter func78 rfl ntmps78 rfl<|?_;have aO:=m;have st1:=aO.fr hl;refine(aR) (fun g4=>?_) fun g4=>?_
 ·
  simp at g4
  subst g4;have b:=hl.uk;subst b;have st2:=st1.dp RR.key 41 2;refine(bs) ?_;exact⟨none,0,0,rfl,st2.p1.drop⟩
 refine cj ?_;refine WL.go rfl (OX.yD OY acR rfl fun b5 w1 j o=>?_);have st2:=St.pU (R:=RR.key) (E:=41) (k:=2) (a:=some ⟨b5,0,none⟩) (n:=0) (c:=0) (xs:=[]) st1 j.ext (OR.QC o (Nat.zero_le _)) (fun x b=>by simp [aI] at b;subst b;exact j.ge);refine nx ?_;refine WL.ap rfl rfl st2 ((As.gr st2.g1)) fun t u w2 v y p=>?_;refine(bs) ?_;exact⟨_,_,_,rfl,p.p1.drop⟩
theorem wN{xs:List Rec}(m:St w M Z w []) (hl:Rd RR.dV 8 Z w a n c xs) (q:xs.length≤1000000):Calls prog 114 #[.slice a n c] w fun e w'=>∃d g h,e=.returned (.slice d g h)∧St w M Z w' [As.os RR.dV 47 8 d g h xs]:=by
 have hlen:=hl.len;refine enter func114 rfl ntmps114 rfl<|?_;have aO:=m;have st1:=aO.fr hl;refine(aR) (fun g4=>?_) fun g4=>?_
 ·
  simp at g4
  subst g4;have b:=hl.uk;subst b;have st2:=st1.dp RR.dV 47 8;refine(bs) ?_;exact⟨none,0,0,rfl,st2.p1.drop⟩
 refine cj ?_;refine WL.go rfl (OX.yD OW acS rfl fun b5 w1 j o=>?_);have st2:=St.pU (R:=RR.dV) (E:=47) (k:=8) (a:=some ⟨b5,0,none⟩) (n:=0) (c:=0) (xs:=[]) st1 j.ext (OR.QC o (Nat.zero_le _)) (fun x b=>by simp [aI] at b;subst b;exact j.ge);refine nx ?_;refine WL.ap rfl rfl st2 ((As.gr st2.g1)) fun t u w2 v y p=>?_;refine(bs) ?_;exact⟨_,_,_,rfl,p.p1.drop⟩
theorem oI{xs:List cv}(m:St w M Z w []) (hl:Rd RR.aD 4 Z w a n c xs) (q:xs.length≤1000000):Calls prog 67 #[.slice a n c] w fun e w'=>∃d g h,e=.returned (.slice d g h)∧St w M Z w' [As.os RR.aD 88 4 d g h xs]:=by
 have hlen:=hl.len;refine enter func67 rfl ntmps67 rfl<|?_;have aO:=m;have st1:=aO.fr hl;refine(aR) (fun g4=>?_) fun g4=>?_
 ·
  simp at g4
  subst g4;have b:=hl.uk;subst b;have st2:=st1.dp RR.aD 88 4;refine(bs) ?_;exact⟨none,0,0,rfl,st2.p1.drop⟩
 refine cj ?_;refine WL.go rfl (OX.yD OV acT rfl fun b5 w1 j o=>?_);have st2:=St.pU (R:=RR.aD) (E:=88) (k:=4) (a:=some ⟨b5,0,none⟩) (n:=0) (c:=0) (xs:=[]) st1 j.ext (OR.QC o (Nat.zero_le _)) (fun x b=>by simp [aI] at b;subst b;exact j.ge);refine nx ?_;refine WL.ap rfl rfl st2 ((As.gr st2.g1)) fun t u w2 v y p=>?_;refine(bs) ?_;exact⟨_,_,_,rfl,p.p1.drop⟩
theorem pA(p:St w M Z w []) (hk:Rd RR.key 2 Z w a n c x.reads) (u:x.reads.length≤4000):Calls prog 74 #[.agg (x.row a n c).toArray] w fun e w'=>∃d g h,e=.returned (.agg (x.row d g h).toArray)∧St w M Z w' [As.os RR.key 41 2 d g h x.reads]:=by
 refine enter func74 rfl ntmps74 rfl<|?_;have aO:=p;have st1:=aO.fr hk;refine(dq) st1 fun b1 w1 v y st2=>?_;refine(eN) st2 fun b2 w2 z D j=>?_;refine(aZ) dC j.b1<|?_;have b:=j;refine(bX) Ki (jo b.e0 (As.gr b.g2) (by omega)) ?_;rintro _ w3 ⟨f1,f2,f3,rfl,q⟩;have t:=St.lr b q;refine nx ?_;refine WL.s1 t.p2 fun w4 _ m=>?_;refine(aY) cU m.b0<|(cF) fI m.p2 fun w5 E F o=>?_;refine(kR) cU o.b0<|?_;exact⟨_,_,_,rfl,o.p2.k1⟩
theorem oJ{p:Rec→Bool}(g:CF prog f) (hl:Rd RR.dV 8 Z w a n c l) (m:∀w1,aS [] w w1→∀x∈l,∀a n c,Rd RR.key 2 Z w1 a n c x.reads→Calls prog f #[.agg (x.row a n c).toArray,cap] w1 fun e w'=>e=.returned (.bool (p x))∧aS [] w1 w'):Calls prog 85 #[.slice a n c,.func (.func f) #[] #[cap]] w fun e w'=>∃j:Int,e=.returned (.int .i64 j)∧uE l p j∧aS [] w w':=by
 have hlen:=hl.len;have hle:=hl.le;refine enter func85 rfl ntmps85 rfl<|?_;have aO:=St.s0 w;refine aX ?_;refine bK ?_;refine WC.bd (σ:=Nat) (dj:=fun i=>[(0,.slice a n c),(1,.func (.func f) #[] #[cap]),(7,.int .i64 (n:Int)),(8,.int .i64 (i:Int))]) (F:=fun i=>[]) (I:=fun i=>(i≤n)∧(∀j x,j<i→l[j]?=some x→p x=false)∧True) (μ:=fun i=>n - i) (0) (aO) Sub.t (⟨by omega,fun j x h=>by omega,trivial⟩)<|?_;rintro i w1 st1 ⟨hi,b,_⟩;simp only [CA,NA] at st1 hi b ⊢;refine(aR) (fun g9=>?_) fun g9=>?_
 ·
  simp at g9
  have d:i<l.length:=by omega
  refine jT ?_;obtain⟨E,G,H,o,J,q,u,K⟩:=Rd.at hl d;obtain⟨q1,L,N,rfl,v,O⟩:=q;refine cj ?_;refine WP .r (PV.dI ij o rfl rfl (by omega))<|(aY) cU (aW u (St.cg st1) (by simp))<|?_;refine WL.go rfl (OX.mT g rfl rfl rfl ((Calls.cap (m _ (St.cg st1) l[i] (List.getElem_mem d) _ _ _ (v.ext (St.cg st1)))).mono ?_));rintro _ w2 ⟨rfl,s2⟩;refine⟨_,rfl,?_⟩;have st2:=st1.step s2;refine(aR) (fun g16=>?_) fun g16=>?_
  ·
   refine(bs) ?_;exact⟨_,rfl,.inl ⟨i,_,ak d,g16,b,rfl⟩,(St.cg st2)⟩
  have g16:p l[i]=false:=by simpa using g16
  refine ed ?_;refine ef (i+1) ⟨st2,⟨by omega,cG d b (by simpa using g16),trivial⟩⟩
 simp at g9
 have y:∀x∈l,p x=false:=fun x z=>by obtain⟨j,D,rfl⟩:=List.getElem_of_mem z;exact b j _ (by omega) (ak D)
 refine(bs) ?_;exact⟨_,rfl,.inr ⟨y,rfl⟩,(St.cg st1)⟩
theorem r5{p:Rec→Bool}(d:CF prog f) (hl:Rd RR.dV 8 Z w a n c l) (g:∀w1,aS [] w w1→∀x∈l,∀a n c,Rd RR.key 2 Z w1 a n c x.reads→Calls prog f #[.agg (x.row a n c).toArray,cap] w1 fun e w'=>e=.returned (.bool (p x))∧aS [] w1 w') (h:∀x∈l,p x=false):CR prog 107 #[.slice a n c,.func (.func f) #[] #[cap]] w (.bool false):=by
 refine enter func107 rfl ntmps107 rfl<|?_;have aO:=St.s0 w;refine(bX) Ww (oJ (w:=w) d (hl.ext (St.cg aO)) (fun w1 h1=>g w1 (aS.trans (St.cg aO) h1))) ?_;rintro _ w1 ⟨j,rfl,m,s1⟩;have st1:=aO.step s1
 have o:j = -1:=by rcases m with⟨i,x,h1,b,_⟩ | ⟨_,b⟩;exact absurd b (by simp [h x (List.mem_of_getElem? h1)]);exact b
 subst o;refine(bs) ?_;exact⟨by simp,(St.cg st1)⟩
theorem wO{l:List Key}(hl:Rd RR.key 2 Z w a n c l):Calls prog 214 #[.slice a n c,k.val] w fun e w'=>((k∈l∧∃i:Nat,e=.returned (.int .i64 (i:Int)))∨(k∉l∧e=.returned (.int .i64 (-1))))∧aS [] w w':=by
 have hlen:=hl.len;have hle:=hl.le;refine enter func214 rfl ntmps214 rfl<|?_;have aO:=St.s0 w;refine(dq) aO fun b3 w1 E G st1=>?_;refine aX ?_;refine WC.bd (σ:=Nat) (dj:=fun i=>[(0,.slice a n c),(3,.pointer (some ⟨b3,0,none⟩)),(7,.int .i64 (n:Int)),(8,.int .i64 (i:Int))]) (F:=fun i=>[]) (I:=fun i=>(i≤n)∧(∀j x,j<i→l[j]?=some x→x≠k)∧True) (μ:=fun i=>n - i) (0) (st1) Sub.t (⟨by omega,fun j x h=>by omega,trivial⟩)<|?_;rintro i w2 st2 ⟨hi,b,_⟩;simp only [CA,NA] at st2 hi b ⊢;refine(aR) (fun g9=>?_) fun g9=>?_
 ·
  simp at g9
  have d:i<l.length:=by omega
  refine jT ?_;obtain⟨H,J,K,v,L,g,y,N⟩:=Rd.at hl d;have g:=RR.a8 g;subst g;have O:=st2.bL;refine WC.dS (m:=5) st2 mixed<|(gI) ao St.g0<|bK ?_;refine DP .r (fun _ o=>PV.dI ek v rfl rfl (by omega))<|DP .r (fun _ o=>VA ao (aW y (St.cg o.2) (by simp)) .r)<|(cP)<|?_;rintro w3 ⟨P,u⟩ _;refine WP .r (PV.DL fH (p:=k) (q:=l[i]) rfl rfl)<|(aR) (fun g16=>?_) fun g16=>?_
  ·
   simp at g16
   refine(bs) ?_;exact⟨.inl ⟨g16 ▸ List.getElem_mem d,i,rfl⟩,(St.cg u)⟩
  simp at g16
  refine ed ?_;refine ef (i+1) ⟨u,⟨by omega,cG d b (fun e=>g16 e.symm),trivial⟩⟩
 simp at g9
 have z:k∉l:=fun hm=>by obtain⟨j,D,h⟩:=List.getElem_of_mem hm;exact b j _ (by omega) (ak D) h
 refine(bs) ?_;exact⟨.inr ⟨z,rfl⟩,(St.cg st2)⟩
theorem r6{l:List Key}(hl:Rd RR.key 2 Z w a n c l):CR prog 161 #[.slice a n c,k.val] w (.bool (decide (k∈l))):=by
 refine enter func161 rfl ntmps161 rfl<|?_;have aO:=St.s0 w;refine(dq) aO fun b3 w1 m o st1=>?_;refine(aY) ao st1.b0<|(bX) XO ((wO (k:=k) (w:=w1) (hl.ext (St.cg st1))).mono (fun e d h=>show ∃j:Int,e=.returned (.int .i64 j)∧decide (0≤j)=decide (k∈l)∧aS [] w1 d from by rcases h.1 with⟨h1,i,b⟩ | ⟨h1,b⟩;exact⟨i,b,by simp [h1],h.2⟩;exact⟨-1,b,by simp [h1],h.2⟩)) ?_;rintro _ w2 ⟨j,rfl,g,s2⟩;have st2:=st1.step s2;refine(bs) ?_;exact⟨by rw [g],(St.cg st2)⟩
theorem zO{bk:Nat}(hb:bQ w bk 41 k.cells):CR prog 86 #[.agg (x.row a n c).toArray,.pointer (some ⟨bk,0,none⟩)] w (.bool (decide (x.key=k))):=by
 refine enter func86 rfl ntmps86 rfl<|?_;have aO:=St.s0 w;refine(dq) aO fun b2 w1 b d st1=>?_;refine(gX) ao st1.b0<|(aY) ao (bQ.range (hb.ext (St.cg st1)))<|?_;refine WP .r (PV.DL fH (p:=x.key) (q:=k) rfl rfl)<|(bs) ?_;exact⟨rfl,(St.cg st1)⟩
theorem zP(H:St w M Z w []) (hl:Rd RR.dV 8 Z w a n c l):Calls prog 44 #[.slice a n c,k.val] w fun e w'=>∃y z D,e=.returned (.tuple #[.agg ((aC l k).row y z D).toArray,.bool (az l k).isSome])∧(aC l k).reads.length≤4000∧St w M Z w' [As.os RR.key 41 2 y z D (aC l k).reads]:=by
 have hlen:=hl.len;have hle:=hl.le;refine enter func44 rfl ntmps44 rfl<|?_;have aO:=H;have st1:=aO.fr hl;refine(dq) st1 fun b3 w1 X Y st2=>?_;refine(eN) st2 fun b4 w2 EY Iy q=>?_;refine fO ?_;refine WP .r (PV.func (us:=[]) (vs:=[.pointer (some ⟨b3,0,none⟩)]) rfl rfl)<|(bX) Ww (oJ (p:=fun x=>decide (x.key=k)) adM (As.gr q.g2) (fun w1 h1 x _ a n c _=>zO ((As.gb q.g1).ext h1))) ?_;rintro _ w3 ⟨j,rfl,o,I⟩;have t:=q.step I;refine(aR) (fun g11=>?_) fun g11=>?_
 ·
  simp at g11
  have J:∀x∈l,(decide (x.key=k))=false:=by rcases o with⟨i,x,_,_,_,h⟩ | ⟨h,_⟩;omega;exact h
  have d:az l k=none:=pR (i:=l.length) (Nat.le_refl _) (fun j x _ g=>by simpa using J x (List.mem_of_getElem? g))
  have b:aC l k=mW:=by unfold aC;rw [d];rfl
  have u:=t.dp RR.key 41 2;refine(cF) fI u.p1 fun w4 jO jZ m=>?_;refine db ?_;refine EX.ew rfl (RS.cell cU rfl m.b0 rfl<|RS.tmp rfl<|RS.nil) rfl<|?_;exact⟨none,0,0,by rw [d,b];rfl,by rw [b];simp [mW],by rw [b];exact m.p1.k1⟩
 simp at g11
 obtain⟨i,x,g,K,L,rfl⟩:∃i:Nat,∃x,l[i]?=some x∧decide (x.key=k)=true∧(∀j x,j<i→l[j]?=some x→(x.key == k)=false)∧j=i:=by
  rcases o with⟨i,x,h1,N,O,P⟩ | ⟨_,h⟩
  ·
   exact⟨i,x,h1,N,fun j x o g=>by simpa using O j x o g,P⟩
  omega
 obtain⟨E,rfl⟩:=List.getElem?_eq_some_iff.1 g;have d:az l k=some l[i]:=js E L (by simpa using K)
 have b:aC l k=l[i]:=by unfold aC;rw [d];rfl
 refine bY ?_;obtain⟨gH,kz,jY,Q,gG,R,S,T⟩:=Rd.at (As.gr t.g2) E;obtain⟨q1,q2,q3,rfl,U,F⟩:=R;have u:=t.fg T S;have m:=u.fr U;refine bY ?_;refine WP .r (PV.dI ij Q rfl rfl (by omega))<|(aY) cU (As.kH m.g1)<|?_;have v:=m;refine(bX) R5 (pA v.e0 (As.gr v.g0) F) ?_;rintro _ w4 ⟨e1,e2,e3,rfl,V⟩;have W:=St.lr v V;refine(cF) fI W.p3 fun w5 qV mi G=>?_;refine cj ?_;refine EX.ew rfl (RS.cell cU rfl G.b0 rfl<|RS.tmp rfl<|RS.nil) rfl<|?_;exact⟨e1,e2,e3,by rw [d,b];rfl,by rw [b];exact F,by rw [b];exact G.p1.k1⟩
theorem zQ(G:St w M Z w []) (hl:Rd RR.dV 8 Z w a n c l) (H:l.length≤1000000):Calls prog 68 #[.slice a n c] w fun e w'=>∃q u v Z',e=.returned (.slice q u v)∧bH w.heap.size Z Z'∧St w M Z' w' [As.os RR.dV 47 8 q u v l]:=by
 have hlen:=hl.len;have hle:=hl.le;refine enter func68 rfl ntmps68 rfl<|?_;have aO:=G;have st1:=aO.fr hl;refine gL ?_;have st2:=st1;refine(bX) WY (wN st2.e0 (As.gr st2.g0) H) ?_;rintro _ w1 ⟨f1,f2,f3,rfl,J⟩;have y:=St.lr st2 J;have X:=((As.gs y.g0)).len;refine aX ?_;refine WC.hh (σ:=Nat × (Nat→Prop)) (dj:=fun(i,b)=>[(3,.slice f1 f2 f3),(8,.slice f1 f2 f3),(9,.int .i64 (f2:Int)),(10,.int .i64 (i:Int))]) (F:=fun(i,b)=>[As.os RR.dV 47 8 f1 f2 f3 l]) (I:=fun(i,b)=>(i≤f2)∧(bH w.heap.size Z b)∧True) (μ:=fun(i,b)=>f2 - i) (Zf:=fun(i,b)=>b) (0,Z) (y) Sub.t (⟨by omega,bH.refl _ _,trivial⟩)<|?_;rintro⟨i,b⟩ w2 d ⟨hi,j,_⟩;simp only [CA,NA] at d hi j ⊢;refine(aR) (fun g11=>?_) fun g11=>?_
 ·
  simp at g11
  have m:i<l.length:=by omega
  refine db ?_;obtain⟨Y,jY,o,gG,K,L⟩:=Ow.at (As.gs d.g0) (by omega) (ak m);obtain⟨q1,q2,q3,rfl,N,z⟩:=K;have O:=d.fr (N);refine bK ?_;refine WP .r (PV.dI ij o rfl rfl (by omega))<|(aY) cU L<|(eN) O fun b5 w3 HM HN P=>?_;refine(cF) fI P fun w4 jO jZ D=>?_;refine(aY) cU D.b0<|?_;have g:=D;refine(bX) R5 (pA g.e0 (As.gr g.g1) z) ?_;rintro _ w5 ⟨e1,e2,e3,rfl,E⟩;have Q:=St.lr g E;have R:=St.bM E;have hsz:=g.size;have p:=Q.ba (by omega);have S:=j.trans (bH.dA (F:=fun x=>x∈aI e1) R) hsz;refine WP .r (PV.dI ij o rfl rfl (by omega))<|?_;refine WL.go rfl (OX.Ve (i:=i) fI (As.gs p.g3) o m rfl rfl rfl (Rec.one _ _ _ _) l[i] ⟨e1,e2,e3,rfl,(As.gr p.g0),z⟩ fun w6 T U=>?_);have V:=p.p3.eV T U (fun x h=>.inl h);have W:=V.Vd (List.set_getElem_self m);refine ed ?_;refine ef (i+1,_) ⟨W.p4.p1.k2,⟨by omega,S,trivial⟩⟩
 refine(bs) ?_;exact⟨_,_,_,_,rfl,j,d.p1.drop⟩
theorem vG{x:cy}(G:St w M Z w []) (hi:Rd RR.aD 4 Z w a1 n1 e1 x.ab) (hr:Rd RR.dV 8 Z w a2 n2 e2 x.ah) (H:x.ah.length≤1000000) (I:x.ab.length≤1000000):Calls prog 31 #[.agg (x.row a1 n1 e1 a2 n2 e2).toArray] w fun e w'=>∃g h j o p q Z',e=.returned (.agg (x.row g h j o p q).toArray)∧bH w.heap.size Z Z'∧St w M Z' w' [As.os RR.aD 88 4 g h j x.ab,As.os RR.dV 47 8 o p q x.ah]:=by
 refine enter func31 rfl ntmps31 rfl<|?_;have aO:=G;have st1:=aO.fr hi;have st2:=st1.fr hr;refine(dq) st2 fun b1 w1 Q R J=>?_;refine(eN) J fun b2 w2 S T K=>?_;refine bY ?_;refine WC.bN (m:=7) [] [2,5] [0,1,2,3,4,5,6] [] K (ai.k4 M0 M1 M2 M3<|ai.nil) mixed (by kernel_rfl) (by kernel_rfl) rfl<|(oc) iX SV.g1<|(fV) (fun w3 U V t W=>?_);simp only [CA,NA] at t;have d:=t;refine OX.call Ws rfl rfl ((oI d.e0 (As.gr d.g3) I).mono ?_);rintro _ w4 ⟨f1,f2,f3,rfl,u⟩;have L:=St.lr d u;refine⟨_,rfl,u.bV.size,_,rfl,_,_,_,L,aw.k4<|aw.cons<|aw.nil,ai.k4 M1 M2 M3 M4<|ai.nil,?_⟩;refine(oc) dt SV.g1<|(fV) (fun w5 X Y v jQ=>?_);simp only [CA,NA] at v;have b:=v;refine OX.call adE rfl rfl ((zQ b.e0 (As.gr b.g3) H).mono ?_);rintro _ w6 ⟨f4,f5,f6,Z1,rfl,y,z⟩;have N:=St.lv b z y;have O:=y.le b.size;refine⟨_,rfl,z.bV.size,_,rfl,_,_,_,N,aw.k4<|aw.k2<|aw.nil,ai.k4 M2 M3 M4 M5<|ai.nil,?_⟩;refine(jv) ?_;intro w7 rX D;simp only [CM,NM,CA,NA,hI.it] at D;refine WL.s1 D.p3 fun w8 _ P=>?_;refine nx ?_;refine WL.s1 P fun w9 _ E=>?_;refine WL.nil (EX.np ?_);refine(aY) aL E.b0<|(cF) dR E.p3 fun iN jO jZ F=>?_;refine(kR) aL F.b0<|?_;exact⟨_,_,_,_,_,_,_,rfl,O,F.p2.p3.k2⟩
theorem r7{r:Rec}{x:cy}{b:Nat}(hb:bQ w b 31 (x.row a1 n1 e1 a2 n2 e2)):CR prog 108 #[.agg (r.row a n c).toArray,.pointer (some ⟨b,0,none⟩)] w (.bool (decide (x.ad<r.av))):=by
 refine enter func108 rfl ntmps108 rfl<|?_;have aO:=St.s0 w;refine(dq) aO fun b2 w1 d e st1=>?_;refine(aZ) aN st1.b0<|(aZ) aN (bQ.range (hb.ext (St.cg st1)))<|(bs) ?_;exact⟨rfl,(St.cg st1)⟩
end Go.Rc

