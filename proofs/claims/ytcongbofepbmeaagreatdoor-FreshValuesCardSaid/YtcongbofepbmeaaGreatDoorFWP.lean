/- Walks over the program, part WP. Conditions: as each theorem says. -/
import Derived.Test.YtcongbofepbmeaaGreatDoorFFacts
import Derived.Test.YtcongbofepbmeaaGreatDoorFWLibE
import Derived.Test.YtcongbofepbmeaaGreatDoorFBf
import Derived.Test.YtcongbofepbmeaaGreatDoorFBd
import Derived.Test.YtcongbofepbmeaaGreatDoorFWF
import Derived.Test.YtcongbofepbmeaaGreatDoorFBe
set_option linter.all false
namespace Go.Rc
open Go Go.Proofs Go.Proofs.Tryz
variable {n r c i r2 e2 n1 e1 n2:Nat}{w:World}{aa:List aA}{A B C M Z:Nat→Prop}{a a2 a1:Option Addr}{k:Key}{s:ByteArray}{l:List Rec}{ae:List ByteArray}{f:FuncId}{cap:Value}{x:cA}
set_option maxHeartbeats 400000
theorem rM{n:Int} :CR prog 85 #[.int .i64 n] w ((bH n).val):=by
 refine enter func85 rfl ntmps85 rfl<|?_;have aR:=St.s0 w;refine(ff) aR fun b2 w1 e g st1=>?_;refine cX ?_;refine WC.cI (t:=8) (v:=.bool (decide (n<0) || decide (99<n))) st1 ?_<|?_
 ·
  refine(bW) (fun g5=>?_) (fun g5=>?_)
  ·
   exact(br) (by simp only [g5];first | rfl | simp) (st1)
  exact(br) (by simp only [g5];first | rfl | simp) (st1)
 intro w2 st2;refine(aN) (fun g8=>?_) fun g8=>?_
 ·
  have hk:bH n=eS:=by unfold bH;rw [if_pos (by simp at g8;omega)]
  refine(cD) gR st2 fun w3 h j b=>?_;refine(ky) ak b.b0<|?_;rw [hk];exact⟨rfl,(St.cg b)⟩
 simp at g8
 have hk:bH n=⟨30,itoa n⟩:=by unfold bH;rw [if_neg (by omega)]
 refine(dH) (iz (n:=n) (by omega) (by omega) w2) st2 fun w3 s3 b=>?_;refine WP .r (PV.bs (us:=[.int .i64 30,.string (itoa n)]) yk rfl rfl rfl)<|(cD) gR b fun w4 m o d=>?_;refine(ky) ak d.b0<|?_;rw [hk];exact⟨rfl,(St.cg d)⟩
theorem yD{n:Int}(hr:dX A w a r c aa):CR prog 365 #[.slice a r c,.int .i64 n] w (.tuple #[.int .i64 (block aa n).1,.int .i64 (block aa n).2]):=by
 have hle:=hr.le;have hlen:=hr.len;refine enter func365 rfl ntmps365 rfl<|?_;have aR:=St.s0 w;refine iC ?_;refine WC.cI (t:=15) (v:=.bool (decide (n<0) || decide ((r:Int)≤n))) aR ?_<|?_
 ·
  refine(bW) (fun g10=>?_) (fun g10=>?_)
  ·
   exact(br) (by simp only [g10];first | rfl | simp) (aR)
  exact(br) (by simp only [g10];first | rfl | simp) (aR)
 intro w1 st1;refine(aN) (fun g15=>?_) fun g15=>?_
 ·
  have hb:=wN aa n (by simp at g15;omega);refine(qX) ?_;exact⟨by rw [hb],(St.cg st1)⟩
 obtain⟨b,rfl⟩:∃i:Nat,n=i:=⟨n.toNat,by simp at g15;omega⟩
 have o:b<aa.length:=by simp at g15;omega
 have h:block aa b=if ay aa b then ((bg aa b:Int),(dB aa (b+1):Int)) else ((b:Int),(b:Int)+1):=by
  unfold block;rw [if_neg (by omega)];rfl
 refine aO ?_;refine nx ?_;obtain⟨X,Y,Xq,H,_,⟨q1,q2,q3,rfl,_⟩,J,_⟩:=(hr.ext (St.cg st1)).at (ai o);refine cL ?_;refine WP .r (PV.ei gZ H rfl rfl (by omega))<|nx ?_;refine WP .r (PV.ld1 (j:=0) dM J rfl rfl)<|(aN) (fun g24=>?_) fun g24=>?_
 ·
  simp at g24
  have hb:block aa b=((b:Int),(b:Int)+1):=by rw [h,if_neg (by rw [bD o,g24];simp)]
  refine(qX) ?_;exact⟨by rw [hb],(St.cg st1)⟩
 simp at g24
 rw [if_pos (by rw [bD o];exact g24)] at h;refine cX ?_;refine WC.bd (σ:=Nat) (dm:=fun k=>[(0,.slice a r c),(6,.int .i64 (k:Int)),(7,.int .i64 ((b:Int)+1))]) (F:=fun k=>[]) (I:=fun k=>(k≤b)∧(bg aa k=bg aa b)∧True) (μ:=fun k=>k) (b) (st1) Sub.t (⟨Nat.le_refl _,rfl,trivial⟩)<|?_;rintro k w2 st2 ⟨hk,p,_⟩;simp only [CA,NA] at st2 hk p ⊢;refine bz ?_;refine WC.cI (t:=36) (v:=.bool (decide ((0:Int)<k) && ay aa (k - 1))) st2 ?_<|?_
 ·
  refine(bW) (fun q=>?_) (fun q=>?_)
  ·
   simp at q
   obtain⟨b_y,o_y,r_y,K,_,⟨L,N,O,rfl,_⟩,P,_⟩:=(hr.ext (St.cg st2)).at (ai (show k - 1<aa.length by omega));have FU:aa[k-1].ring=ay aa (k-1):=(bD (by omega)).symm;refine cL ?_;refine WP .r (PV.B5 gZ (i:=k - 1) K rfl rfl (by omega) (by omega))<|nx ?_;refine WP .r (PV.ld1 (j:=0) dM P rfl rfl)<|?_;exact(br) (by simp [*]) (st2)
  simp at q
  have Q:¬(0<k):=by omega
  exact(br) (by simp [*]) (st2)
 intro w3 z;refine(aN) (fun d=>?_) fun d=>?_
 ·
  simp at d
  obtain⟨g1,g2⟩:=d;obtain⟨j,rfl⟩:∃j,k=j+1:=⟨k - 1,by omega⟩;refine kQ ?_;refine dY (j) ⟨z,⟨by omega,by rw [← p,oW (by simpa using g2)],trivial⟩⟩
 simp at d
 have R:(block aa b).1=k:=by
  rw [h]
  show(bg aa b:Int)=k
  rw [← p,qQ]
  by_cases h0:k=0
  ·
   exact .inl h0
  exact .inr (d (by omega))
 refine eP ?_;refine WC.bd (σ:=Nat) (dm:=fun m=>[(0,.slice a r c),(6,.int .i64 (k:Int)),(7,.int .i64 (m:Int))]) (F:=fun m=>[]) (I:=fun m=>(b+1≤m)∧(m≤r)∧(dB aa m=dB aa (b+1))∧True) (μ:=fun m=>r - m) (b+1) (z) Sub.t (⟨Nat.le_refl _,by omega,rfl,trivial⟩)<|?_;rintro m w4 e ⟨S,T,u,_⟩;simp only [CA,NA] at e S T u ⊢;refine bz ?_;refine WC.cI (t:=49) (v:=.bool (decide ((m:Int)<r) && ay aa m)) e ?_<|?_
 ·
  refine(bW) (fun y=>?_) (fun y=>?_)
  ·
   simp at y
   obtain⟨b_z,o_z,r_z,U,_,⟨L,N,O,rfl,_⟩,V,_⟩:=(hr.ext (St.cg e)).at (ai (show m<aa.length by omega));have D:aa[m].ring=ay aa m:=(bD (by omega)).symm
   have E:decide ((m:Int)<r)=true:=by simp;omega
   refine bz ?_;refine WP .r (PV.ei gZ U rfl rfl (by omega))<|nx ?_;refine WP .r (PV.ld1 (j:=0) dM V rfl rfl)<|?_;exact(br) (by first | (rw [D,E];rfl) | simp [*]) (e)
  simp at y
  have Q:¬(m<aa.length):=by omega
  exact(br) (by first | (rw [D,E];rfl) | simp [*]) (e)
 intro w5 G;refine(aN) (fun g=>?_) fun g=>?_
 ·
  simp at g
  obtain⟨g3,g4⟩:=g;refine kQ ?_;refine dY (m+1) ⟨G,⟨by omega,by omega,by rw [← u,← qP g4],trivial⟩⟩
 simp at g
 have W:(block aa b).2=m:=by
  rw [h]
  show(dB aa (b+1):Int)=m
  rw [← u,sR]
  rcases Nat.lt_or_ge m r with h0 | h0
  ·
   exact g (by omega)
  exact lA (by omega)
 refine aO ?_;refine(qX) ?_;exact⟨by rw [R,W],(St.cg G)⟩
theorem oM{cell:Bool}{n:Int}(hr:dX A w a r c aa) (hi:i<aa.length):CR prog 190 #[.slice a r c,.int .i64 (i:Int),.bool cell,.int .i64 n] w (.bool (fw aa i cell n)):=by
 have hle:=hr.le;have hlen:=hr.len;have g:=bD hi;have o:=CJ hi
 have ht:e8 aa i=if aa[i].ring=true then (block aa (i:Int)).2 else (block aa (i:Int)).1:=by unfold e8;rw [g]
 refine enter func190 rfl ntmps190 rfl<|?_;have aR:=St.s0 w;refine(aN) (fun g11=>?_) fun g11=>?_
 ·
  refine nx ?_;refine WC.gW (t:=8) (v:=.bool (decide (0≤n) && decide (n≤15))) aR ?_<|?_
  ·
   refine(bW) (fun g14=>?_) (fun g14=>?_)
   ·
    exact(eN) (by simp only [g14];first | rfl | simp) (aR)
   exact(eN) (by simp only [g14];first | rfl | simp) (aR)
  intro w1 st1;refine(bm) ?_;exact⟨by unfold fw;rw [if_pos g11],(St.cg st1)⟩
 refine(dH) (yD (n:=(i:Int)) (hr.ext (St.cg aR))) aR fun w1 s1 st1=>?_;refine iC ?_;obtain⟨p,q,u,h,_,⟨q1,y,z,rfl,_⟩,m,_⟩:=(hr.ext (St.cg st1)).at (ai hi);refine WC.gW (t:=8) (v:=.bool (decide (0≤n) && decide (n<e8 aa i))) st1 ?_<|?_
 ·
  refine(bW) (fun b=>?_) (fun b=>?_)
  ·
   refine(bW) (fun d=>?_) (fun d=>?_)
   ·
    refine aO ?_;exact(eN) (by rw [ht];first | (simp [b,d];done) | (simp at b d;simp [b,d];done) | (simp at b d ⊢;split <;> omega) | (simp at b d;simp [b,d];omega)) (st1)
   refine bz ?_;refine WP .r (PV.ei gZ h rfl rfl (by omega))<|nx ?_;refine WP .r (PV.ld1 (j:=0) dM m rfl rfl)<|(bW) (fun e=>?_) (fun e=>?_)
   ·
    exact(eN) (by rw [ht];first | (simp [b,d,e];done) | (simp at b d e;simp [b,d,e];done) | (simp at b d e ⊢;split <;> omega) | (simp at b d e;simp [b,d,e];omega)) (st1)
   exact(eN) (by rw [ht];first | (simp [b,d,e];done) | (simp at b d e;simp [b,d,e];done) | (simp at b d e ⊢;split <;> omega) | (simp at b d e;simp [b,d,e];omega)) (st1)
  refine aO ?_;exact(eN) (by rw [ht];first | (simp [b];done) | (simp at b;simp [b];done) | (simp at b ⊢;split <;> omega) | (simp at b;simp [b];omega)) (st1)
 intro w2 st2;refine(bm) ?_;exact⟨by unfold fw;rw [g11];rfl,(St.cg st2)⟩
theorem lV{k:Nat}{x:Ask}(hr:dX A w a r c aa) (hi:i<aa.length):CR prog 113 #[.slice a r c,.int .i64 (i:Int),x.val,.bool (decide ((k:Int)=0))] w (.bool (ek aa i aa[i].ring k x)):=by
 have hle:=hr.le;have hlen:=hr.len;obtain⟨q,u,y,g,_,⟨q1,z,D,rfl,_⟩,h,_⟩:=hr.at (ai hi);have e:(ek aa i aa[i].ring k x)=(fw aa i x.cell x.n && (if x.pick then !aa[i].ring && decide (k≠0) && fw aa i x.cell x.Cj else decide (x.Cj=0))):=rfl;rw [e]
 clear e
 have b:decide ((k:Int)=0)=decide (k=0):=by simp
 refine enter func113 rfl ntmps113 rfl<|?_;have aR:=St.s0 w;refine(dE) aR fun E w1 F G st1=>?_;refine cS ?_;refine WC.cI (t:=30) (v:=.bool ((x.pick && (aa[i].ring || decide (k=0))) || !fw aa i x.cell x.n)) st1 ?_<|?_
 ·
  refine(aU) dM st1.b0<|(bW) (fun g11=>?_) (fun g11=>?_)
  ·
   refine bz ?_;refine WP .r (PV.ei gZ g rfl rfl (by omega))<|nx ?_;refine WP .r (PV.ld1 (j:=0) dM (aV h (St.cg st1) (by simp)) rfl rfl)<|(bW) (fun g17=>?_) (fun g17=>?_)
   ·
    refine aO ?_;exact(br) (by first | (simp only [g11,g17,← b];rfl) | (simp [g11,g17,b];done) | (simp at g11 g17;simp [g11,g17,b];done) | (simp at g11 g17;simp_all;done)) (st1)
   refine(bW) (fun g21=>?_) (fun g21=>?_)
   ·
    exact(br) (by first | (simp only [g11,g17,g21,← b];rfl) | (simp [g11,g17,g21,b];done) | (simp at g11 g17 g21;simp [g11,g17,g21,b];done) | (simp at g11 g17 g21;simp_all;done)) (st1)
   refine(aU) dM st1.b0<|(aU) aK st1.b0<|(dH) (oM (cell:=x.cell) (n:=x.n) (hr.ext (St.cg st1)) hi) st1 fun w2 s2 st2=>?_;exact(br) (by first | (simp only [g11,g17,g21,← b];rfl) | (simp [g11,g17,g21,b];done) | (simp at g11 g17 g21;simp [g11,g17,g21,b];done) | (simp at g11 g17 g21;simp_all;done)) (st2)
  refine aO ?_;refine(aU) dM st1.b0<|(aU) aK st1.b0<|(dH) (oM (cell:=x.cell) (n:=x.n) (hr.ext (St.cg st1)) hi) st1 fun w2 s2 st2=>?_;exact(br) (by first | (simp only [g11,← b];rfl) | (simp [g11,b];done) | (simp at g11;simp [g11,b];done) | (simp at g11;simp_all;done)) (st2)
 intro w2 st2;refine(aN) (fun m=>?_) fun m=>?_
 ·
  refine(bm) ?_;exact⟨by cases hm:fw aa i x.cell x.n <;> cases H:x.pick <;> cases o:aa[i].ring <;> by_cases h0:k=0 <;> simp_all,(St.cg st2)⟩
 refine(aU) dM st2.b0<|(aN) (fun d=>?_) fun d=>?_
 ·
  simp at d
  refine(aU) aK st2.b0<|(bm) ?_;exact⟨by cases hm:fw aa i x.cell x.n <;> simp_all,(St.cg st2)⟩
 simp at d
 refine(aU) dM st2.b0<|(aU) aK st2.b0<|(dH) (oM (cell:=x.cell) (n:=x.Cj) (hr.ext (St.cg st2)) hi) st2 fun w3 s3 p=>?_;refine(bm) ?_;exact⟨by cases hm:fw aa i x.cell x.n <;> cases o:aa[i].ring <;> by_cases h0:k=0 <;> simp_all,(St.cg p)⟩
theorem uR(hr:dX A w a r c aa) (N:aq aa):CR prog 67 #[.slice a r c] w (.bool true):=by
 have hle:=hr.le;have hlen:=hr.len;have GN:=N.1;refine enter func67 rfl ntmps67 rfl<|?_;have aR:=St.s0 w;refine aO ?_;refine(aN) (fun g12=>?_) fun g12=>?_
 ·
  exact gu g12
 ·
  refine o5 ?_;refine WC.bd (σ:=Nat) (dm:=fun i=>[(0,.slice a r c),(13,.slice a r c),(14,.int .i64 (r:Int)),(15,.int .i64 (i:Int))]) (F:=fun i=>[]) (I:=fun i=>(i≤r)∧True) (μ:=fun i=>r - i) (0) (aR) Sub.t (⟨by omega,trivial⟩)<|?_;rintro i w1 st1 ⟨hi,_⟩;simp only [CA,NA] at st1 hi ⊢;refine(aN) (fun g16=>?_) fun g16=>?_
  ·
   simp at g16
   have E:i<aa.length:=by omega
   obtain⟨abk,O,q⟩:=N.2 i _ (ai E)
   unfold fl at q
   obtain⟨b_x,o_x,Xq,Q,_,⟨q1,j,P,rfl,G⟩,R,_⟩:=hr.at (ai E);have vN:=G.len;refine eP ?_;refine WP .r (PV.ei gZ Q rfl rfl (by omega))<|(aT) nY (aV R (St.cg st1) (by simp))<|(ff) st1 fun b4 w2 AX E4 st2=>?_;refine(cD) ym st2 fun w3 ko ly b=>?_;refine aO ?_;refine(aU) dM b.b0<|(aN) (fun g21=>?_) fun g21=>?_
   ·
    rw [if_pos g21] at q
    simp at q
    refine iC ?_;refine WC.cI (t:=48) (v:=.bool false) b ?_<|?_
    ·
     refine(aU) ig b.b0<|(bW) (fun d=>?_) (fun d=>?_)
     ·
      refine aO ?_;exact(br) (tG d) (b)
     refine(aU) aK b.b0<|(bW) (fun e=>?_) (fun e=>?_)
     ·
      refine aO ?_;exact(br) (tG (aj d e)) (b)
     refine(aU) aK b.b0<|(bW) (fun g=>?_) (fun g=>?_)
     ·
      exact(br) (tG (aj d<|aj e g)) (b)
     refine(aU) aK b.b0<|(bW) (fun m=>?_) (fun m=>?_)
     ·
      exact(br) (tG (aj d<|aj e<|aj g m)) (b)
     refine(aU) aK b.b0<|?_;exact(br) (tG (aj d<|aj e<|aj g m)) (b)
    intro w4 y;refine(aN) (fun z=>?_) fun z=>?_
    ·
     exact gu z
    refine(aU) ig y.b0<|cS ?_;refine WC.bd (σ:=Nat) (dm:=fun k=>[(0,.slice a r c),(3,.int .i64 (i:Int)),(13,.slice a r c),(14,.int .i64 (r:Int)),(15,.int .i64 (i:Int)),(50,.slice q1 j P),(51,.int .i64 (j:Int)),(52,.int .i64 (k:Int))]) (F:=fun k=>[]) (I:=fun k=>(k≤j)∧True) (μ:=fun k=>j - k) (0) (y) Sub.t (⟨by omega,trivial⟩)<|?_;rintro k w5 h ⟨hk,_⟩;simp only [CA,NA] at h hk ⊢;refine(aN) (fun o=>?_) fun o=>?_
    ·
     simp at o
     have D:k<aa[i].asks.length:=by omega
     obtain⟨S,T,U,H,_,rfl,J,_⟩:=(G.ext (St.cg h)).at (ai D);refine eP ?_;refine WP .r (PV.ei uf H rfl rfl (by omega))<|(aT) l6 J<|(ff) h fun V w6 W X K=>?_;refine(cD) AM K fun w7 r8 mr p=>?_;refine(aT) l6 p.b0<|bz ?_;refine WL.c1 (u:=.bool true) (lV (k:=k) (x:=aa[i].asks[k]) (hr.ext (St.cg p)) E) (by rw [show ek aa i aa[i].ring k aa[i].asks[k]=true from O k _ (ai D)]) p fun Y s8 L=>?_;refine cL ?_;refine WC.kS rfl<|eP ?_;refine dY (k+1) ⟨L.drop,⟨by omega,trivial⟩⟩
    simp at o
    refine j8 ?_;refine dY (i+1) ⟨h.drop,⟨by omega,trivial⟩⟩
   rw [if_neg (by simp [g21])] at q
   simp at q
   refine cX ?_;refine WC.cI (t:=48) (v:=.bool false) b ?_<|?_
   ·
    refine(aU) ig b.b0<|(bW) (fun d=>?_) (fun d=>?_)
    ·
     refine aO ?_;exact(br) (tG d) (b)
    refine(aU) aK b.b0<|(bW) (fun e=>?_) (fun e=>?_)
    ·
     refine aO ?_;exact(br) (tG (aj d e)) (b)
    refine(aU) aK b.b0<|(bW) (fun g=>?_) (fun g=>?_)
    ·
     exact(br) (tG (aj d<|aj e g)) (b)
    refine(aU) aK b.b0<|(bW) (fun m=>?_) (fun m=>?_)
    ·
     exact(br) (tG (aj d<|aj e<|aj g m)) (b)
    refine(aU) aK b.b0<|?_;exact(br) (tG (aj d<|aj e<|aj g m)) (b)
   intro w4 y;refine(aN) (fun z=>?_) fun z=>?_
   ·
    exact gu z
   refine(aU) ig y.b0<|cS ?_;refine WC.bd (σ:=Nat) (dm:=fun k=>[(0,.slice a r c),(3,.int .i64 (i:Int)),(13,.slice a r c),(14,.int .i64 (r:Int)),(15,.int .i64 (i:Int)),(50,.slice q1 j P),(51,.int .i64 (j:Int)),(52,.int .i64 (k:Int))]) (F:=fun k=>[]) (I:=fun k=>(k≤j)∧True) (μ:=fun k=>j - k) (0) (y) Sub.t (⟨by omega,trivial⟩)<|?_;rintro k w5 h ⟨hk,_⟩;simp only [CA,NA] at h hk ⊢;refine(aN) (fun o=>?_) fun o=>?_
   ·
    simp at o
    have D:k<aa[i].asks.length:=by omega
    obtain⟨S,T,U,H,_,rfl,J,_⟩:=(G.ext (St.cg h)).at (ai D);refine eP ?_;refine WP .r (PV.ei uf H rfl rfl (by omega))<|(aT) l6 J<|(ff) h fun V w6 W X K=>?_;refine(cD) AM K fun w7 Bc wQ p=>?_;refine(aT) l6 p.b0<|bz ?_;refine WL.c1 (u:=.bool true) (lV (k:=k) (x:=aa[i].asks[k]) (hr.ext (St.cg p)) E) (by rw [show ek aa i aa[i].ring k aa[i].asks[k]=true from O k _ (ai D)]) p fun Y s8 L=>?_;refine cL ?_;refine WC.kS rfl<|eP ?_;refine dY (k+1) ⟨L.drop,⟨by omega,trivial⟩⟩
   simp at o
   refine j8 ?_;refine dY (i+1) ⟨h.drop,⟨by omega,trivial⟩⟩
  simp at g16
  refine(bm) ?_;exact⟨rfl,(St.cg st1)⟩
 -- Dy mS C63
theorem yE(ht:gV prog A w) (hn:n≤65535):CR prog 84 #[.string (itoa (n:Int))] w (.int .i64 (n:Int)):=by
 refine enter func84 rfl ntmps84 rfl<|?_;have aR:=St.s0 w;refine(dH) (AU (n:=n) (by omega) w) aR fun w1 s1 st1=>?_;refine kQ ?_;refine WC.cI (t:=25) (v:=.bool false) st1 ?_<|?_
 ·
  refine bz ?_;refine WP .r (PV.NR ue rfl)<|nx ?_;refine WL.fE (t:=12) rfl (fun g12=>?_) (fun g12=>?_)
  ·
   refine aO ?_;exact(br) (tG g12) (st1)
  refine cX ?_;refine WL.fE (t:=16) rfl (fun g16=>?_) (fun g16=>?_)
  ·
   exact(br) (tG (aj g12 g16)) (st1)
  refine cX ?_;refine WL.fE (t:=20) rfl (fun g20=>?_) (fun g20=>?_)
  ·
   exact(br) (tG (aj g12<|aj g16 g20)) (st1)
  refine(dH) (iA (n:=(n:Int)) (ht.ext (St.cg st1)) (by omega) (by omega)) st1 fun w2 s2 st2=>?_;exact(br) (tG (aj g12<|aj g16 g20)) (st2)
 intro w2 st2;refine(aN) (fun b=>?_) fun b=>?_
 ·
  exact gu b
 refine(bm) ?_;exact⟨rfl,(St.cg st2)⟩
theorem yF(ht:gV prog A w) (g:s.size≤140737488355328) (b:∀n:Nat,n≤65535→s≠itoa (n:Int)):CR prog 84 #[.string s] w (.int .i64 0):=by
 refine enter func84 rfl ntmps84 rfl<|?_;have aR:=St.s0 w;refine(bL) Ij (BC (s:=s) (ht.ext (St.cg aR)) g) ?_;rintro _ w1 ⟨v,ok,ev,rfl,j,h,s1⟩;have st1:=aR.step s1;refine kQ ?_;refine WC.cI (t:=25) (v:=.bool true) st1 ?_<|?_
 ·
  refine bz ?_;refine WP .r (PV.NS ue rfl h)<|(bW) (fun g12=>?_) (fun g12=>?_)
  ·
   refine aO ?_;exact(br) (by first | (simp [g12];done) | (simp at g12 ⊢;intro e;exact b v.toNat (by omega) (by rw [show((v.toNat:Nat):Int)=v by omega];exact e.symm))) (st1)
  refine(bW) (fun g16=>?_) (fun g16=>?_)
  ·
   exact(br) (by first | (simp [g12,g16];done) | (simp at g12 g16 ⊢;intro e;exact b v.toNat (by omega) (by rw [show((v.toNat:Nat):Int)=v by omega];exact e.symm))) (st1)
  refine(bW) (fun g20=>?_) (fun g20=>?_)
  ·
   exact(br) (by first | (simp [g12,g16,g20];done) | (simp at g12 g16 g20 ⊢;intro e;exact b v.toNat (by omega) (by rw [show((v.toNat:Nat):Int)=v by omega];exact e.symm))) (st1)
  refine(dH) (iA (n:=v) (ht.ext (St.cg st1)) (by omega) (by omega)) st1 fun w2 s2 st2=>?_;exact(br) (by first | (simp [g12,g16,g20];done) | (simp at g12 g16 g20 ⊢;intro e;exact b v.toNat (by omega) (by rw [show((v.toNat:Nat):Int)=v by omega];exact e.symm))) (st2)
 intro w2 st2;refine(aN) (fun d=>?_) fun d=>?_
 ·
  refine(bm) ?_;exact⟨rfl,(St.cg st2)⟩
 exact gu d
theorem rO(ht:gV prog A w) (b:s.size≤140737488355328):CR prog 84 #[.string s] w (.int .i64 (cy s:Int)):=by
 by_cases h:∃n:Nat,n≤65535∧s=itoa (n:Int)
 ·
  obtain⟨n,hn,rfl⟩:=h;rw [eQ hn];exact yE ht hn
 have h0:∀n:Nat,n≤65535→s≠itoa (n:Int):=fun n hn e=>h ⟨n,hn,e⟩;rw [Fz h0];exact yF ht b h0
theorem vW{kd:Int}{l:List Nat}(hl:Ints A w a r c (l.map fun x:Nat=>(x:Int))) (g:∀x∈l,x≤65535) (hr:r≤1000):CR prog 86 #[.int .i64 kd,.slice a r c] w (.int .i64 (dG kd 0 l:Int)):=by
 have hle:=SR.le hl;have hlen:=SR.len hl;rw [List.length_map] at hlen;have m:∀i,∀x∈l.take i,x≤65535:=fun i x p=>g x (List.mem_of_mem_take p);refine enter func86 rfl ntmps86 rfl<|?_;have aR:=St.s0 w;refine aO ?_;refine kQ ?_;refine WC.bd (σ:=Nat) (dm:=fun i=>[(0,.int .i64 kd),(5,.int .i64 (rX 0 (l.take i):Int)),(6,.int .i64 (qT 0 (l.take i):Int)),(7,.int .i64 (eK 0 (l.take i):Int)),(10,.slice a r c),(11,.int .i64 (r:Int)),(12,.int .i64 (i:Int))]) (F:=fun i=>[]) (I:=fun i=>(i≤r)∧True) (μ:=fun i=>r - i) (0) (aR) Sub.t (⟨by omega,trivial⟩)<|?_;rintro i w1 st1 ⟨hi,_⟩;simp only [CA,NA] at st1 hi ⊢;refine(aN) (fun g13=>?_) fun g13=>?_
 ·
  simp at g13
  have h:i<l.length:=by omega
  have q:i<(l.map fun x:Nat=>(x:Int)).length:=by simpa using h
  have u:=su (c:=0) (m i);have v:=mA (c:=0) (by omega) (m i);have y:=kX (c:=0) (by omega) (m i);have E:=g l[i] (List.getElem_mem h)
  have G:(l.take i).length≤1000:=by rw [List.length_take];omega
  have e1:=wP (c:=0) h;have e2:=sT (c:=0) h;have e3:=sU (c:=0) h;refine cS ?_;obtain⟨H,J,K,z,_,rfl,o,_⟩:=(SR.ext hl (St.cg st1)).at (ai q);rw [List.getElem_map] at o;refine nx ?_;refine WP .r (PV.ei Df z rfl rfl (by omega))<|WP .r (PV.nI aK o rfl rfl)<|kQ ?_;refine WP .r (PV.Hj rfl rfl)<|bz ?_;refine WP .r (PV.orN rfl rfl (by omega) (by omega))<|j8 ?_;refine dY (i+1) ⟨st1,⟨by omega,trivial⟩⟩
 simp at g13
 have D:l.take i=l:=List.take_of_length_le (by omega);rw [D];have u:=su (c:=0) g;have v:=mA (c:=0) (by omega) g;have y:=kX (c:=0) (by omega) g
 have L:l.length≤1000:=by omega
 refine aO ?_;refine(aN) (fun b=>?_) fun b=>?_
 ·
  simp at b
  refine(bm) ?_;exact⟨by unfold dG;rw [if_pos b,Int.tmod_eq_emod_of_nonneg (by omega)];rfl,(St.cg st1)⟩
 simp at b
 refine(aN) (fun d=>?_) fun d=>?_
 ·
  simp at d
  refine cL ?_;refine WP .r (PV.quo rfl rfl (by omega) (by rw [Int.tdiv_eq_ediv_of_nonneg (by omega)];omega) (by rw [Int.tdiv_eq_ediv_of_nonneg (by omega)];omega))<|(bm) ?_;exact⟨by unfold dG;rw [if_neg b,if_pos d,Int.tdiv_eq_ediv_of_nonneg (by omega),Int.tmod_eq_emod_of_nonneg (by omega)];rfl,(St.cg st1)⟩
 simp at d
 refine(aN) (fun e=>?_) fun e=>?_
 ·
  simp at e
  refine(bm) ?_;exact⟨by unfold dG;rw [if_neg b,if_neg d,if_pos e],(St.cg st1)⟩
 simp at e
 refine(aN) (fun j=>?_) fun j=>?_
 ·
  simp at j
  refine(bm) ?_;exact⟨by unfold dG;rw [if_neg b,if_neg d,if_neg e,if_pos j,Int.tmod_eq_emod_of_nonneg (by omega)];rfl,(St.cg st1)⟩
 simp at j
 refine(bm) ?_;exact⟨by unfold dG;rw [if_neg b,if_neg d,if_neg e,if_neg j],(St.cg st1)⟩
set_option maxHeartbeats 1600000 in
theorem BD(ht:gV prog A w) (X:aq aa) (hi:i<aa.length) (hr:dX B w a r c aa) (hl:Strs C w a2 r2 e2 ae) (hsz:∀s∈ae,s.size≤140737488355328):CR prog 46 #[.slice a r c,(aD aa (i:Int)).val,.slice a2 r2 e2] w ((bQ aa (aD aa (i:Int)) ae).val):=by
 have GN:=X.len
 have gD:i≤99:=by omega
 have hle:=hr.le;have hlen:=hr.len;have uv:=hl.len;have uA:=hl.le
 obtain⟨kd,hkd,hk⟩:∃kd:Int,(kd=31∨kd=32)∧aD aa (i:Int)=⟨kd,itoa i⟩:=by
  unfold aD
  rw [if_neg (by omega)]
  cases h:ay aa i
  ·
   exact⟨31,.inl rfl,by simp [h]⟩
  exact⟨32,.inr rfl,by simp [h]⟩
 have O:=cv hi gD;obtain⟨abk,abn,ail⟩:=X.2 i _ (ai hi);have hcb:=aq.hb X _ (List.getElem_mem hi);obtain⟨g,Uk⟩:∃g:Nat,aa[i].c=g:=⟨aa[i].c.toNat,by omega⟩;obtain⟨b_x,o_x,Xq,vX,_,⟨q1,b,q3,rfl,AY⟩,IK,_⟩:=hr.at (ai hi);rw [Uk] at IK;have vN:=AY.len;rw [hk] at O ⊢;refine enter func46 rfl ntmps46 rfl<|?_;have aR:=St.s0 w;refine(dE) aR fun b4 w1 AX E4 st1=>?_;refine(ff) st1 fun b6 w2 Dr Is st2=>?_;refine(aT) ak st2.b1<|(dH) (iG (k:=(⟨kd,itoa i⟩:Key)) ⟨by simp only [];omega,by simp only [];omega⟩ rfl gD) st2 fun w3 s3 Y=>?_;refine cS ?_;refine WC.cI (t:=30) (v:=.bool false) Y ?_<|?_
 ·
  have hN2:=Y.cj;refine WC.cJ (m:=12) (E:=bK [(10,fun v _=>v=(aD aa (i:Int)).val)]) Y (aS (⟨fun _ _ _ _ _ _ _ h=>h,trivial⟩)) mixed (by kernel_rfl)<|cL ?_;refine DW.fE (t:=19) rfl (fun g19=>?_) (fun g19=>?_)
  ·
   refine(cG) ?_;rintro w4 ⟨sg,D⟩ _;exact(br) (by first | rfl | (simp [g19,hk];done) | (simp [g19,hk];omega) | (simp only [g19];done) | (simp only [g19];rfl) | (simp [g19];done) | (simp;done) | (simp at g19 ⊢ <;> omega) | (simp <;> omega) | (simp [g19] <;> omega) | (simp at g19 <;> omega)) (D)
  refine(gT) aK St.g1<|cL ?_;refine DW.fE (t:=24) rfl (fun g24=>?_) (fun g24=>?_)
  ·
   refine(cG) ?_;rintro w4 ⟨sg,D⟩ _;exact(br) (by first | rfl | (simp [g19,g24,hk];done) | (simp [g19,g24,hk];omega) | (simp only [g19,g24];done) | (simp only [g19,g24];rfl) | (simp [g19,g24];done) | (simp;done) | (simp at g19 g24 ⊢ <;> omega) | (simp <;> omega) | (simp [g19,g24] <;> omega) | (simp at g19 g24 <;> omega)) (D)
  refine bz ?_;refine DW.c0 (fun wx hC hF=>jE (n:=(i:Int)) (hr.ext (St.cg hC.2)))<|(gx) ak St.g1<|(cG)<|?_;rintro w4 ⟨sg,D⟩ ⟨_,_⟩;refine WP .r (PV.Hg ft (p:=aD aa (i:Int)) (q:=(⟨kd,itoa i⟩:Key)) rfl rfl)<|?_;exact(br) (by first | rfl | (simp [g19,g24,hk];done) | (simp [g19,g24,hk];omega) | (simp only [g19,g24];done) | (simp only [g19,g24];rfl) | (simp [g19,g24];done) | (simp;done) | (simp at g19 g24 ⊢ <;> omega) | (simp <;> omega) | (simp [g19,g24] <;> omega) | (simp at g19 g24 <;> omega)) (D)
 intro w4 D;refine(aN) (fun Rr=>?_) fun Rr=>?_
 ·
  exact gu Rr
 refine gw ?_;refine WP .r (PV.B5 gZ (i:=i) vX rfl rfl (by omega) (by omega))<|(aT) nY (aV IK (St.cg D) (by simp))<|(ff) D fun b8 w5 Js Uo jD=>?_;refine(cD) ym jD fun w6 ko ly K=>?_;refine aO ?_;refine(aU) ig K.b0<|(aN) (fun Gr=>?_) fun Gr=>?_
 ·
  simp at Gr
  have hn:r2<aa[i].asks.length:=by omega
  have z:=ny (ae:=ae) O hi (by rw [O];exact hk) (show ae.length<aa[i].asks.length by omega);simp only [← uv] at z
  have Xr:r2=0→aa[i].asks[r2].pick=false:=fun h0=>by
   have:=abn r2 _ (ai hn)
   cases hp:aa[i].asks[r2].pick
   ·
    rfl
   unfold ek at this
   rw [hp] at this
   simp [h0] at this
  refine nx ?_;obtain⟨b_y,o_y,r_y,P5,_,rfl,P6,_⟩:=(AY.ext (St.cg K)).at (ai hn);refine(aU) ig K.b0<|nx ?_;refine WP .r (PV.ei uf P5 rfl rfl (by omega))<|(aT) l6 P6<|(ff) K fun Rp w7 Gu Gv P=>?_;refine(cD) AM P fun w8 r8 mr o=>?_;refine(aU) aK o.b0<|cS ?_;refine WC.cI (t:=65) (v:=.bool (eT aa[i].asks[r2] ae)) o ?_<|?_
  ·
   refine(aU) dM o.b0<|nx ?_;refine WL.fE (t:=52) rfl (fun U=>?_) (fun U=>?_)
   ·
    refine cX ?_;refine WL.fE (t:=56) rfl (fun LF=>?_) (fun LF=>?_)
    ·
     simp at LF
     obtain⟨b_z,o_z,r_z,abo,_,rfl,abp,_⟩:=(hl.ext (St.cg o)).at (ai (show r2 - 1<ae.length by omega))
     have vI:eT aa[i].asks[r2] ae=decide ((cy ae[r2 - 1]:Int).tmod 2=0):=by
      unfold eT
      simp only [U,← uv,Bool.true_and];rw [decide_eq_false (by omega),Bool.false_or,getElem!_pos ae (r2 - 1) (by omega),Int.tmod_eq_emod_of_nonneg (by omega)]
      congr 1
      exact propext ⟨fun h=>by omega,fun h=>by omega⟩
     refine cL ?_;refine WP .r (PV.B5 vL (i:=r2 - 1) abo rfl rfl (by omega) (by omega))<|WP .r (PV.nI eY abp rfl rfl)<|(dH) (rO (s:=ae[r2 - 1]) (ht.ext (St.cg o)) (hsz _ (List.getElem_mem _))) o fun w9 s9 d=>?_;exact(br) (by rw [vI]) (d)
    exact absurd (Xr (by simp at LF;omega)) (by simp [U])
   have vI:eT aa[i].asks[r2] ae=false:=by unfold eT;rw [U];rfl
   refine aO ?_;exact(br) (by rw [vI]) (o)
  intro w9 d;refine(aN) (fun P7=>?_) fun P7=>?_
  ·
   have Q:oj aa[i].asks[r2] ae=aa[i].asks[r2].Cj:=by unfold oj;rw [if_pos P7]
   refine(aU) aK d.b0<|(aU) dM d.b0<|(aN) (fun J=>?_) fun J=>?_
   ·
    rw [Q,if_pos J] at z;refine(dH) (rM) d fun S V y=>?_;refine WP .r (PV.bs (us:=[.bool false,.string ⟨#[]⟩,.int .i64 (bH _).kind,.string (bH _).text]) pq rfl rfl rfl)<|(cD) hY y.p2 fun T Bc wQ e=>?_;refine(ky) iT e.b0<|?_;rw [z];exact⟨rfl,(St.cg e)⟩
   rw [Q,if_neg (by simp [J])] at z;refine(dH) (jE (hr.ext (St.cg d))) d fun S V y=>?_;refine WP .r (PV.bs (us:=[.bool false,.string ⟨#[]⟩,.int .i64 (aD aa _).kind,.string (aD aa _).text]) pq rfl rfl rfl)<|(cD) hY y.p2 fun T Lg Lh e=>?_;refine(ky) iT e.b0<|?_;rw [z];exact⟨rfl,(St.cg e)⟩
  have Q:oj aa[i].asks[r2] ae=aa[i].asks[r2].n:=by unfold oj;rw [if_neg (by simp [P7])]
  refine(aU) dM d.b0<|(aN) (fun J=>?_) fun J=>?_
  ·
   rw [Q,if_pos J] at z;refine(dH) (rM) d fun S V y=>?_;refine WP .r (PV.bs (us:=[.bool false,.string ⟨#[]⟩,.int .i64 (bH _).kind,.string (bH _).text]) pq rfl rfl rfl)<|(cD) hY y.p2 fun T JB Cs e=>?_;refine(ky) iT e.b0<|?_;rw [z];exact⟨rfl,(St.cg e)⟩
  rw [Q,if_neg (by simp [J])] at z;refine(dH) (jE (hr.ext (St.cg d))) d fun S V y=>?_;refine WP .r (PV.bs (us:=[.bool false,.string ⟨#[]⟩,.int .i64 (aD aa _).kind,.string (aD aa _).text]) pq rfl rfl rfl)<|(cD) hY y.p2 fun T Rl Rm e=>?_;refine(ky) iT e.b0<|?_;rw [z];exact⟨rfl,(St.cg e)⟩
 simp at Gr
 have z:=nv (ae:=ae) O hi (by rw [O];exact hk) (show aa[i].asks.length≤ae.length by omega);rw [← vN,Uk,Int.toNat_natCast] at z
 have MN:∀x∈(ae.take b).map cy,x≤65535:=fun x G=>by obtain⟨s,_,rfl⟩:=List.mem_map.1 G;exact ke s
 have hfl:=nt (kind:=aa[i].final) (c:=g) (l:=(ae.take b).map cy) (by omega) MN
 have hll:((ae.take b).map cy).length=b:=by rw [List.length_map,List.length_take];omega
 refine(aU) aK K.b0<|?_;refine WL.go rfl (OX.aP (us:=[.int .i64 (g:Int)]) H4 rfl rfl rfl rfl fun b79 w7 U9 abq=>?_);have P:=St.vB (R:=RR.int) (E:=3) (k:=1) (a:=some ⟨b79,0,none⟩) (n:=1) (c:=1) (xs:=[(g:Int)]) K U9.ext (OR.dn abq (Nat.zero_le _) rfl (by simp [Value.oneCell']) rfl) (fun x G=>by simp [aG] at G;subst G;exact U9.ge);refine(aU) ig P.b1<|nx ?_;refine WP .r (PV.sQ vL (hl.ext (St.cg P)) rfl rfl (by omega))<|cS ?_;refine WC.bd (σ:=Nat × (Option Addr) × Nat × Nat) (dm:=fun(j,L,H,N)=>[(6,.pointer (some ⟨b6,0,none⟩)),(8,.pointer (some ⟨b8,0,none⟩)),(12,.slice L H N),(84,.slice a2 b e2),(85,.int .i64 (b:Int)),(86,.int .i64 (j:Int))]) (F:=fun(j,L,H,N)=>[As.os RR.int 3 1 L H N ((((g::((ae.take b).map cy).take j)).map fun x:Nat=>(x:Int)))]) (I:=fun(j,L,H,N)=>(j≤b)∧True) (μ:=fun(j,L,H,N)=>b - j) (0,(some ⟨b79,0,none⟩),1,1) (P) Sub.t (⟨by omega,trivial⟩)<|?_;rintro⟨j,L,H,N⟩ w8 o ⟨hj,_⟩;simp only [CA,NA] at o hj ⊢;have r7:=((As.gs o.g0)).len
 have DF:H≤1+j:=by have h0:=r7;simp at h0;omega
 refine(aN) (fun E1=>?_) fun E1=>?_
 ·
  simp at E1
  have Bq:j<ae.length:=by omega
  obtain⟨b_u,o_u,r_u,abr,_,rfl,abt,_⟩:=(hl.ext (St.cg o)).at (ai Bq);refine gw ?_;refine WP .r (PV.ei vL abr rfl rfl (by omega))<|WP .r (PV.nI eY abt rfl rfl)<|(dH) (rO (s:=ae[j]) (ht.ext (St.cg o)) (hsz _ (List.getElem_mem _))) o fun w9 s9 d=>?_;refine WL.go rfl (OX.aP (us:=[.int .i64 (cy ae[j]:Int)]) H4 rfl rfl rfl rfl fun b93 S abu abv=>?_);have y:=d.dy abu abv;refine WL.ap rfl rfl y.p1 (SR.dn (A:=fun _=>True) (x:=((cy ae[j]:Nat):Int)) (As.gb y.g0) trivial rfl (by simp [Value.oneCell']) rfl) fun a94 abw T aio aip e=>?_;refine bz ?_;have W:=e.WG (show(((((g::((ae.take b).map cy).take j)).map fun x:Nat=>(x:Int)))++[((cy ae[j]:Nat):Int)])=(((g::((ae.take b).map cy).take (j+1))).map fun x:Nat=>(x:Int)) by rw [List.take_succ_eq_append_getElem (by omega),← List.cons_append,List.map_append,List.getElem_map,List.getElem_take];rfl);refine gw ?_;refine dY (j+1,a94,(H+1),abw) ⟨W.p1.drop,⟨by omega,trivial⟩⟩
 simp at E1
 have hje:((ae.take b).map cy).take j=(ae.take b).map cy:=List.take_of_length_le (by omega);have d:=o.WG (show(((g::((ae.take b).map cy).take j)).map fun x:Nat=>(x:Int))=(((g::(ae.take b).map cy)).map fun x:Nat=>(x:Int)) by rw [hje]);refine(aU) aK d.b1<|nx ?_;refine WL.c1 (u:=.int .i64 ((dG aa[i].final g ((ae.take b).map cy)):Int)) (vW (kd:=aa[i].final) (l:=g::(ae.take b).map cy) (Ow.rd (As.gs d.g0) (by simp;omega)) (fun x G=>by rcases List.mem_cons.1 G with rfl | G;omega;exact MN x G) (by omega)) (by rw [Ae]) d fun w9 s9 y=>?_;refine(dH) (iA (n:=((dG aa[i].final g ((ae.take b).map cy)):Int)) (ht.ext (St.cg y)) (by omega) (by omega)) y fun S V e=>?_;refine WP .r (PV.bs (us:=[.bool true,.string (itoa ((dG aa[i].final g ((ae.take b).map cy)):Int)),.int .i64 0,.string ⟨#[]⟩]) pq rfl rfl rfl)<|(cD) hY e.p2 fun T Rn Ro W=>?_;refine(ky) iT W.b0<|?_;rw [z];exact⟨rfl,(St.cg W)⟩
theorem kO(ht:gV prog A w) (d:aq aa) (hi:i<aa.length) (hr:dX B w a r c aa) (hl:Strs C w a2 r2 e2 ae) (hsz:∀s∈ae,s.size≤140737488355328):CR prog 22 #[.slice a r c,(aD aa (i:Int)).val,.slice a2 r2 e2] w ((bQ aa (aD aa (i:Int)) ae).val):=by
 have j:=d.len;have g:=dP hi (by omega);refine enter func22 rfl ntmps22 rfl<|?_;have aR:=St.s0 w;refine(dE) aR fun b4 w1 m o st1=>?_;refine(ff) st1 fun p w2 q t st2=>?_;refine(aT) ak st2.b1<|?_;refine WL.c1 (u:=.bool true) (iX (k:=aD aa (i:Int))) (by rw [show(decide ((aD aa (i:Int)).kind=31) || decide ((aD aa (i:Int)).kind=32))=true by(rw [g];split <;> simp)]) st2 fun w3 s3 b=>?_;refine cL ?_;refine WC.sE rfl<|(aT) ak b.b1<|(dH) (BD (ht.ext (St.cg b)) d hi (hr.ext (St.cg b)) (hl.ext (St.cg b)) hsz) b fun w4 v h=>?_;refine(cD) hY h fun w5 y z e=>?_;refine(ky) iT e.b0<|?_;exact⟨rfl,(St.cg e)⟩
theorem pE(hk:k.kind=32):CR prog 19 #[k.val] w (.string ⟨#[48]⟩):=by
 refine enter func19 rfl ntmps19 rfl<|?_;have aR:=St.s0 w;refine(dE) aR fun b1 w1 b d st1=>?_;refine(aU) aK st1.b0<|(aN) (fun g3=>?_) fun g3=>?_
 ·
  skip
  refine(bm) ?_;exact⟨rfl,(St.cg st1)⟩
 exact absurd g3 (by simp [hk])
theorem vY(hi:i<aa.length) (gD:i≤99) (hr:dX B w a r c aa):CR prog 69 #[.slice a r c,(aD aa (i:Int)).val] w (.bool true):=by
 have g:=dP hi gD
 have j:(aD aa (i:Int)).text=itoa i:=by unfold aD;rw [if_neg (by omega)]
 have o:30≤(aD aa (i:Int)).kind∧(aD aa (i:Int)).kind≤32:=by rw [g];split <;> omega
 refine enter func69 rfl ntmps69 rfl<|?_;have aR:=St.s0 w;refine(dE) aR fun b3 w1 t y st1=>?_;refine cX ?_;have z:=st1.cj;refine WC.cJ (m:=12) (E:=bK [(1,fun v _=>v=.bool true),(4,fun v _=>v=.bool true),(9,fun v _=>v=.int .i64 (i:Int)),(10,fun v _=>v=(aD aa (i:Int)).val)]) st1 (aS (⟨fun _ _ _ _ _ _ _ h=>h,⟨fun _ _ _ _ _ _ _ h=>h,⟨fun _ _ _ _ _ _ _ h=>h,⟨fun _ _ _ _ _ _ _ h=>h,trivial⟩⟩⟩⟩)) mixed (by kernel_rfl)<|(gx) ak St.g0<|?_;refine DW.c0 (fun d b e=>gB (k:=aD aa (i:Int)) o j gD)<|(gx) ak St.g0<|?_;refine DW.c1 (u:=.bool true) (fun d b e=>iX (k:=aD aa (i:Int))) (by rw [show(decide ((aD aa (i:Int)).kind=31) || decide ((aD aa (i:Int)).kind=32))=true by(rw [g];split <;> simp)])<|(gx) ak St.g0<|?_;refine DW.c0 (fun d b e=>iG (k:=aD aa (i:Int)) o j gD)<|?_;refine DW.c0 (fun d b e=>jE (n:=(i:Int)) (hr.ext (St.cg b.2)))<|(gx) ak St.g0<|(cG)<|?_;rintro w2 ⟨D,st2⟩ ⟨_,⟨_,⟨_,⟨_,_⟩⟩⟩⟩;refine WP .r (PV.Fg ft (p:=aD aa (i:Int)) (q:=aD aa (i:Int)) rfl rfl)<|(bm) ?_;exact⟨by simp,(St.cg st2)⟩
set_option maxHeartbeats 400000
theorem vZ{xs:List Key}(m:St w M Z w []) (hl:Rd RR.key 2 Z w a n c xs) (q:xs.length≤1000000):Calls prog 75 #[.slice a n c] w fun e w'=>∃d g h,e=.returned (.slice d g h)∧St w M Z w' [As.os RR.key 29 2 d g h xs]:=by
 have hlen:=hl.len;refine enter func75 rfl ntmps75 rfl<|?_;have aR:=m;have st1:=aR.fr hl;refine(aN) (fun g4=>?_) fun g4=>?_
 ·
  simp at g4
  subst g4;have b:=hl.Hu;subst b;have st2:=st1.df RR.key 29 2;refine(bm) ?_;exact⟨none,0,0,rfl,st2.p1.drop⟩
 refine cX ?_;refine WL.go rfl (OX.JX Mm YB rfl fun b5 w1 j o=>?_);have st2:=St.vB (R:=RR.key) (E:=29) (k:=2) (a:=some ⟨b5,0,none⟩) (n:=0) (c:=0) (xs:=[]) st1 j.ext (OR.X6 o (Nat.zero_le _)) (fun x b=>by simp [aG] at b;subst b;exact j.ge);refine nx ?_;refine WL.ap rfl rfl st2 ((As.gr st2.g1)) fun t u w2 v y p=>?_;refine(bm) ?_;exact⟨_,_,_,rfl,p.p1.drop⟩
theorem oc{p:Rec→Bool}(g:CF prog f) (hl:Rd RR.ed 8 Z w a n c l) (m:∀w1,aQ [] w w1→∀x∈l,∀a n c,Rd RR.key 2 Z w1 a n c x.reads→Calls prog f #[.agg (x.row a n c).toArray,cap] w1 fun e w'=>e=.returned (.bool (p x))∧aQ [] w1 w'):Calls prog 192 #[.slice a n c,.func (.func f) #[] #[cap]] w fun e w'=>∃j:Int,e=.returned (.int .i64 j)∧Ad l p j∧aQ [] w w':=by
 have hlen:=hl.len;have hle:=hl.le;refine enter func192 rfl ntmps192 rfl<|?_;have aR:=St.s0 w;refine aO ?_;refine bz ?_;refine WC.bd (σ:=Nat) (dm:=fun i=>[(0,.slice a n c),(1,.func (.func f) #[] #[cap]),(7,.int .i64 (n:Int)),(8,.int .i64 (i:Int))]) (F:=fun i=>[]) (I:=fun i=>(i≤n)∧(∀j x,j<i→l[j]?=some x→p x=false)∧True) (μ:=fun i=>n - i) (0) (aR) Sub.t (⟨by omega,fun j x h=>by omega,trivial⟩)<|?_;rintro i w1 st1 ⟨hi,b,_⟩;simp only [CA,NA] at st1 hi b ⊢;refine(aN) (fun g9=>?_) fun g9=>?_
 ·
  simp at g9
  have d:i<l.length:=by omega
  refine o5 ?_;obtain⟨E,G,H,o,J,q,u,K⟩:=Rd.at hl d;obtain⟨q1,L,N,rfl,v,O⟩:=q;refine cX ?_;refine WP .r (PV.ei iy o rfl rfl (by omega))<|(aT) dA (aV u (St.cg st1) (by simp))<|?_;refine WL.go rfl (OX.zC g rfl rfl rfl ((Calls.cap (m _ (St.cg st1) l[i] (List.getElem_mem d) _ _ _ (v.ext (St.cg st1)))).mono ?_));rintro _ w2 ⟨rfl,s2⟩;refine⟨_,rfl,?_⟩;have st2:=st1.step s2;refine(aN) (fun g16=>?_) fun g16=>?_
  ·
   refine(bm) ?_;exact⟨_,rfl,.inl ⟨i,_,ai d,g16,b,rfl⟩,(St.cg st2)⟩
  have g16:p l[i]=false:=by simpa using g16
  refine eP ?_;refine dY (i+1) ⟨st2,⟨by omega,bO d b (by simpa using g16),trivial⟩⟩
 simp at g9
 have y:∀x∈l,p x=false:=fun x z=>by obtain⟨j,D,rfl⟩:=List.getElem_of_mem z;exact b j _ (by omega) (ai D)
 refine(bm) ?_;exact⟨_,rfl,.inr ⟨y,rfl⟩,(St.cg st1)⟩
theorem qB{p:Rec→Bool}(d:CF prog f) (hl:Rd RR.ed 8 Z w a n c l) (g:∀w1,aQ [] w w1→∀x∈l,∀a n c,Rd RR.key 2 Z w1 a n c x.reads→Calls prog f #[.agg (x.row a n c).toArray,cap] w1 fun e w'=>e=.returned (.bool (p x))∧aQ [] w1 w') (h:∀x∈l,p x=false):CR prog 116 #[.slice a n c,.func (.func f) #[] #[cap]] w (.bool false):=by
 refine enter func116 rfl ntmps116 rfl<|?_;have aR:=St.s0 w;refine(bL) Mv (oc (w:=w) d (hl.ext (St.cg aR)) (fun w1 h1=>g w1 (aQ.trans (St.cg aR) h1))) ?_;rintro _ w1 ⟨j,rfl,m,s1⟩;have st1:=aR.step s1
 have o:j = -1:=by rcases m with⟨i,x,h1,b,_⟩ | ⟨_,b⟩;exact absurd b (by simp [h x (List.mem_of_getElem? h1)]);exact b
 subst o;refine(bm) ?_;exact⟨by simp,(St.cg st1)⟩
theorem ll{r:Rec}{b:Nat}(hb:cC w b 25 (x.row a1 n1 e1 a2 n2 e2)):CR prog 117 #[.agg (r.row a n c).toArray,.pointer (some ⟨b,0,none⟩)] w (.bool (decide (x.ab<r.av))):=by
 refine enter func117 rfl ntmps117 rfl<|?_;have aR:=St.s0 w;refine(dE) aR fun b2 w1 d e st1=>?_;refine(aU) aK st1.b0<|(aU) aK (cC.range (hb.ext (St.cg st1)))<|(bm) ?_;exact⟨rfl,(St.cg st1)⟩
set_option maxHeartbeats 400000
theorem v7{l:List bU}{p:bU→Bool}(m:CF prog f) (hl:Rd RR.az 4 Z w a n c l) (o:∀w1,aQ [] w w1→∀x∈l,Calls prog f #[.agg x.cells.toArray,cap] w1 fun e w'=>e=.returned (.bool (p x))∧aQ [] w1 w'):Calls prog 193 #[.slice a n c,.func (.func f) #[] #[cap]] w fun e w'=>∃j:Int,e=.returned (.int .i64 j)∧Ad l p j∧aQ [] w w':=by
 have hlen:=hl.len;have hle:=hl.le;refine enter func193 rfl ntmps193 rfl<|?_;have aR:=St.s0 w;refine aO ?_;refine bz ?_;refine WC.bd (σ:=Nat) (dm:=fun i=>[(0,.slice a n c),(1,.func (.func f) #[] #[cap]),(7,.int .i64 (n:Int)),(8,.int .i64 (i:Int))]) (F:=fun i=>[]) (I:=fun i=>(i≤n)∧(∀j x,j<i→l[j]?=some x→p x=false)∧True) (μ:=fun i=>n - i) (0) (aR) Sub.t (⟨by omega,fun j x h=>by omega,trivial⟩)<|?_;rintro i w1 st1 ⟨hi,b,_⟩;simp only [CA,NA] at st1 hi b ⊢;refine(aN) (fun g9=>?_) fun g9=>?_
 ·
  simp at g9
  have d:i<l.length:=by omega
  refine o5 ?_;obtain⟨D,E,G,q,H,g,u,J⟩:=Rd.at hl d;have g:=RR.bN g;subst g;refine cX ?_;refine WP .r (PV.ei pr q rfl rfl (by omega))<|(aT) lj (aV u (St.cg st1) (by simp))<|?_;refine WL.go rfl (OX.zC m rfl rfl rfl ((Calls.cap (o _ (St.cg st1) l[i] (List.getElem_mem d))).mono ?_));rintro _ w2 ⟨rfl,s2⟩;refine⟨_,rfl,?_⟩;have st2:=st1.step s2;refine(aN) (fun g16=>?_) fun g16=>?_
  ·
   refine(bm) ?_;exact⟨_,rfl,.inl ⟨i,_,ai d,g16,b,rfl⟩,(St.cg st2)⟩
  have g16:p l[i]=false:=by simpa using g16
  refine eP ?_;refine dY (i+1) ⟨st2,⟨by omega,bO d b (by simpa using g16),trivial⟩⟩
 simp at g9
 have v:∀x∈l,p x=false:=fun x y=>by obtain⟨j,z,rfl⟩:=List.getElem_of_mem y;exact b j _ (by omega) (ai z)
 refine(bm) ?_;exact⟨_,rfl,.inr ⟨v,rfl⟩,(St.cg st1)⟩
theorem v8{x:bU}{b:Nat}(hb:cC w b 29 k.cells):CR prog 194 #[.agg x.cells.toArray,.pointer (some ⟨b,0,none⟩)] w (.bool (decide (x.key=k))):=by
 refine enter func194 rfl ntmps194 rfl<|?_;have aR:=St.s0 w;refine(dE) aR fun b2 w1 d e st1=>?_;refine(il) ak st1.b0<|(aT) ak (cC.range (hb.ext (St.cg st1)))<|?_;refine WP .r (PV.Fg ft (p:=x.key) (q:=k) rfl rfl)<|(bm) ?_;exact⟨rfl,(St.cg st1)⟩
theorem yG(hi:Rd RR.az 4 Z w a1 n1 e1 x.ad):Calls prog 119 #[.agg (x.row a1 n1 e1 a2 n2 e2).toArray,k.val] w fun e w'=>∃y:bU,e=.returned (.agg y.cells.toArray)∧y.value=(bE x.ad k).value∧y.changed=(bE x.ad k).changed∧aQ [] w w':=by
 have hlen:=hi.len;have hle:=hi.le;refine enter func119 rfl ntmps119 rfl<|?_;have aR:=St.s0 w;refine(dE) aR fun b2 w1 K L st1=>?_;refine(dE) st1 fun b3 w2 N O st2=>?_;refine(ff) st2 fun b4 w3 P Q m=>?_;refine(aU) ji m.b2<|?_;refine WP .r (PV.func (us:=[]) (vs:=[.pointer (some ⟨b3,0,none⟩)]) rfl rfl)<|(bL) T3 (v7 (p:=fun x=>decide (x.key=k)) T4 (hi.ext (St.cg m)) (fun w1 h1 y _=>v8 ((As.gb m.g1).ext h1))) ?_;rintro _ w4 ⟨j,rfl,o,v⟩;have q:=m.step v;refine(aN) (fun g11=>?_) fun g11=>?_
 ·
  simp at g11
  have z:∀y∈x.ad,(decide (y.key=k))=false:=by rcases o with⟨i,y,_,_,_,h⟩ | ⟨h,_⟩;omega;exact h
  have b:x.ad.find? (fun x=>x.key == k)=none:=sV (i:=x.ad.length) (Nat.le_refl _) (fun j x _ d=>by simpa using z x (List.mem_of_getElem? d));refine(cD) yn q fun w5 R S g=>?_;refine(ky) lj g.b0<|?_;exact⟨⟨eS,⟨#[]⟩,0⟩,rfl,by unfold bE;rw [b];rfl,by unfold bE;rw [b];rfl,(St.cg g)⟩
 simp at g11
 obtain⟨i,y,d,D,E,rfl⟩:∃i:Nat,∃y,x.ad[i]?=some y∧decide (y.key=k)=true∧(∀j y,j<i→x.ad[j]?=some y→(y.key == k)=false)∧j=i:=by
  rcases o with⟨i,y,h1,F,G,H⟩ | ⟨_,h⟩
  ·
   exact⟨i,y,h1,F,fun j y o d=>by simpa using G j y o d,H⟩
  omega
 obtain⟨u,rfl⟩:=List.getElem?_eq_some_iff.1 d;have b:x.ad.find? (fun x=>x.key == k)=some x.ad[i]:=kf u E (by simpa using D);refine cL ?_;obtain⟨T,U,V,I,W,t,J,X⟩:=Rd.at hi u;have t:=RR.bN t;subst t;refine(aU) ji q.b2<|nx ?_;refine WP .r (PV.ei pr I rfl rfl (by omega))<|(aT) lj (aV J (St.cg q) (by simp))<|(cD) yn q fun w5 Y mr g=>?_;refine(ky) lj g.b0<|?_;exact⟨x.ad[i],rfl,by unfold bE;rw [b];rfl,by unfold bE;rw [b];rfl,(St.cg g)⟩
theorem BE(hi:Rd RR.az 4 Z w a1 n1 e1 x.ad) (hr:Rd RR.ed 8 Z w a2 n2 e2 x.ah):CR prog 70 #[.agg (x.row a1 n1 e1 a2 n2 e2).toArray,k.val] w (.string (bE x.ad k).value):=by
 refine enter func70 rfl ntmps70 rfl<|?_;have aR:=St.s0 w;refine(dE) aR fun b2 w1 d e st1=>?_;refine(dE) st1 fun b3 w2 g h st2=>?_;refine(aT) aJ st2.b1<|(aT) ak st2.b0<|(bL) TL (yG (k:=k) (hi.ext (St.cg st2))) ?_;rintro _ w3 ⟨y,rfl,hy,_,s3⟩;have b:=st2.step s3;refine WP .r (PV.Cv (fs:=[_,_,_]) (f:=1) (off:=2) (T:=90) underlying90 rfl rfl (show ∀w,(isAgg 9).run _ w=.ok false w from isAgg9) rfl rfl)<|(bm) ?_;exact⟨by rw [← hy],(St.cg b)⟩
set_option maxHeartbeats 400000
theorem iY{ar:Option Addr}{cr c1 c2:Nat}(b:St w M Z w []):Calls prog 31 #[.slice ar r cr,.agg (x.row a1 n1 c1 a2 n2 c2).toArray] w fun e w'=>∃s m q,e=.returned (.pointer (some ⟨s,0,none⟩))∧St w M Z w' [As.blk s 109 (SD.cells ⟨ar,a1,a2,r,cr,n1,c1,n2,c2,m,q,s⟩ x),As.map Key.val m [],As.map Key.val q []]:=by
 refine enter func31 rfl ntmps31 rfl<|?_;have aR:=b;refine(dE) aR fun b3 w1 o p st1=>?_;refine(aT) aJ st1.b0<|?_;refine WL.mm Key.val st1 fun d w2 t u st2=>?_;refine WL.mm Key.val st2 fun g w3 v y h=>?_;refine WP .r (PV.bs (us:=(SD.cells ⟨ar,a1,a2,r,cr,n1,c1,n2,c2,d,g,0⟩ x)) S4 rfl rfl rfl)<|(dE) h fun z w4 D E j=>?_;refine(bm) ?_;exact⟨_,_,_,rfl,j.p3.drop.p2.p1⟩
end Go.Rc

