/- Walks over the program, part WUa. Conditions: as each theorem says. -/
import Derived.Test.YtilldnlhckpbjaaGreatDoorEFacts
import Derived.Test.YtilldnlhckpbjaaGreatDoorEWU
import Derived.Test.YtilldnlhckpbjaaGreatDoorEBf
import Derived.Test.YtilldnlhckpbjaaGreatDoorEWB
import Derived.Test.YtilldnlhckpbjaaGreatDoorEBh
import Derived.Test.YtilldnlhckpbjaaGreatDoorShelf
import Derived.Test.YtilldnlhckpbjaaGreatDoorEWLibE
import Derived.Test.YtilldnlhckpbjaaGreatDoorEBd
import Derived.Test.YtilldnlhckpbjaaGreatDoorEWP
set_option linter.all false
namespace Go.Rc
open Go Go.Proofs Go.Proofs.Tryz
variable {n c n1 e1 n2 e2:Nat}{w:World}{a a1 a2:Option Addr}{aa:List aD}{k:Key}{l:List Key}{f:FuncId}{Z M:Nat→Prop}{x:cW}{D:SD}
set_option maxHeartbeats 400000
theorem sz{n:Int} :CR prog 169 #[.int .i64 n] w (.bool false):=by
 refine enter func169 rfl ntmps169 rfl<|?_;have aR:=St.s0 w;refine aQ ?_;refine(bF) ?_;exact⟨by simp,(St.cg aR)⟩
theorem wa{a b:Int} :CR prog 127 #[.int .i64 a,.int .i64 b] w (.int .i64 (sT a b)):=by
 refine enter func127 rfl ntmps127 rfl<|?_;have aR:=St.s0 w;refine(fw) (sz) aR fun w1 s1 st1=>?_;refine(fw) (sz) st1 fun w2 s2 st2=>?_;refine pU ?_;refine WC.fA rfl<|jg ?_;refine WC.fA rfl<|(aT) (fun g16=>?_) fun g16=>?_
 ·
  simp at g16
  refine(bF) ?_;exact⟨by unfold sT;rw [if_pos g16],(St.cg st2)⟩
 simp at g16
 refine(aT) (fun g19=>?_) fun g19=>?_
 ·
  simp at g19
  refine(bF) ?_;exact⟨by unfold sT;rw [if_neg (by omega),if_pos g19],(St.cg st2)⟩
 simp at g19
 refine(bF) ?_;exact⟨by unfold sT;rw [if_neg (by omega),if_neg (by omega)],(St.cg st2)⟩
theorem we{l:List Int}{A:Nat→Prop}(hl:Ints A w a n c l):CR prog 126 #[.slice a n c] w (.int .i64 (KA l)):=by
 have hle:=SR.le hl;have hlen:=SR.len hl;refine enter func126 rfl ntmps126 rfl<|?_;have aR:=St.s0 w;refine aQ ?_;refine eX ?_;refine WC.bm (σ:=Nat) (db:=fun i=>[(3,.int .i64 0),(6,.slice a n c),(7,.int .i64 (n:Int)),(8,.int .i64 (i:Int))]) (F:=fun i=>[]) (I:=fun i=>(i≤n)∧(∀j x,j<i→l[j]?=some x→x=0)∧True) (μ:=fun i=>n - i) (0) (aR) Sub.t (⟨by omega,fun j x h=>by omega,trivial⟩)<|?_;rintro i w1 st1 ⟨hi,b,_⟩;simp only [CA,NA] at st1 hi b ⊢;refine(aT) (fun g9=>?_) fun g9=>?_
 ·
  simp at g9
  have d:i<l.length:=by omega
  obtain⟨p,q,s,e,_,rfl,g,_⟩:=(SR.ext hl (St.cg st1)).at (ae d);refine fY ?_;refine WP .r (PV.dO Ad e rfl rfl (by omega))<|WP .r (PV.ki aL g rfl rfl)<|(aT) (fun g14=>?_) fun g14=>?_
  ·
   simp at g14
   refine(bF) ?_;exact⟨by rw [KB d b g14],(St.cg st1)⟩
  simp at g14
  refine eX ?_;refine eb (i+1) ⟨st1,⟨by omega,cp d b (by simpa using g14),trivial⟩⟩
 simp at g9
 refine(bF) ?_;exact⟨by rw [G9 (fun x m=>by obtain⟨j,o,rfl⟩:=List.mem_iff_getElem.1 m;exact b j _ (by omega) (ae o))],(St.cg st1)⟩
theorem nb{a b:Key} :CR prog 83 #[a.val,b.val] w (.int .i64 (bl a b)):=by
 refine enter func83 rfl ntmps83 rfl<|?_;have aR:=St.s0 w;refine(dy) aR fun b2 w1 p q st1=>?_;refine(dy) st1 fun b3 w2 r s st2=>?_;refine cD ?_;have t:=st2.bA;refine WC.cH (m:=9) (E:=bN [(4,fun v _=>v=.int .i64 (sT a.kind b.kind))]) st2 (aU (⟨fun _ _ _ _ _ _ _ h=>h,trivial⟩)) mixed (by kernel_rfl)<|(gp) aL St.g1<|(gp) aL St.g0<|?_;refine DW.c0 (fun y z A=>wa)<|(gp) fq St.g1<|(gp) fq St.g0<|(cx)<|?_;rintro w3 ⟨B,e⟩ ⟨_,_⟩;refine(fw) (mj a.text b.text w3) e fun w4 C g=>?_;refine WL.go rfl (OX.aM (us:=[.int .i64 (sT a.kind b.kind),.int .i64 (Lib.compareBytes a.text.data.toList b.text.data.toList)]) LF rfl rfl rfl rfl fun F w5 i j=>?_);have d:=g.du i j;refine WL.c1 (u:=.int .i64 (bl a b)) (we (l:=[sT a.kind b.kind,Lib.compareBytes a.text.data.toList b.text.data.toList]) (SR.GJ (rows:=[[.int .i64 (sT a.kind b.kind)],[.int .i64 (Lib.compareBytes a.text.data.toList b.text.data.toList)]]) (As.gb d.g0) rfl (by simp) (by simp [Value.oneCell']) (by simp) (xH rfl rfl))) (by rw [Ha]) d fun w6 G o=>?_;refine(bF) ?_;exact⟨rfl,(St.cg o)⟩
theorem qk(hk:eB aa k):CR prog 192 #[k.val] w (.bool false):=by
 obtain⟨i,gq,b,d⟩:=hk.shape;refine enter func192 rfl ntmps192 rfl<|?_;have aR:=St.s0 w;refine(dy) aR fun b1 w1 e g st1=>?_;refine(bf) ak st1.b0<|(fw) (fH (k:=k) d b gq) st1 fun w2 s2 st2=>?_;refine(bF) ?_;exact⟨rfl,(St.cg st2)⟩
theorem sA{p:Key→Bool}(m:CF prog f) (hl:Rd RR.key 2 Z w a n c l) (o:∀w1,aK [] w w1→∀x∈l,Calls prog f #[x.val] w1 fun e w'=>e=.returned (.bool (p x))∧aK [] w1 w'):Calls prog 112 #[.slice a n c,.func (.func f) #[] #[]] w fun e w'=>∃j:Int,e=.returned (.int .i64 j)∧ug l p j∧aK [] w w':=by
 have hlen:=hl.len;have hle:=hl.le;refine enter func112 rfl ntmps112 rfl<|?_;have aR:=St.s0 w;refine aQ ?_;refine bJ ?_;refine WC.bm (σ:=Nat) (db:=fun i=>[(0,.slice a n c),(1,.func (.func f) #[] #[]),(7,.int .i64 (n:Int)),(8,.int .i64 (i:Int))]) (F:=fun i=>[]) (I:=fun i=>(i≤n)∧(∀j x,j<i→l[j]?=some x→p x=false)∧True) (μ:=fun i=>n - i) (0) (aR) Sub.t (⟨by omega,fun j x h=>by omega,trivial⟩)<|?_;rintro i w1 st1 ⟨hi,b,_⟩;simp only [CA,NA] at st1 hi b ⊢;refine(aT) (fun g9=>?_) fun g9=>?_
 ·
  simp at g9
  have d:i<l.length:=by omega
  refine lV ?_;obtain⟨z,A,B,q,C,g,s,E⟩:=Rd.at hl d;have g:=RR.bT g;subst g;refine cD ?_;refine WP .r (PV.dO dn q rfl rfl (by omega))<|(bf) ak (aW s (St.cg st1) (by simp))<|?_;refine WL.go rfl (OX.nt m rfl rfl rfl ((Calls.U7 (o _ (St.cg st1) l[i] (List.getElem_mem d))).mono ?_));rintro _ w2 ⟨rfl,s2⟩;refine⟨_,rfl,?_⟩;have st2:=st1.step s2;refine(aT) (fun g16=>?_) fun g16=>?_
  ·
   refine(bF) ?_;exact⟨_,rfl,.inl ⟨i,_,ae d,g16,b,rfl⟩,(St.cg st2)⟩
  have g16:p l[i]=false:=by simpa using g16
  refine eX ?_;refine eb (i+1) ⟨st2,⟨by omega,cp d b (by simpa using g16),trivial⟩⟩
 simp at g9
 have u:∀x∈l,p x=false:=fun x v=>by obtain⟨j,y,rfl⟩:=List.getElem_of_mem v;exact b j _ (by omega) (ae y)
 refine(bF) ?_;exact⟨_,rfl,.inr ⟨u,rfl⟩,(St.cg st1)⟩
theorem oc{p:Key→Bool}(b:CF prog f) (hl:Rd RR.key 2 Z w a n c l) (d:∀w1,aK [] w w1→∀x∈l,Calls prog f #[x.val] w1 fun e w'=>e=.returned (.bool (p x))∧aK [] w1 w'):CR prog 70 #[.slice a n c,.func (.func f) #[] #[]] w (.bool (l.any p)):=by
 refine enter func70 rfl ntmps70 rfl<|?_;have aR:=St.s0 w;refine(cE) Fp (sA (w:=w) b (hl.ext (St.cg aR)) (fun w1 h1=>d w1 (aK.trans (St.cg aR) h1))) ?_;rintro _ w1 ⟨j,rfl,g,s1⟩;have st1:=aR.step s1;have h:=g.any;refine(bF) ?_;exact⟨by rw [h],(St.cg st1)⟩
set_option maxHeartbeats 1600000 in
theorem sB{x:Rec}(hk:Rd RR.key 2 Z w a n c x.reads) (z:Es aa x):CR prog 150 #[.agg (x.row a n c).toArray] w (.bool true):=by
 have hlen:=hk.len;obtain⟨h1,A,B,r⟩:=z;obtain⟨i,gq,C,E⟩:=h1.shape;have F:=h1.eP;rw [eS] at r;obtain⟨_,_,_,v4,v5,v6,I,J,v9,v10,v11⟩:=r;refine enter func150 rfl ntmps150 rfl<|?_;have aR:=St.s0 w;refine(dy) aR fun b1 w1 K L st1=>?_;refine df ?_;refine WC.dz (t:=34) (v:=.bool false) st1 ?_<|?_
 ·
  refine(jY) ak st1.b0<|(fw) (fH (k:=x.key) E C gq) st1 fun w2 s2 st2=>?_;refine(jY) ak st2.b0<|?_;refine WL.c1 (u:=.bool false) (cR (k:=x.key)) (by rw [A]) st2 fun w3 G e=>?_;refine(bq) fq e.b0<|(cG) (fun g19=>?_) (fun g19=>?_)
  ·
   refine aQ ?_;exact(bY) (by first | (simp only [g19];done) | (simp [g19];done) | (have g:x.key.kind=32:=nK h1 (by simpa [g19] using v11);simp [g19,g];done) | (simp at g19 ⊢ <;> omega) | (simp [g19] <;> omega)) (e)
  refine(bq) gS e.b0<|(cG) (fun b=>?_) (fun b=>?_)
  ·
   exact(bY) (by first | (simp only [g19,b];done) | (simp [g19,b];done) | (have g:x.key.kind=32:=nK h1 (by simpa [g19,b] using v11);simp [g19,b,g];done) | (simp at g19 b ⊢ <;> omega) | (simp [g19,b] <;> omega)) (e)
  refine(bq) dm e.b0<|(cG) (fun d=>?_) (fun d=>?_)
  ·
   refine(jY) ak e.b0<|(fw) (jr (k:=x.key) F) e fun w4 N H=>?_;exact(bY) (by first | (simp only [g19,b,d];done) | (simp [g19,b,d];done) | (have g:x.key.kind=32:=nK h1 (by simpa [g19,b,d] using v11);simp [g19,b,d,g];done) | (simp at g19 b d ⊢ <;> omega) | (simp [g19,b,d] <;> omega)) (H)
  exact(bY) (by first | (simp only [g19,b,d];done) | (simp [g19,b,d];done) | (have g:x.key.kind=32:=nK h1 (by simpa [g19,b,d] using v11);simp [g19,b,d,g];done) | (simp at g19 b d ⊢ <;> omega) | (simp [g19,b,d] <;> omega)) (e)
 intro w2 st2;refine(aT) (fun s=>?_) fun s=>?_
 ·
  exact et s
 refine jg ?_;refine WC.jf (t:=2) (v:=.bool true) st2 ?_<|?_
 ·
  refine(bq) aL st2.b0<|(cG) (fun h=>?_) (fun h=>?_)
  ·
   refine(bq) aL st2.b0<|(bq) aL st2.b0<|(cG) (fun j=>?_) (fun j=>?_)
   ·
    refine(bq) aL st2.b0<|(cG) (fun m=>?_) (fun m=>?_)
    ·
     refine(bq) aL st2.b0<|(cG) (fun o=>?_) (fun o=>?_)
     ·
      refine(bq) aL st2.b0<|(cG) (fun q=>?_) (fun q=>?_)
      ·
       refine(bq) gS st2.b0<|nx ?_;refine WL.c1 (u:=.bool false) (oc (p:=fun _=>false) Rj (hk.ext (St.cg st2)) (fun w1 _ y hy=>qk (B y hy))) (by rw [List.any_eq_false.2 (fun _ _=>by simp)]) st2 fun w3 G e=>?_;exact(e8) (tG (aj h<|aj j<|aj m<|aj o q)) (e)
      exact(e8) (tG (aj h<|aj j<|aj m<|aj o q)) (st2)
     refine aQ ?_;exact(e8) (tG (aj h<|aj j<|aj m o)) (st2)
    refine aQ ?_;exact(e8) (tG (aj h<|aj j m)) (st2)
   refine aQ ?_;exact(e8) (tG (aj h j)) (st2)
  refine aQ ?_;refine aQ ?_;exact(e8) (tG h) (st2)
 intro w3 e;refine(bF) ?_;exact⟨rfl,(St.cg e)⟩
theorem od{l:List Rec}(hl:Rd RR.fl 8 Z w a n c l) (q:∀x∈l,Es aa x) (s:pX l) (L:l.length≤4000):CR prog 108 #[.slice a n c] w (.bool true):=by
 have hlen:=hl.len;have hle:=hl.le;refine enter func108 rfl ntmps108 rfl<|?_;have aR:=St.s0 w;refine aQ ?_;refine bJ ?_;refine WC.bm (σ:=Nat) (db:=fun j=>[(0,.slice a n c),(5,.slice a n c),(6,.int .i64 (n:Int)),(7,.int .i64 (j:Int))]) (F:=fun j=>[]) (I:=fun j=>(j≤n)∧True) (μ:=fun j=>n - j) (0) (aR) Sub.t (⟨by omega,trivial⟩)<|?_;rintro j w1 st1 ⟨u,_⟩;simp only [CA,NA] at st1 u ⊢;refine(aT) (fun g8=>?_) fun g8=>?_
 ·
  simp at g8
  have g:j<l.length:=by omega
  refine df ?_;obtain⟨N,O,P,y,Q,z,A,R⟩:=Rd.at hl g;obtain⟨q1,S,T,rfl,B,U⟩:=z;refine bJ ?_;refine WP .r (PV.dO jk y rfl rfl (by omega))<|(bf) dN (aW A (St.cg st1) (by simp))<|(fy) st1 fun b4 w2 V W st2=>?_;refine(dw) gk st2 fun w3 X Y i=>?_;refine cq ?_;refine WC.dz (t:=30) (v:=.bool false) i ?_<|?_
  ·
   have Uj:=i.bA;refine WC.cH (m:=15) (E:=bN [(1,fun v _=>v=.bool true)]) i (aU (⟨fun _ _ _ _ _ _ _ h=>h,trivial⟩)) mixed (by kernel_rfl)<|(fe) dN St.g0<|?_;refine DW.c0 (fun wx e hF=>sB (B.ext (St.cg e.2)) (q _ (List.getElem_mem g)))<|(l9) (fun g18=>?_) (fun g18=>?_)
   ·
    have SC:1≤j:=by have h0:=g18;simp at h0;omega
    have o:j - 1<l.length:=by omega
    have tU:bl l[j - 1].key l[j].key<0:=List.pairwise_iff_getElem.1 s (j - 1) j o g (by simp at g18;omega);obtain⟨oV,C9,AA,C,se,G,H,ly⟩:=Rd.at hl o;obtain⟨p1,p2,p3,rfl,_,_⟩:=G;refine cq ?_;refine DP .r (fun _ e=>PV.Dv jk (j - 1) C rfl rfl (by omega) (by omega))<|nx ?_;refine DP .r (fun _ e=>PV.Du ak (aW H (St.cg e.2) (by simp)) rfl rfl)<|(tW) ak St.g0<|(cx)<|?_;rintro w4 ⟨J,d⟩ ⟨_,_⟩;refine(fw) (nb (a:=l[j - 1].key) (b:=l[j].key)) d fun w5 s5 K=>?_;exact(bY) (tG g18) (K)
   refine(cx) ?_;rintro w4 ⟨J,d⟩ ⟨_,_⟩;exact(bY) (tG g18) (d)
  intro w4 d;refine(aT) (fun p=>?_) fun p=>?_
  ·
   exact et p
  refine eX ?_;refine eb (j+1) ⟨d.drop,⟨by omega,trivial⟩⟩
 simp at g8
 refine aQ ?_;refine(bF) ?_;exact⟨by simp;omega,(St.cg st1)⟩
theorem sC{i:Nat}(gq:i≤99) (hk:k=⟨30,itoa i⟩):CR prog 109 #[k.val] w (.bool true):=by
 subst hk;refine enter func109 rfl ntmps109 rfl<|?_;have aR:=St.s0 w;refine(dy) aR fun b1 w1 d e st1=>?_;refine(bf) ak st1.b0<|(fw) (fH (k:=⟨30,itoa i⟩) ⟨(by decide:(30:Int)≤30),(by decide:(30:Int)≤32)⟩ rfl gq) st1 fun w2 s2 st2=>?_;refine(bf) ak st2.b0<|?_;refine WL.c1 (u:=.bool true) (cR (k:=⟨30,itoa i⟩)) (by rw [show aw ⟨30,itoa i⟩=true from rfl]) st2 fun w3 g b=>?_;refine(bF) ?_;exact⟨rfl,(St.cg b)⟩
set_option maxHeartbeats 1600000 in
set_option maxRecDepth 100000 in
theorem o0(hi:Rd RR.aA 4 Z w a1 n1 e1 x.ab) (hr:Rd RR.fl 8 Z w a2 n2 e2 x.ah) (S:lj aa x):CR prog 69 #[.agg (x.row a1 n1 e1 a2 n2 e2).toArray] w (.bool true):=by
 obtain⟨x0,x1,L,T,x6,U,xs,V,W⟩:=S;have eJ:=hi.len;have Iz:=hi.le;have JL:=hr.len;refine enter func69 rfl ntmps69 rfl<|?_;have aR:=St.s0 w;refine(dy) aR fun b1 w1 Xg Gu st1=>?_;refine df ?_;refine WC.dz (t:=24) (v:=.bool false) st1 ?_<|?_
 ·
  refine(bq) aL st1.b0<|(cG) (fun g8=>?_) (fun g8=>?_)
  ·
   refine aQ ?_;exact(bY) (tG g8) (st1)
  refine(bq) aL st1.b0<|(cG) (fun g13=>?_) (fun g13=>?_)
  ·
   exact(bY) (tG (aj g8 g13)) (st1)
  refine(bq) jI st1.b0<|(cG) (fun g19=>?_) (fun g19=>?_)
  ·
   exact(bY) (tG (aj g8<|aj g13 g19)) (st1)
  refine(bq) fb st1.b0<|(fw) (od (hr.ext (St.cg st1)) U xs V) st1 fun w2 s2 st2=>?_;exact(bY) (tG (aj g8<|aj g13 g19)) (st2)
 intro w2 st2;refine(aT) (fun g24=>?_) fun g24=>?_
 ·
  exact et g24
 refine(bq) jI st2.b0<|df ?_;refine WC.bm (σ:=Nat) (db:=fun j=>[(1,.pointer (some ⟨b1,0,none⟩)),(26,.slice a1 n1 e1),(27,.int .i64 (n1:Int)),(28,.int .i64 (j:Int))]) (F:=fun j=>[]) (I:=fun j=>(j≤n1)∧True) (μ:=fun j=>n1 - j) (0) (st2) Sub.t (⟨by omega,trivial⟩)<|?_;rintro j w3 o ⟨X,_⟩;simp only [CA,NA] at o X ⊢;refine(aT) (fun C=>?_) fun C=>?_
 ·
  simp at C
  have A:j<x.ab.length:=by omega
  obtain⟨y,hy⟩:∃y,x.ab[j]=y:=⟨_,rfl⟩;obtain⟨i,gq,Y⟩:=T _ (hy ▸ List.getElem_mem A);obtain⟨_,_,hv,TT,hc1⟩:=L.2 _ (hy ▸ List.getElem_mem A);refine df ?_;obtain⟨jK,qe,nX,cF,i6,G,N,fF⟩:=Rd.at hi A;have G:=RR.bT G;subst G;rw [hy] at N
  have O:j - 1<x.ab.length:=by omega
  obtain⟨z,P⟩:∃z,x.ab[j - 1]=z:=⟨_,rfl⟩;refine bJ ?_;refine WP .r (PV.dO qc cF rfl rfl (by omega))<|(bf) ku (aW N (St.cg o) (by simp))<|(fy) o fun b4 w4 DA IC H=>?_;refine(dw) xY H fun w5 kI nj J=>?_;refine cq ?_;refine WC.dz (t:=71) (v:=.bool false) J ?_<|?_
  ·
   have GB:=J.bA;refine WC.cH (m:=37) (E:=bN [(2,fun v _=>v=.bool true),(17,fun v _=>v=.int .i64 (bl z.key y.key))]) J (aU (⟨fun _ _ _ _ _ _ _ h=>h,⟨fun _ _ _ _ _ _ _ h=>h,trivial⟩⟩)) mixed (by kernel_rfl)<|(tW) ak St.g0<|?_;refine DW.c0 (fun wx B hF=>sC gq Y)<|(l9) (fun e=>?_) (fun e=>?_)
   ·
    have SC:1≤j:=by have h0:=e;simp at h0;omega
    have tU:bl z.key y.key<0:=by rw [← hy,← P];exact List.pairwise_iff_getElem.1 L.1 (j - 1) j O A (by omega)
    obtain⟨oV,C9,AA,gW,se,K,Q,ly⟩:=Rd.at hi O;have K:=RR.bT K;subst K;rw [P] at Q;refine(gp) jI St.g1<|bJ ?_;refine DP .r (fun _ B=>PV.Dv qc (j - 1) gW rfl rfl (by omega) (by omega))<|nx ?_;refine DP .r (fun _ B=>PV.Du ak (aW Q (St.cg B.2) (by simp)) rfl rfl)<|(tW) ak St.g0<|?_;refine DW.c0 (fun wx B hF=>nb (a:=z.key) (b:=y.key))<|(l9) (fun u=>?_) (fun u=>?_)
    ·
     refine aQ ?_;refine(cx) ?_;rintro w6 ⟨s,d⟩ ⟨_,⟨_,_⟩⟩;exact(bY) (tG (aj e u)) (d)
    refine(gp) fq St.g0<|(l9) (fun g=>?_) (fun g=>?_)
    ·
     refine(cx) ?_;rintro w6 ⟨s,d⟩ ⟨_,⟨_,_⟩⟩;exact(bY) (tG (aj e<|aj u g)) (d)
    refine(gp) aL St.g0<|(l9) (fun q=>?_) (fun q=>?_)
    ·
     refine(cx) ?_;rintro w6 ⟨s,d⟩ ⟨_,⟨_,_⟩⟩;exact(bY) (tG (aj e<|aj u<|aj g q)) (d)
    refine(gp) aL St.g0<|(gp) aL St.g1<|(cx)<|?_;rintro w6 ⟨s,d⟩ ⟨_,⟨_,_⟩⟩;exact(bY) (tG (aj e<|aj u<|aj g q)) (d)
   refine aQ ?_;refine(gp) fq St.g0<|(l9) (fun g=>?_) (fun g=>?_)
   ·
    refine(cx) ?_;rintro w6 ⟨s,d⟩ ⟨_,_⟩;exact(bY) (tG (aj e g)) (d)
   refine(gp) aL St.g0<|(l9) (fun q=>?_) (fun q=>?_)
   ·
    refine(cx) ?_;rintro w6 ⟨s,d⟩ ⟨_,_⟩;exact(bY) (tG (aj e<|aj g q)) (d)
   refine(gp) aL St.g0<|(gp) aL St.g1<|(cx)<|?_;rintro w6 ⟨s,d⟩ ⟨_,_⟩;exact(bY) (tG (aj e<|aj g q)) (d)
  intro w6 d;refine(aT) (fun R=>?_) fun R=>?_
  ·
   exact et R
  refine eX ?_;refine eb (j+1) ⟨d.drop,⟨by omega,trivial⟩⟩
 simp at C
 refine(bq) fb o.b0<|?_;refine WP .r (PV.func (us:=[]) (vs:=[.pointer (some ⟨b1,0,none⟩)]) rfl rfl)<|(fw) (oY (p:=fun r=>decide (x.ad<r.av)) Qx (hr.ext (St.cg o)) (fun wq hq y _ a n c _=>oZ ((As.gb o.g0).ext hq)) (fun y hy=>by have:=W y hy;simp;omega)) o fun w4 s4 H=>?_;refine(bF) ?_;exact⟨by simp,(St.cg H)⟩
theorem yL(g:St w M Z w [As.os RR.key 43 2 a n c l]) (h0:l≠[]) (hn:l.length≤1000000):Calls prog 85 #[.slice a n c,.func (.func 83) #[] #[]] w fun e w'=>e=.returned (.tuple #[])∧∃l',l'.Perm l∧(l'.Pairwise fun x y=>¬bl y x<0)∧St w M Z w' [As.os RR.key 43 2 a n c l']:=
 CN (row:=Key.cells) (key:=fun x=>x) (fun _=>rfl) (fun x v b=>by(simp [Key.cells] at b;rcases b with rfl | rfl <;> rfl)) (fun blk cap d w hc hH hb h=>slices_SortFunc 2 isAgg43 sizeOf43 Key.cells (fun _=>rfl) (fun x v b=>by(simp [Key.cells] at b;rcases b with rfl | rfl <;> rfl)) _ Hr 83 #[] blk 0 cap d w Qo hc hH hb h) (fun x y w=>nb) g h0 hn
set_option maxHeartbeats 400000
set_option maxHeartbeats 1600000 in
theorem mx{goals:List Key}{ar P:Option Addr}{r cr g eg f:Nat}{s':ES}(Q:ao aa) (gn:St w M Z w []) (hu:Rd RR.eF 4 Z w ar r cr aa) (hi:Rd RR.aA 4 Z w a1 n1 e1 x.ab) (hr:Rd RR.fl 8 Z w a2 n2 e2 x.ah) (R:Rd RR.key 2 Z w P g eg goals) (ht:jM prog Z w) (Za:fk aa x goals=0) (GD:Good aa x.ab ⟨x,[],[],0⟩) (hk:∀k∈goals,eB aa k) (S:x.ab.length≤1000000)
 (FN:cI aa (valOf aa x.ab) f ⟨x,[],[],0⟩ goals=some s') (yt:s'.cz.length≤1000000):Calls prog 22 #[.slice ar r cr,.agg (x.row a1 n1 e1 a2 n2 e2).toArray,.slice P g eg] w fun e w'=>∃a1' n1' e1' a2' n2' e2' ag' g' eg' Z',e=.returned (.tuple #[.agg ((s'.base x).row a1' n1' e1' a2' n2' e2').toArray,.slice ag' g' eg',.int .i64 s'.e])∧dU w.heap.size Z Z'∧Rd RR.aA 4 Z' w' a1' n1' e1' (s'.base x).ab∧Rd RR.fl 8 Z' w' a2' n2' e2' (s'.base x).ah∧St w M Z' w' [As.os RR.key 43 2 ag' g' eg' s'.list]:=by
 have hgn:=R.len;have On:=R.le
 have h6:x.ah.length≤1000000:=by have:=GD.len;simp only at this;omega
 refine enter func22 rfl ntmps22 rfl<|?_;have aR:=St.rb gn;have st1:=aR.fr hu;have st2:=st1.fr hi;have iO:=st2.fr hr;have iL:=iO.fr R;have kJ:=iL.fact (B:=As.fz (FZ.Ej prog)) ht (fun _ hx=>hx);refine(dy) kJ fun b4 w1 DA IC ke=>?_;refine(fy) ke fun b6 w2 C7 Ij iP=>?_;refine(bf) bu iP.b1<|?_;have J:=iP;refine(cE) Fm (gV J.e0 (As.gr J.g5) (As.gr J.g4) h6 S) ?_;rintro _ w3 ⟨f1,f2,f3,f4,f5,f6,Z1,rfl,F5,T⟩;have ju:=St.lv J T F5;have MS:=St.dC T;have MT:=St.dC T.p1;have U:=J.size;have DF:=F5.le U;have Zb:=St.fresh ju;have ek:=ju.dZ (by omega);have Zc:=St.fresh ek.p1;have dP:=ek.p1.dZ (by omega);have uM:=(DF.trans (dU.nA (F:=fun x=>x∈aZ f1) MS) U).trans (dU.nA (F:=fun x=>x∈aZ f4) MT) U;refine(dw) jl dP.p3 fun w4 kI nj E=>?_;refine(bf) bu E.b0<|(cE) Wn (tf (As.gr E.g8) (As.gr E.g2) (As.gr E.g1) (As.gr E.g5)) ?_;rintro _ w5 ⟨rfl,s5⟩;rw [Za];have cM:=E.step s5;refine(aT) (fun g20=>?_) fun g20=>?_
 ·
  exact absurd g20 (by simp)
 refine cq ?_;refine WC.cN (m:=6) [] [2,4] [0,1,2,3,4,5] [(5,.map)] cM (aq.k4 M0 M1 M2 M3<|aq.k4 M4 M5 M6 M7<|aq.cons M8<|aq.nil) mixed (by kernel_rfl) (by kernel_rfl) rfl<|(ma) bu SV.g0<|(gH) (fun w6 Zd Nu cS F6=>?_);simp only [CA,NA] at cS;have fG:=cS;refine OX.call LZ rfl rfl ((mZ (x:=x) fG.e0).mono ?_);rintro _ w7 ⟨d1,d2,d3,rfl,tb⟩;have hP:=St.lr fG tb;refine⟨_,rfl,tb.bS.size,_,rfl,_,_,_,hP,ay.k4<|ay.k4<|ay.k4<|ay.nil,aq.k4 M3 M4 M5 M6<|aq.k4 M7 M8 M9 jv<|aq.cons kB<|aq.nil,?_⟩;refine(ma) bu SV.g0<|(gH) (fun w8 FY sw e7 jc=>?_);simp only [CA,NA] at e7;have K:=e7;refine OX.call Fm rfl rfl ((gV K.e0 (As.gr K.g5) (As.gr K.g4) h6 S).mono ?_);rintro _ w9 ⟨q1,q2,q3,V,q5,q6,Z3,rfl,yv,L⟩;have ei:=St.lv K L yv;have Ze:=St.dC L;have Zg:=St.dC L.p1;have W:=K.size;have MY:=uM.trans yv W;have Zh:=St.fresh ei;have eV:=ei.dZ (by omega);have Zi:=St.fresh eV.p1;have gX:=eV.p1.dZ (by omega);have FQ:=(MY.trans (dU.nA (F:=fun x=>x∈aZ q1) Ze) W).trans (dU.nA (F:=fun x=>x∈aZ V) Zg) W;refine⟨_,rfl,L.bS.size,_,rfl,_,_,_,gX,ay.k4<|ay.k4<|ay.k4<|ay.k2<|ay.nil,aq.k4 M5 M6 M7 M8<|aq.k4 M9 jv kB oj<|aq.cons qo<|aq.nil,?_⟩;refine DG.side (s:=.map) rfl rfl rfl rfl rfl rfl (fun wx Zx Rx yH ob=>OX.makeMap Key.val rfl fun b wy nw hb=>⟨nw.ext.size,_,rfl,⟨b,rfl⟩,ob.D7 nw hb⟩)<|?_;rintro _ ⟨X,rfl⟩;refine(nD) ?_;intro jP IF dT;simp only [CM,NM,CA,NA,jD.it] at dT;refine WP .r (PV.br (us:=(EA.cells ⟨q1,V,none,q2,q3,q5,q6,0,0⟩ d1 X ⟨x,[],[],0⟩)) P5 rfl rfl rfl)<|(dy) dT fun Xa kF RA RB iq=>?_;refine nx ?_;refine WL.nil (EX.np ?_);have o:=iq.p5.p5;have e6:=o.join (C:=As.k8 prog 139 aa x ⟨ar,f1,f4,r,cr,f2,f3,f5,f6,d2,d3,d1⟩) ⟨o.Vd,(As.gb o.g0),⟨[],aJ.nil,(As.gm o.g1)⟩,⟨(As.gr o.g15),(As.gr o.g9),(As.gr o.g8),(As.gf o.g11)⟩⟩ (fun y h=>h);have ff:=e6.fD RR.key 43 2;refine lU ?_;refine WC.kl (σ:=Nat × ES × EA × (Nat→Prop)) (db:=fun(j,s1,d,z)=>[(4,.pointer (some ⟨b4,0,none⟩)),(6,.pointer (some ⟨b6,0,none⟩)),(10,.pointer (some ⟨Xa,0,none⟩)),(31,.slice P g eg),(32,.int .i64 (g:Int)),(33,.int .i64 (j:Int))]) (F:=fun(j,s1,d,z)=>[As.blk Xa 107 (EA.cells d d1 X s1),As.map Key.val X s1.busy,As.os RR.key 43 2 d.a3 d.n3 d.c3 s1.cz,As.ro RR.aA 4 d.a1 d.n1 d.c1 s1.b.ab,As.ro RR.fl 8 d.a2 d.n2 d.c2 s1.b.ah]) (I:=fun(j,s1,d,z)=>(cI aa (valOf aa x.ab) f s1 (goals.drop j)=some s')∧(Good aa x.ab s1)∧(j≤g)∧(dU w.heap.size Z z)∧True) (μ:=fun(j,s1,d,z)=>g - j) (Zf:=fun(j,s1,d,z)=>z) (0,⟨x,[],[],0⟩,⟨q1,V,none,q2,q3,q5,q6,0,0⟩,_) (ff.p4.p5.p2.p5.p5) Sub.t (⟨FN,GD,Nat.zero_le _,FQ,trivial⟩)<|?_;rintro⟨j,s1,d,z⟩ pH p ⟨A,Y,hj,N,_⟩;simp only [CA,NA] at p A Y hj N ⊢;refine(aT) (fun Zj=>?_) fun Zj=>?_
 ·
  simp at Zj
  have ym:j<goals.length:=by omega
  rw [List.drop_eq_getElem_cons ym] at A;simp only [cI] at A;obtain⟨t,JN,AW⟩:=Option.bind_eq_some_iff.1 A;have N1:=hk goals[j] (List.getElem_mem ym);have GG:=(bR (val:=valOf aa x.ab) Q f).1 _ _ _ JN Y N1;have Yj:=mQ Q AW GG.1 (fun k Ms=>hk k (List.mem_of_mem_drop Ms));refine df ?_;obtain⟨jK,qe,nX,cF,i6,gU,ft,fF⟩:=Rd.at (As.gr p.g12) ym;have gU:=RR.bT gU;subst gU;have G:=p.fg fF ft;refine nx ?_;refine WP .r (PV.dO dn cF rfl rfl (by omega))<|(bf) ak (As.kW G.g0)<|(fy) G fun b12 qj agp SE q=>?_;refine(dw) fW q fun yl vI oh u=>?_;refine(bf) ak u.b0<|?_;have i:=u.p4.p4.p7.p5;refine(cE) L0 (Nd (D:=⟨ar,f1,f4,r,cr,f2,f3,f5,f6,d2,d3,d1⟩) Q S f _ _ _ _ _ _ _ i.e4 (As.gr i.g6) (As.gr i.g7) Y N1 JN (by have:=Yj.2.cz;omega)) ?_;rintro _ vS ⟨E2,Z6,rfl,SF,hi6,hr6,F7⟩;have O:=St.lv i F7 SF;have hZ6:=N.trans SF i.size;have H:=O.fr (hi6);have nc:=H.fr (hr6);have kG:=nc.p8.drop;have kH:=kG.p8.drop;refine eX ?_;refine eb (j+1,t,E2,Z6) ⟨kH.p6.drop.p6.drop.p1.p5.p5.p4,⟨AW,GG.1,by omega,hZ6,trivial⟩⟩
 simp at Zj
 rw [List.drop_eq_nil_of_le (by omega)] at A;simp only [cI,Option.some.injEq] at A;subst A;refine(bq) uF p.b0<|(aT) (fun v=>?_) fun v=>?_
 ·
  simp at v
  have G:=p.fD RR.key 43 2;refine nx ?_;refine WC.cN (m:=7) [] [5] [0,5,1,2,3,4,6] [] G (aq.k4 M0 M1 M2 M3<|aq.k4 M4 M5 M6 M7<|aq.k4 M8 M9 jv oj<|aq.k4 qo yW IX NZ<|aq.nil) mixed (by kernel_rfl) (by kernel_rfl) rfl<|(ma) bu SV.g8<|?_;refine DG.cs rfl rfl rfl rfl rfl (fun qj SG F8 q n9=>?_);simp only [CA,NA] at q;refine OX.kL jl (As.gb q.g11) rfl rfl rfl rfl rfl fun yl C8 _ yX=>?_;have u:=q.qt.Ck C8 yX;refine⟨C8.size,rfl,_,_,_,u,ay.k4<|ay.k4<|ay.k4<|ay.k4<|ay.cons<|ay.nil,aq.k4 M1 M2 M3 M4<|aq.k4 M5 M6 M7 M8<|aq.k4 M9 jv kB oj<|aq.k4 qo yW IX NZ<|aq.nil,?_⟩
  iterate 3 refine DG.a ?_
  refine(N8) uF SV.g1<|(nD) ?_;intro vS B2 i;simp only [CM,NM,CA,NA,jD.it] at i;refine nx ?_;refine WL.nil (EX.np ?_);refine cq ?_;refine EX.uZ rfl (RS.cell bu rfl i.b0 rfl<|RS.tmp rfl<|RS.tmp rfl<|RS.nil) rfl<|?_;have hb:s1.base x=x:=if_neg v;have hl:s1.list=[]:=if_neg v;exact⟨f1,f2,f3,f4,f5,f6,none,0,0,_,by rw [hb],N,by rw [hb];exact(As.gr i.g11),by rw [hb];exact(As.gr i.g10),by rw [hl];exact(St.wk i.p1.k1)⟩
 simp at v
 refine cq ?_;have Jf:=((As.gs p.g2)).len;have Nv:=St.fresh p.p2;have G:=p.p2.dZ (by omega);have hZr:=N.trans (dU.nA (F:=fun x=>x∈aZ d.a3) Nv) (Nat.le_refl _);refine WC.cN (m:=9) [] [8] [4,5,6,7,8,0,1,2,3] [] G (aq.k4 M0 M1 M2 M3<|aq.k4 M4 M5 M6 M7<|aq.k4 M8 M9 jv kB<|aq.k4 oj qo yW IX<|aq.nil) mixed (by kernel_rfl) (by kernel_rfl) rfl<|?_
 iterate 3 refine DG.a ?_
 refine(N8) gS SV.g1<|(gH) (fun qj R8x agu q acu=>?_);simp only [CA,NA] at q;have u:=q;refine OX.call LW rfl rfl ((kf u.e0 (As.gr u.g0) (fun _ h _=>h) yt).mono ?_);rintro _ yl ⟨o1,o2,o3,rfl,pO⟩;have i:=St.lr u pO;refine⟨_,rfl,pO.bS.size,_,rfl,_,_,_,i,ay.k4<|ay.k4<|ay.k4<|ay.k4<|ay.cons<|ay.nil,aq.k4 M1 M2 M3 M4<|aq.k4 M5 M6 M7 M8<|aq.k4 M9 jv kB oj<|aq.k4 qo yW IX NZ<|aq.nil,?_⟩
 iterate 3 refine DG.a ?_
 refine(G1) bu SV.g1<|(nD)<|?_;intro vS B5 O;simp only [CM,NM,CA,NA,jD.it] at O;refine(dw) jl O.qt fun wN Oh Oi H=>?_;refine bJ ?_;refine WL.nil (EX.np ?_);refine bJ ?_;refine EX.uZ rfl (RS.cell bu rfl H.b0 rfl<|RS.tmp rfl<|RS.tmp rfl<|RS.nil) rfl<|?_;have hb:s1.base x=s1.b:=if_pos v;have hl:s1.list=gP s1.cz:=if_pos v;exact⟨d.a1,d.n1,d.c1,d.a2,d.n2,d.c2,o1,o2,o3,_,by rw [hb,v];rfl,hZr,by rw [hb];exact(As.gr H.g5),by rw [hb];exact(As.gr H.g6),by rw [hl];exact(St.wk H.p1.k1)⟩
set_option maxHeartbeats 400000
set_option maxHeartbeats 400000
set_option maxHeartbeats 400000
theorem IH(b:ao aa) (q:∀k,(valOf aa x.ab k).size≤1000):∀i:Nat,i<aa.length→JQ aa x D (aH aa (i:Int)):=by
 intro i;have A:=b.len;have low:∀n:Nat,n≤15→JQ aa x D (bz (n:Int)):=fun n hn w M Z ml al d e hm _=>pN d e hm (aN (by omega))
 induction i using Nat.strongRecOn with
 | _ i r=>
  intro hi w M Z ml al d e hm g
  have gq:i≤99:=by omega
  have u:j1 aa i al:=by
   have h:=g (bX hi gq);rw [bG hi gq,Int.toNat_natCast] at h;exact h
  refine AY d e hm b hi q u (fun hr w M Z ml al d e hm g=>?_) (fun hr a o=>?_)
  ·
   rw [bG hi gq,Int.toNat_natCast] at g;refine v8 d e hm b q hi hr g fun j s a o hc=>?_;have p:=o.cyc b
   rcases o with⟨n,hn,rfl⟩ | ⟨m,hm,rfl,h1,t,B,v⟩
   ·
    exact low n hn
   have y:ax aa m=false:=by
    rw [hc,dA hm (by omega)] at p
    cases h:ax aa m
    ·
     rfl
    rw [h] at p;simp at p
   have C:ba aa j≤i:=Nat.le_trans (iD b s) (ew aa i)
   have z:m<i:=by
    have:=v y (gz hi hr s).2
    omega
   exact r m z hm
  rcases o with⟨n,hn,rfl⟩ | ⟨m,hm,rfl,_,t,_⟩
  ·
   exact low n hn
  exact r m (t hr) hm
theorem Nw(b:ao aa) (d:∀k,(valOf aa x.ab k).size≤1000) {k:Key}(hk:eB aa k):JQ aa x D k:=by
 cases hk with
 | cell h=>exact fun w M Z ml al e g hm _=>pN e g hm (aN h)
 | eF h _=>exact IH b d _ h
end Go.Rc

