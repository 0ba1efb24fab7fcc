/- Walks over the program, part WUa. Conditions: as each theorem says. -/
import Derived.Test.YtmpkegmkoclbhaaGreatDoorMFacts
import Derived.Test.YtmpkegmkoclbhaaGreatDoorMWU
import Derived.Test.YtmpkegmkoclbhaaGreatDoorMBf
import Derived.Test.YtmpkegmkoclbhaaGreatDoorMBg
import Derived.Test.YtmpkegmkoclbhaaGreatDoorMWB
import Derived.Test.YtmpkegmkoclbhaaGreatDoorMBh
import Derived.Test.YtmpkegmkoclbhaaGreatDoorShelf
import Derived.Test.YtmpkegmkoclbhaaGreatDoorMBi
import Derived.Test.YtmpkegmkoclbhaaGreatDoorMWLibE
import Derived.Test.YtmpkegmkoclbhaaGreatDoorMBd
set_option linter.all false
namespace Go.Rc
open Go Go.Proofs Go.Proofs.Tryz
variable {n c n1 e1 n2 e2:Nat}{w:World}{a a1 a2:Option Addr}{aa:List aG}{k:Key}{l:List Key}{f:FuncId}{Z M:Nat→Prop}{x:cm}{D:SD}
set_option maxHeartbeats 400000
theorem vK{n:Int} :CR prog 163 #[.int .i64 n] w (.bool false):=by
 refine enter func163 rfl ntmps163 rfl<|?_;have aP:=St.s0 w;refine aX ?_;refine(bw) ?_;exact⟨by simp,(St.cg aP)⟩
theorem zW{a b:Int} :CR prog 116 #[.int .i64 a,.int .i64 b] w (.int .i64 (wD a b)):=by
 refine enter func116 rfl ntmps116 rfl<|?_;have aP:=St.s0 w;refine(eN) (vK) aP fun w1 s1 st1=>?_;refine(eN) (vK) st1 fun w2 s2 st2=>?_;refine kR ?_;refine WC.fi rfl<|gX ?_;refine WC.fi rfl<|(aT) (fun g16=>?_) fun g16=>?_
 ·
  simp at g16
  refine(bw) ?_;exact⟨by unfold wD;rw [if_pos g16],(St.cg st2)⟩
 simp at g16
 refine(aT) (fun g19=>?_) fun g19=>?_
 ·
  simp at g19
  refine(bw) ?_;exact⟨by unfold wD;rw [if_neg (by omega),if_pos g19],(St.cg st2)⟩
 simp at g19
 refine(bw) ?_;exact⟨by unfold wD;rw [if_neg (by omega),if_neg (by omega)],(St.cg st2)⟩
theorem zX{l:List Int}{A:Nat→Prop}(hl:Ints A w a n c l):CR prog 115 #[.slice a n c] w (.int .i64 (QO l)):=by
 have hle:=SR.le hl;have hlen:=SR.len hl;refine enter func115 rfl ntmps115 rfl<|?_;have aP:=St.s0 w;refine aX ?_;refine ez ?_;refine WC.bq (σ:=Nat) (dn:=fun i=>[(3,.int .i64 0),(6,.slice a n c),(7,.int .i64 (n:Int)),(8,.int .i64 (i:Int))]) (F:=fun i=>[]) (I:=fun i=>(i≤n)∧(∀j x,j<i→l[j]?=some x→x=0)∧True) (μ:=fun i=>n - i) (0) (aP) Sub.t (⟨by omega,fun j x h=>by omega,trivial⟩)<|?_;rintro i w1 st1 ⟨hi,b,_⟩;simp only [CA,NA] at st1 hi b ⊢;refine(aT) (fun g9=>?_) fun g9=>?_
 ·
  simp at g9
  have d:i<l.length:=by omega
  obtain⟨p,q,s,e,_,rfl,g,_⟩:=(SR.ext hl (St.cg st1)).at (ak d);refine fO ?_;refine WP .r (PV.dQ EY e rfl rfl (by omega))<|WP .r (PV.mw aN g rfl rfl)<|(aT) (fun g14=>?_) fun g14=>?_
  ·
   simp at g14
   refine(bw) ?_;exact⟨by rw [QP d b g14],(St.cg st1)⟩
  simp at g14
  refine ez ?_;refine eC (i+1) ⟨st1,⟨by omega,cF d b (by simpa using g14),trivial⟩⟩
 simp at g9
 refine(bw) ?_;exact⟨by rw [Mp (fun x m=>by obtain⟨j,o,rfl⟩:=List.mem_iff_getElem.1 m;exact b j _ (by omega) (ak o))],(St.cg st1)⟩
theorem mq{a b:Key} :CR prog 66 #[a.val,b.val] w (.int .i64 (bC a b)):=by
 refine enter func66 rfl ntmps66 rfl<|?_;have aP:=St.s0 w;refine(dy) aP fun b2 w1 p q st1=>?_;refine(dy) st1 fun b3 w2 r s st2=>?_;refine cj ?_;have t:=st2.bO;refine WC.dB (m:=9) (E:=cB [(4,fun v _=>v=.int .i64 (wD a.kind b.kind))]) st2 (bm (⟨fun _ _ _ _ _ _ _ h=>h,trivial⟩)) mixed (by kernel_rfl)<|(iu) aN St.g1<|(iu) aN St.g0<|?_;refine DW.c0 (fun y z A=>zW)<|(iu) fw St.g1<|(iu) fw St.g0<|(cQ)<|?_;rintro w3 ⟨B,e⟩ ⟨_,_⟩;refine(eN) (oT a.text b.text w3) e fun w4 C g=>?_;refine WL.go rfl (OX.aO (us:=[.int .i64 (wD a.kind b.kind),.int .i64 (Lib.compareBytes a.text.data.toList b.text.data.toList)]) RW rfl rfl rfl rfl fun F w5 i j=>?_);have d:=g.cX i j;refine WL.c1 (u:=.int .i64 (bC a b)) (zX (l:=[wD a.kind b.kind,Lib.compareBytes a.text.data.toList b.text.data.toList]) (SR.Ql (rows:=[[.int .i64 (wD a.kind b.kind)],[.int .i64 (Lib.compareBytes a.text.data.toList b.text.data.toList)]]) (As.gb d.g0) rfl (by simp) (by simp [Value.oneCell']) (by simp) (BQ rfl rfl))) (by rw [Mq]) d fun w6 G o=>?_;refine(bw) ?_;exact⟨rfl,(St.cg o)⟩
theorem tF(hk:dX aa k):CR prog 191 #[k.val] w (.bool false):=by
 obtain⟨i,jo,b,d⟩:=hk.shape;refine enter func191 rfl ntmps191 rfl<|?_;have aP:=St.s0 w;refine(dy) aP fun b1 w1 e g st1=>?_;refine(aZ) ao st1.b0<|(eN) (ic (k:=k) d b jo) st1 fun w2 s2 st2=>?_;refine(bw) ?_;exact⟨rfl,(St.cg st2)⟩
theorem vL{p:Key→Bool}(m:CF prog f) (hl:Rd RR.key 2 Z w a n c l) (o:∀w1,aS [] w w1→∀x∈l,Calls prog f #[x.val] w1 fun e w'=>e=.returned (.bool (p x))∧aS [] w1 w'):Calls prog 97 #[.slice a n c,.func (.func f) #[] #[]] w fun e w'=>∃j:Int,e=.returned (.int .i64 j)∧uA l p j∧aS [] w w':=by
 have hlen:=hl.len;have hle:=hl.le;refine enter func97 rfl ntmps97 rfl<|?_;have aP:=St.s0 w;refine aX ?_;refine bN ?_;refine WC.bq (σ:=Nat) (dn:=fun i=>[(0,.slice a n c),(1,.func (.func f) #[] #[]),(7,.int .i64 (n:Int)),(8,.int .i64 (i:Int))]) (F:=fun i=>[]) (I:=fun i=>(i≤n)∧(∀j x,j<i→l[j]?=some x→p x=false)∧True) (μ:=fun i=>n - i) (0) (aP) Sub.t (⟨by omega,fun j x h=>by omega,trivial⟩)<|?_;rintro i w1 st1 ⟨hi,b,_⟩;simp only [CA,NA] at st1 hi b ⊢;refine(aT) (fun g9=>?_) fun g9=>?_
 ·
  simp at g9
  have d:i<l.length:=by omega
  refine kE ?_;obtain⟨z,A,B,q,C,g,s,E⟩:=Rd.at hl d;have g:=RR.ba g;subst g;refine cj ?_;refine WP .r (PV.dQ et q rfl rfl (by omega))<|(aZ) ao (aW s (St.cg st1) (by simp))<|?_;refine WL.go rfl (OX.nb m rfl rfl rfl ((Calls.VX (o _ (St.cg st1) l[i] (List.getElem_mem d))).mono ?_));rintro _ w2 ⟨rfl,s2⟩;refine⟨_,rfl,?_⟩;have st2:=st1.step s2;refine(aT) (fun g16=>?_) fun g16=>?_
  ·
   refine(bw) ?_;exact⟨_,rfl,.inl ⟨i,_,ak d,g16,b,rfl⟩,(St.cg st2)⟩
  have g16:p l[i]=false:=by simpa using g16
  refine ez ?_;refine eC (i+1) ⟨st2,⟨by omega,cF d b (by simpa using g16),trivial⟩⟩
 simp at g9
 have u:∀x∈l,p x=false:=fun x v=>by obtain⟨j,y,rfl⟩:=List.getElem_of_mem v;exact b j _ (by omega) (ak y)
 refine(bw) ?_;exact⟨_,rfl,.inr ⟨u,rfl⟩,(St.cg st1)⟩
theorem qO{p:Key→Bool}(b:CF prog f) (hl:Rd RR.key 2 Z w a n c l) (d:∀w1,aS [] w w1→∀x∈l,Calls prog f #[x.val] w1 fun e w'=>e=.returned (.bool (p x))∧aS [] w1 w'):CR prog 53 #[.slice a n c,.func (.func f) #[] #[]] w (.bool (l.any p)):=by
 refine enter func53 rfl ntmps53 rfl<|?_;have aP:=St.s0 w;refine(bX) Sr (vL (w:=w) b (hl.ext (St.cg aP)) (fun w1 h1=>d w1 (aS.trans (St.cg aP) h1))) ?_;rintro _ w1 ⟨j,rfl,g,s1⟩;have st1:=aP.step s1;have h:=g.any;refine(bw) ?_;exact⟨by rw [h],(St.cg st1)⟩
set_option maxHeartbeats 1600000 in
theorem vM{x:Rec}(hk:Rd RR.key 2 Z w a n c x.reads) (z:JA aa x):CR prog 139 #[.agg (x.row a n c).toArray] w (.bool true):=by
 have hlen:=hk.len;obtain⟨h1,A,B,r⟩:=z;obtain⟨i,jo,C,E⟩:=h1.shape;have F:=h1.cZ;rw [fm] at r;obtain⟨_,_,_,v4,v5,v6,I,J,v9,v10,v11⟩:=r;refine enter func139 rfl ntmps139 rfl<|?_;have aP:=St.s0 w;refine(dy) aP fun b1 w1 K L st1=>?_;refine de ?_;refine WC.dW (t:=34) (v:=.bool false) st1 ?_<|?_
 ·
  refine(hW) ao st1.b0<|(eN) (ic (k:=x.key) E C jo) st1 fun w2 s2 st2=>?_;refine(hW) ao st2.b0<|?_;refine WL.c1 (u:=.bool false) (cO (k:=x.key)) (by rw [A]) st2 fun w3 G e=>?_;refine(a8) fw e.b0<|(dc) (fun g19=>?_) (fun g19=>?_)
  ·
   refine aX ?_;exact(cz) (by first | (simp only [g19];done) | (simp [g19];done) | (have g:x.key.kind=32:=qn h1 (by simpa [g19] using v11);simp [g19,g];done) | (simp at g19 ⊢ <;> omega) | (simp [g19] <;> omega)) (e)
  refine(a8) dE e.b0<|(dc) (fun b=>?_) (fun b=>?_)
  ·
   exact(cz) (by first | (simp only [g19,b];done) | (simp [g19,b];done) | (have g:x.key.kind=32:=qn h1 (by simpa [g19,b] using v11);simp [g19,b,g];done) | (simp at g19 b ⊢ <;> omega) | (simp [g19,b] <;> omega)) (e)
  refine(a8) dH e.b0<|(dc) (fun d=>?_) (fun d=>?_)
  ·
   refine(hW) ao e.b0<|(eN) (fL (k:=x.key) F) e fun w4 N H=>?_;exact(cz) (by first | (simp only [g19,b,d];done) | (simp [g19,b,d];done) | (have g:x.key.kind=32:=qn h1 (by simpa [g19,b,d] using v11);simp [g19,b,d,g];done) | (simp at g19 b d ⊢ <;> omega) | (simp [g19,b,d] <;> omega)) (H)
  exact(cz) (by first | (simp only [g19,b,d];done) | (simp [g19,b,d];done) | (have g:x.key.kind=32:=qn h1 (by simpa [g19,b,d] using v11);simp [g19,b,d,g];done) | (simp at g19 b d ⊢ <;> omega) | (simp [g19,b,d] <;> omega)) (e)
 intro w2 st2;refine(aT) (fun s=>?_) fun s=>?_
 ·
  exact dz s
 refine gX ?_;refine WC.kQ (t:=2) (v:=.bool true) st2 ?_<|?_
 ·
  refine(a8) aN st2.b0<|(dc) (fun h=>?_) (fun h=>?_)
  ·
   refine(a8) aN st2.b0<|(a8) aN st2.b0<|(dc) (fun j=>?_) (fun j=>?_)
   ·
    refine(a8) aN st2.b0<|(dc) (fun m=>?_) (fun m=>?_)
    ·
     refine(a8) aN st2.b0<|(dc) (fun o=>?_) (fun o=>?_)
     ·
      refine(a8) aN st2.b0<|(dc) (fun q=>?_) (fun q=>?_)
      ·
       refine(a8) dE st2.b0<|nx ?_;refine WL.c1 (u:=.bool false) (qO (p:=fun _=>false) XW (hk.ext (St.cg st2)) (fun w1 _ y hy=>tF (B y hy))) (by rw [List.any_eq_false.2 (fun _ _=>by simp)]) st2 fun w3 G e=>?_;exact(gG) (tG (aj h<|aj j<|aj m<|aj o q)) (e)
      exact(gG) (tG (aj h<|aj j<|aj m<|aj o q)) (st2)
     refine aX ?_;exact(gG) (tG (aj h<|aj j<|aj m o)) (st2)
    refine aX ?_;exact(gG) (tG (aj h<|aj j m)) (st2)
   refine aX ?_;exact(gG) (tG (aj h j)) (st2)
  refine aX ?_;refine aX ?_;exact(gG) (tG h) (st2)
 intro w3 e;refine(bw) ?_;exact⟨rfl,(St.cg e)⟩
theorem qP{l:List Rec}(hl:Rd RR.ei 8 Z w a n c l) (q:∀x∈l,JA aa x) (s:pT l) (L:l.length≤4000):CR prog 93 #[.slice a n c] w (.bool true):=by
 have hlen:=hl.len;have hle:=hl.le;refine enter func93 rfl ntmps93 rfl<|?_;have aP:=St.s0 w;refine aX ?_;refine bN ?_;refine WC.bq (σ:=Nat) (dn:=fun j=>[(0,.slice a n c),(5,.slice a n c),(6,.int .i64 (n:Int)),(7,.int .i64 (j:Int))]) (F:=fun j=>[]) (I:=fun j=>(j≤n)∧True) (μ:=fun j=>n - j) (0) (aP) Sub.t (⟨by omega,trivial⟩)<|?_;rintro j w1 st1 ⟨u,_⟩;simp only [CA,NA] at st1 u ⊢;refine(aT) (fun g8=>?_) fun g8=>?_
 ·
  simp at g8
  have g:j<l.length:=by omega
  refine de ?_;obtain⟨N,O,P,y,Q,z,A,R⟩:=Rd.at hl g;obtain⟨q1,S,T,rfl,B,U⟩:=z;refine bN ?_;refine WP .r (PV.dQ iG y rfl rfl (by omega))<|(aZ) cV (aW A (St.cg st1) (by simp))<|(eW) st1 fun b4 w2 V W st2=>?_;refine(cI) fY st2 fun w3 X Y i=>?_;refine cq ?_;refine WC.dW (t:=30) (v:=.bool false) i ?_<|?_
  ·
   have YO:=i.bO;refine WC.dB (m:=15) (E:=cB [(1,fun v _=>v=.bool true)]) i (bm (⟨fun _ _ _ _ _ _ _ h=>h,trivial⟩)) mixed (by kernel_rfl)<|(gM) cV St.g0<|?_;refine DW.c0 (fun wx e hF=>vM (B.ext (St.cg e.2)) (q _ (List.getElem_mem g)))<|(ot) (fun g18=>?_) (fun g18=>?_)
   ·
    have Zd:1≤j:=by have h0:=g18;simp at h0;omega
    have o:j - 1<l.length:=by omega
    have AH:bC l[j - 1].key l[j].key<0:=List.pairwise_iff_getElem.1 s (j - 1) j o g (by simp at g18;omega);obtain⟨tA,H6,Fq,C,vt,G,H,nO⟩:=Rd.at hl o;obtain⟨p1,p2,p3,rfl,_,_⟩:=G;refine cq ?_;refine DP .r (fun _ e=>PV.DT iG (j - 1) C rfl rfl (by omega) (by omega))<|nx ?_;refine DP .r (fun _ e=>PV.wg ao (aW H (St.cg e.2) (by simp)) rfl rfl)<|(tr) ao St.g0<|(cQ)<|?_;rintro w4 ⟨J,d⟩ ⟨_,_⟩;refine(eN) (mq (a:=l[j - 1].key) (b:=l[j].key)) d fun w5 s5 K=>?_;exact(cz) (tG g18) (K)
   refine(cQ) ?_;rintro w4 ⟨J,d⟩ ⟨_,_⟩;exact(cz) (tG g18) (d)
  intro w4 d;refine(aT) (fun p=>?_) fun p=>?_
  ·
   exact dz p
  refine ez ?_;refine eC (j+1) ⟨d.drop,⟨by omega,trivial⟩⟩
 simp at g8
 refine aX ?_;refine(bw) ?_;exact⟨by simp;omega,(St.cg st1)⟩
theorem vN{i:Nat}(jo:i≤99) (hk:k=⟨30,itoa i⟩):CR prog 94 #[k.val] w (.bool true):=by
 subst hk;refine enter func94 rfl ntmps94 rfl<|?_;have aP:=St.s0 w;refine(dy) aP fun b1 w1 d e st1=>?_;refine(aZ) ao st1.b0<|(eN) (ic (k:=⟨30,itoa i⟩) ⟨(by decide:(30:Int)≤30),(by decide:(30:Int)≤32)⟩ rfl jo) st1 fun w2 s2 st2=>?_;refine(aZ) ao st2.b0<|?_;refine WL.c1 (u:=.bool true) (cO (k:=⟨30,itoa i⟩)) (by rw [show ay ⟨30,itoa i⟩=true from rfl]) st2 fun w3 g b=>?_;refine(bw) ?_;exact⟨rfl,(St.cg b)⟩
set_option maxHeartbeats 1600000 in
set_option maxRecDepth 100000 in
theorem se(hi:Rd RR.aC 4 Z w a1 n1 e1 x.ab) (hr:Rd RR.ei 8 Z w a2 n2 e2 x.ah) (S:uB aa x):CR prog 52 #[.agg (x.row a1 n1 e1 a2 n2 e2).toArray] w (.bool true):=by
 obtain⟨x0,x1,L,T,x6,U,xs,V,W⟩:=S;have eQ:=hi.len;have LL:=hi.le;have Ey:=hr.len;refine enter func52 rfl ntmps52 rfl<|?_;have aP:=St.s0 w;refine(dy) aP fun b1 w1 Yo Fh st1=>?_;refine de ?_;refine WC.dW (t:=24) (v:=.bool false) st1 ?_<|?_
 ·
  refine(a8) aN st1.b0<|(dc) (fun g8=>?_) (fun g8=>?_)
  ·
   refine aX ?_;exact(cz) (tG g8) (st1)
  refine(a8) aN st1.b0<|(dc) (fun g13=>?_) (fun g13=>?_)
  ·
   exact(cz) (tG (aj g8 g13)) (st1)
  refine(a8) i6 st1.b0<|(dc) (fun g19=>?_) (fun g19=>?_)
  ·
   exact(cz) (tG (aj g8<|aj g13 g19)) (st1)
  refine(a8) dD st1.b0<|(eN) (qP (hr.ext (St.cg st1)) U xs V) st1 fun w2 s2 st2=>?_;exact(cz) (tG (aj g8<|aj g13 g19)) (st2)
 intro w2 st2;refine(aT) (fun g24=>?_) fun g24=>?_
 ·
  exact dz g24
 refine(a8) i6 st2.b0<|de ?_;refine WC.bq (σ:=Nat) (dn:=fun j=>[(1,.pointer (some ⟨b1,0,none⟩)),(26,.slice a1 n1 e1),(27,.int .i64 (n1:Int)),(28,.int .i64 (j:Int))]) (F:=fun j=>[]) (I:=fun j=>(j≤n1)∧True) (μ:=fun j=>n1 - j) (0) (st2) Sub.t (⟨by omega,trivial⟩)<|?_;rintro j w3 o ⟨X,_⟩;simp only [CA,NA] at o X ⊢;refine(aT) (fun C=>?_) fun C=>?_
 ·
  simp at C
  have A:j<x.ab.length:=by omega
  obtain⟨y,hy⟩:∃y,x.ab[j]=y:=⟨_,rfl⟩;obtain⟨i,jo,Y⟩:=T _ (hy ▸ List.getElem_mem A);obtain⟨_,_,hv,hc0,hc1⟩:=L.2 _ (hy ▸ List.getElem_mem A);refine de ?_;obtain⟨gV,k8,ky,cW,gW,G,N,eV⟩:=Rd.at hi A;have G:=RR.ba G;subst G;rw [hy] at N
  have O:j - 1<x.ab.length:=by omega
  obtain⟨z,P⟩:∃z,x.ab[j - 1]=z:=⟨_,rfl⟩;refine bN ?_;refine WP .r (PV.dQ qC cW rfl rfl (by omega))<|(aZ) ks (aW N (St.cg o) (by simp))<|(eW) o fun b4 w4 Ff IK H=>?_;refine(cI) zs H fun w5 jS jZ J=>?_;refine cq ?_;refine WC.dW (t:=71) (v:=.bool false) J ?_<|?_
  ·
   have PF:=J.bO;refine WC.dB (m:=37) (E:=cB [(2,fun v _=>v=.bool true),(17,fun v _=>v=.int .i64 (bC z.key y.key))]) J (bm (⟨fun _ _ _ _ _ _ _ h=>h,⟨fun _ _ _ _ _ _ _ h=>h,trivial⟩⟩)) mixed (by kernel_rfl)<|(tr) ao St.g0<|?_;refine DW.c0 (fun wx B hF=>vN jo Y)<|(ot) (fun e=>?_) (fun e=>?_)
   ·
    have Zd:1≤j:=by have h0:=e;simp at h0;omega
    have AH:bC z.key y.key<0:=by rw [← hy,← P];exact List.pairwise_iff_getElem.1 L.1 (j - 1) j O A (by omega)
    obtain⟨tA,H6,Fq,kO,vt,K,Q,nO⟩:=Rd.at hi O;have K:=RR.ba K;subst K;rw [P] at Q;refine(iu) i6 St.g1<|bN ?_;refine DP .r (fun _ B=>PV.DT qC (j - 1) kO rfl rfl (by omega) (by omega))<|nx ?_;refine DP .r (fun _ B=>PV.wg ao (aW Q (St.cg B.2) (by simp)) rfl rfl)<|(tr) ao St.g0<|?_;refine DW.c0 (fun wx B hF=>mq (a:=z.key) (b:=y.key))<|(ot) (fun u=>?_) (fun u=>?_)
    ·
     refine aX ?_;refine(cQ) ?_;rintro w6 ⟨s,d⟩ ⟨_,⟨_,_⟩⟩;exact(cz) (tG (aj e u)) (d)
    refine(iu) fw St.g0<|(ot) (fun g=>?_) (fun g=>?_)
    ·
     refine(cQ) ?_;rintro w6 ⟨s,d⟩ ⟨_,⟨_,_⟩⟩;exact(cz) (tG (aj e<|aj u g)) (d)
    refine(iu) aN St.g0<|(ot) (fun q=>?_) (fun q=>?_)
    ·
     refine(cQ) ?_;rintro w6 ⟨s,d⟩ ⟨_,⟨_,_⟩⟩;exact(cz) (tG (aj e<|aj u<|aj g q)) (d)
    refine(iu) aN St.g0<|(iu) aN St.g1<|(cQ)<|?_;rintro w6 ⟨s,d⟩ ⟨_,⟨_,_⟩⟩;exact(cz) (tG (aj e<|aj u<|aj g q)) (d)
   refine aX ?_;refine(iu) fw St.g0<|(ot) (fun g=>?_) (fun g=>?_)
   ·
    refine(cQ) ?_;rintro w6 ⟨s,d⟩ ⟨_,_⟩;exact(cz) (tG (aj e g)) (d)
   refine(iu) aN St.g0<|(ot) (fun q=>?_) (fun q=>?_)
   ·
    refine(cQ) ?_;rintro w6 ⟨s,d⟩ ⟨_,_⟩;exact(cz) (tG (aj e<|aj g q)) (d)
   refine(iu) aN St.g0<|(iu) aN St.g1<|(cQ)<|?_;rintro w6 ⟨s,d⟩ ⟨_,_⟩;exact(cz) (tG (aj e<|aj g q)) (d)
  intro w6 d;refine(aT) (fun R=>?_) fun R=>?_
  ·
   exact dz R
  refine ez ?_;refine eC (j+1) ⟨d.drop,⟨by omega,trivial⟩⟩
 simp at C
 refine(a8) dD o.b0<|?_;refine WP .r (PV.func (us:=[]) (vs:=[.pointer (some ⟨b1,0,none⟩)]) rfl rfl)<|(eN) (r9 (p:=fun r=>decide (x.ad<r.av)) aeq (hr.ext (St.cg o)) (fun wq hq y _ a n c _=>sc ((As.gb o.g0).ext hq)) (fun y hy=>by have:=W y hy;simp;omega)) o fun w4 s4 H=>?_;refine(bw) ?_;exact⟨by simp,(St.cg H)⟩
theorem ti(g:St w M Z w [As.os RR.key 40 2 a n c l]) (h0:l≠[]) (hn:l.length≤1000000):Calls prog 68 #[.slice a n c,.func (.func 66) #[] #[]] w fun e w'=>e=.returned (.tuple #[])∧∃l',l'.Perm l∧(l'.Pairwise fun x y=>¬bC y x<0)∧St w M Z w' [As.os RR.key 40 2 a n c l']:=
 x3 (row:=Key.cells) (key:=fun x=>x) (fun _=>rfl) (fun x v b=>by(simp [Key.cells] at b;rcases b with rfl | rfl <;> rfl)) (fun blk cap d w hc hH hb h=>slices_SortFunc 2 isAgg40 sizeOf40 Key.cells (fun _=>rfl) (fun x v b=>by(simp [Key.cells] at b;rcases b with rfl | rfl <;> rfl)) _ GG 66 #[] blk 0 cap d w W4 hc hH hb h) (fun x y w=>mq) g h0 hn
set_option maxHeartbeats 400000
theorem zY{x y:Rec × RL} :CR prog 65 #[.agg (Rec.y9 x).toArray,.agg (Rec.y9 y).toArray] w (.int .i64 (bC x.1.key y.1.key)):=by
 refine enter func65 rfl ntmps65 rfl<|?_;have aP:=St.s0 w;refine(dy) aP fun b2 w1 e g st1=>?_;refine(dy) st1 fun b3 w2 h i st2=>?_;refine(hW) ao st2.b1<|(hW) ao st2.b0<|(eN) (mq (a:=x.1.key) (b:=y.1.key)) st2 fun w3 j d=>?_;refine(bw) ?_;exact⟨rfl,(St.cg d)⟩
instance:Inhabited (Rec × RL):=⟨(nj,⟨0,none,0,0⟩)⟩
theorem zZ{l:List (Rec × RL)}(b:St w M Z w [As.os RR.EH 88 8 a n c l]) (h0:l≠[]) (hn:l.length≤1000000):Calls prog 64 #[.slice a n c,.func (.func 65) #[] #[]] w fun e w'=>e=.returned (.tuple #[])∧∃l',l'.Perm l∧(l'.Pairwise fun x y=>¬bC y.1.key x.1.key<0)∧St w M Z w' [As.os RR.EH 88 8 a n c l']:=
 x3 (row:=Rec.y9) (key:=fun x=>x.1.key) (fun _=>rfl) Rec.Rg (fun blk cap d w hc hH hb g=>slices_SortFuncR 8 isAgg88 sizeOf88 Rec.y9 (fun _=>rfl) Rec.Rg _ GG 65 #[] blk 0 cap d w call65 hc hH hb g) (fun x y w=>zY) b h0 hn
set_option maxHeartbeats 400000
set_option maxHeartbeats 1600000 in
theorem wY{goals:List Key}{ar P:Option Addr}{r cr g eg f:Nat}{s':ES}(Q:aq aa) (gE:St w M Z w []) (hu:Rd RR.eX 4 Z w ar r cr aa) (hi:Rd RR.aC 4 Z w a1 n1 e1 x.ab) (hr:Rd RR.ei 8 Z w a2 n2 e2 x.ah) (R:Rd RR.key 2 Z w P g eg goals) (ht:lE prog Z w) (PU:gI aa x goals=0) (FL:Good aa x.ab ⟨x,[],[],0⟩) (hk:∀k∈goals,dX aa k) (S:x.ab.length≤1000000)
 (KQ:dK aa (valOf aa x.ab) f ⟨x,[],[],0⟩ goals=some s') (zM:s'.bj.length≤1000000):Calls prog 49 #[.slice ar r cr,.agg (x.row a1 n1 e1 a2 n2 e2).toArray,.slice P g eg] w fun e w'=>∃Ze Zg Zi Zj Zk Zl ag' g' eg' Z',e=.returned (.tuple #[.agg ((s'.base x).row Ze Zg Zi Zj Zk Zl).toArray,.slice ag' g' eg',.int .i64 s'.e])∧bH w.heap.size Z Z'∧Rd RR.aC 4 Z' w' Ze Zg Zi (s'.base x).ab∧Rd RR.ei 8 Z' w' Zj Zk Zl (s'.base x).ah∧St w M Z' w' [As.os RR.key 40 2 ag' g' eg' s'.list]:=by
 have N9:=R.len;have LA:=R.le
 have h6:x.ah.length≤1000000:=by have:=FL.len;simp only at this;omega
 refine enter func49 rfl ntmps49 rfl<|?_;have aP:=St.rb gE;have st1:=aP.fr hu;have st2:=st1.fr hi;have iV:=st2.fr hr;have iq:=iV.fr R;have i7:=iq.fact (B:=As.fz (FZ.Js prog)) ht (fun _ hx=>hx);refine(dy) i7 fun b4 w1 Ff IK iE=>?_;refine(eW) iE fun b6 w2 DD IF hJ=>?_;refine(aZ) aM hJ.b1<|?_;have J:=hJ;refine(bX) zy (fx J.e0 (As.gr J.g5) (As.gr J.g4) h6 S) ?_;rintro _ w3 ⟨f1,f2,f3,f4,f5,f6,Z1,rfl,nS,T⟩;have iH:=St.lv J T nS;have FM:=St.bP T;have FN:=St.bP T.p1;have U:=J.size;have wt:=nS.le U;have FW:=St.fresh iH;have eD:=iH.aY (by omega);have FX:=St.fresh eD.p1;have di:=eD.p1.aY (by omega);have mG:=(wt.trans (bH.dA (F:=fun x=>x∈aI f1) FM) U).trans (bH.dA (F:=fun x=>x∈aI f4) FN) U;refine(cI) dL di.p3 fun w4 jS jZ E=>?_;refine(aZ) aM E.b0<|(bX) Sn (lh (As.gr E.g8) (As.gr E.g2) (As.gr E.g1) (As.gr E.g5)) ?_;rintro _ w5 ⟨rfl,s5⟩;rw [PU];have dm:=E.step s5;refine(aT) (fun g20=>?_) fun g20=>?_
 ·
  exact absurd g20 (by simp)
 refine cq ?_;refine WC.bL (m:=6) [] [2,4] [0,1,2,3,4,5] [(5,.map)] dm (ai.k4 M0 M1 M2 M3<|ai.k4 M4 M5 M6 M7<|ai.cons M8<|ai.nil) mixed (by kernel_rfl) (by kernel_rfl) rfl<|(lx) aM SV.g0<|(fM) (fun w6 Oa Aa db qQ=>?_);simp only [CA,NA] at db;have ed:=db;refine OX.call W9 rfl rfl ((vx (x:=x) ed.e0).mono ?_);rintro _ w7 ⟨d1,d2,d3,rfl,jE⟩;have gx:=St.lr ed jE;refine⟨_,rfl,jE.bV.size,_,rfl,_,_,_,gx,aw.k4<|aw.k4<|aw.k4<|aw.nil,ai.k4 M3 M4 M5 M6<|ai.k4 M7 M8 M9 gN<|ai.cons hU<|ai.nil,?_⟩;refine(lx) aM SV.g0<|(fM) (fun w8 PO vI ew lQ=>?_);simp only [CA,NA] at ew;have K:=ew;refine OX.call zy rfl rfl ((fx K.e0 (As.gr K.g5) (As.gr K.g4) h6 S).mono ?_);rintro _ w9 ⟨q1,q2,q3,V,q5,q6,Z3,rfl,qJ,L⟩;have dG:=St.lv K L qJ;have agp:=St.bP L;have agq:=St.bP L.p1;have W:=K.size;have mU:=mG.trans qJ W;have agr:=St.fresh dG;have dP:=dG.aY (by omega);have ags:=St.fresh dP.p1;have fA:=dP.p1.aY (by omega);have qL:=(mU.trans (bH.dA (F:=fun x=>x∈aI q1) agp) W).trans (bH.dA (F:=fun x=>x∈aI V) agq) W;refine⟨_,rfl,L.bV.size,_,rfl,_,_,_,fA,aw.k4<|aw.k4<|aw.k4<|aw.k2<|aw.nil,ai.k4 M5 M6 M7 M8<|ai.k4 M9 gN hU jG<|ai.cons mu<|ai.nil,?_⟩;refine DG.side (s:=.map) rfl rfl rfl rfl rfl rfl (fun wx Zx Rx pV pN=>OX.makeMap Key.val rfl fun b wy nw hb=>⟨nw.ext.size,_,rfl,⟨b,rfl⟩,pN.Mc nw hb⟩)<|?_;rintro _ ⟨X,rfl⟩;refine(jm) ?_;intro iS vO dI;simp only [CM,NM,CA,NA,hV.it] at dI;refine WP .r (PV.bB (us:=(EA.cells ⟨q1,V,none,q2,q3,q5,q6,0,0⟩ d1 X ⟨x,[],[],0⟩)) WR rfl rfl rfl)<|(dy) dI fun b30 iX Yk Yl eJ=>?_;refine nx ?_;refine WL.nil (EX.np ?_);have o:=eJ.p5.p5;have ee:=o.join (C:=As.jM prog 176 aa x ⟨ar,f1,f4,r,cr,f2,f3,f5,f6,d2,d3,d1⟩) ⟨o.V3,(As.gb o.g0),⟨[],aU.nil,(As.gm o.g1)⟩,⟨(As.gr o.g15),(As.gr o.g9),(As.gr o.g8),(As.gf o.g11)⟩⟩ (fun y h=>h);have eP:=ee.dq RR.key 40 2;refine jL ?_;refine WC.ia (σ:=Nat × ES × EA × (Nat→Prop)) (dn:=fun(j,s1,d,z)=>[(4,.pointer (some ⟨b4,0,none⟩)),(6,.pointer (some ⟨b6,0,none⟩)),(10,.pointer (some ⟨b30,0,none⟩)),(31,.slice P g eg),(32,.int .i64 (g:Int)),(33,.int .i64 (j:Int))]) (F:=fun(j,s1,d,z)=>[As.blk b30 140 (EA.cells d d1 X s1),As.map Key.val X s1.busy,As.os RR.key 40 2 d.a3 d.n3 d.c3 s1.bj,As.ro RR.aC 4 d.a1 d.n1 d.c1 s1.b.ab,As.ro RR.ei 8 d.a2 d.n2 d.c2 s1.b.ah]) (I:=fun(j,s1,d,z)=>(dK aa (valOf aa x.ab) f s1 (goals.drop j)=some s')∧(Good aa x.ab s1)∧(j≤g)∧(bH w.heap.size Z z)∧True) (μ:=fun(j,s1,d,z)=>g - j) (Zf:=fun(j,s1,d,z)=>z) (0,⟨x,[],[],0⟩,⟨q1,V,none,q2,q3,q5,q6,0,0⟩,_) (eP.p4.p5.p2.p5.p5) Sub.t (⟨KQ,FL,Nat.zero_le _,qL,trivial⟩)<|?_;rintro⟨j,s1,d,z⟩ ly p ⟨A,Y,hj,N,_⟩;simp only [CA,NA] at p A Y hj N ⊢;refine(aT) (fun g34=>?_) fun g34=>?_
 ·
  simp at g34
  have FC:j<goals.length:=by omega
  rw [List.drop_eq_getElem_cons FC] at A;simp only [dK] at A;obtain⟨t,PI,FO⟩:=Option.bind_eq_some_iff.1 A;have UQ:=hk goals[j] (List.getElem_mem FC);have LM:=(cy (val:=valOf aa x.ab) Q f).1 _ _ _ PI Y UQ;have YJ:=pr Q FO LM.1 (fun k DA=>hk k (List.mem_of_mem_drop DA));refine de ?_;obtain⟨gV,k8,ky,cW,gW,gg,eG,eV⟩:=Rd.at (As.gr p.g12) FC;have gg:=RR.ba gg;subst gg;have G:=p.fg eV eG;refine nx ?_;refine WP .r (PV.dQ et cW rfl rfl (by omega))<|(aZ) ao (As.lG G.g0)<|(eW) G fun b12 oo Zm Zn q=>?_;refine(cI) hP q fun r7 re mz u=>?_;refine(aZ) ao u.b0<|?_;have i:=u.p4.p4.p7.p5;refine(bX) Sq (Tu (D:=⟨ar,f1,f4,r,cr,f2,f3,f5,f6,d2,d3,d1⟩) Q S f _ _ _ _ _ _ _ i.e4 (As.gr i.g6) (As.gr i.g7) Y UQ PI (by have:=YJ.2.bj;omega)) ?_;rintro _ pU ⟨E2,Z6,rfl,vP,hi6,Zo,vQ⟩;have O:=St.lv i vQ vP;have Ab:=N.trans vP i.size;have H:=O.fr (hi6);have pO:=H.fr (Zo);have lR:=pO.p8.drop;have j3:=lR.p8.drop;refine ez ?_;refine eC (j+1,t,E2,Z6) ⟨j3.p6.drop.p6.drop.p1.p5.p5.p4,⟨FO,LM.1,by omega,Ab,trivial⟩⟩
 simp at g34
 rw [List.drop_eq_nil_of_le (by omega)] at A;simp only [dK,Option.some.injEq] at A;subst A;refine(a8) ye p.b0<|(aT) (fun v=>?_) fun v=>?_
 ·
  simp at v
  have G:=p.dq RR.key 40 2;refine nx ?_;refine WC.bL (m:=7) [] [5] [0,5,1,2,3,4,6] [] G (ai.k4 M0 M1 M2 M3<|ai.k4 M4 M5 M6 M7<|ai.k4 M8 M9 gN jG<|ai.k4 mu tJ DJ Iu<|ai.nil) mixed (by kernel_rfl) (by kernel_rfl) rfl<|(lx) aM SV.g8<|?_;refine DG.cs rfl rfl rfl rfl rfl (fun oo G2 qR q jF=>?_);simp only [CA,NA] at q;refine OX.mx dL (As.gb q.g11) rfl rfl rfl rfl rfl fun r7 zB _ sw=>?_;have u:=q.kB.Br zB sw;refine⟨zB.size,rfl,_,_,_,u,aw.k4<|aw.k4<|aw.k4<|aw.k4<|aw.cons<|aw.nil,ai.k4 M1 M2 M3 M4<|ai.k4 M5 M6 M7 M8<|ai.k4 M9 gN hU jG<|ai.k4 mu tJ DJ Iu<|ai.nil,?_⟩
  iterate 3 refine DG.a ?_
  refine(ou) ye SV.g1<|(jm) ?_;intro pU GZ i;simp only [CM,NM,CA,NA,hV.it] at i;refine nx ?_;refine WL.nil (EX.np ?_);refine cq ?_;refine EX.ey rfl (RS.cell aM rfl i.b0 rfl<|RS.tmp rfl<|RS.tmp rfl<|RS.nil) rfl<|?_;have hb:s1.base x=x:=if_neg v;have hl:s1.list=[]:=if_neg v;exact⟨f1,f2,f3,f4,f5,f6,none,0,0,_,by rw [hb],N,by rw [hb];exact(As.gr i.g11),by rw [hb];exact(As.gr i.g10),by rw [hl];exact(St.wk i.p1.k1)⟩
 simp at v
 refine cq ?_;have OS:=((As.gs p.g2)).len;have TT:=St.fresh p.p2;have G:=p.p2.aY (by omega);have hZr:=N.trans (bH.dA (F:=fun x=>x∈aI d.a3) TT) (Nat.le_refl _);refine WC.bL (m:=9) [] [8] [4,5,6,7,8,0,1,2,3] [] G (ai.k4 M0 M1 M2 M3<|ai.k4 M4 M5 M6 M7<|ai.k4 M8 M9 gN hU<|ai.k4 jG mu tJ DJ<|ai.nil) mixed (by kernel_rfl) (by kernel_rfl) rfl<|?_
 iterate 3 refine DG.a ?_
 refine(ou) dE SV.g1<|(fM) (fun oo R8x TU q CW=>?_);simp only [CA,NA] at q;have u:=q;refine OX.call Sh rfl rfl ((mi u.e0 (As.gr u.g0) (fun _ h _=>h) zM).mono ?_);rintro _ r7 ⟨o1,o2,o3,rfl,CX⟩;have i:=St.lr u CX;refine⟨_,rfl,CX.bV.size,_,rfl,_,_,_,i,aw.k4<|aw.k4<|aw.k4<|aw.k4<|aw.cons<|aw.nil,ai.k4 M1 M2 M3 M4<|ai.k4 M5 M6 M7 M8<|ai.k4 M9 gN hU jG<|ai.k4 mu tJ DJ Iu<|ai.nil,?_⟩
 iterate 3 refine DG.a ?_
 refine(yI) aM SV.g1<|(jm)<|?_;intro pU CE O;simp only [CM,NM,CA,NA,hV.it] at O;refine(cI) dL O.kB fun tE LI LJ H=>?_;refine bN ?_;refine WL.nil (EX.np ?_);refine bN ?_;refine EX.ey rfl (RS.cell aM rfl H.b0 rfl<|RS.tmp rfl<|RS.tmp rfl<|RS.nil) rfl<|?_;have hb:s1.base x=s1.b:=if_pos v;have hl:s1.list=jP s1.bj:=if_pos v;exact⟨d.a1,d.n1,d.c1,d.a2,d.n2,d.c2,o1,o2,o3,_,by rw [hb,v];rfl,hZr,by rw [hb];exact(As.gr H.g5),by rw [hb];exact(As.gr H.g6),by rw [hl];exact(St.wk H.p1.k1)⟩
set_option maxHeartbeats 400000
set_option maxHeartbeats 400000
set_option maxHeartbeats 400000
theorem Ob(b:aq aa) (q:∀k,(valOf aa x.ab k).size≤1000):∀i:Nat,i<aa.length→PN aa x D (aL aa (i:Int)):=by
 intro i;have A:=b.len;have low:∀n:Nat,n≤15→PN aa x D (bZ (n:Int)):=fun n hn w M Z ml al d e hm _=>th d e hm (bp (by omega))
 induction i using Nat.strongRecOn with
 | _ i r=>
  intro hi w M Z ml al d e hm g
  have jo:i≤99:=by omega
  have u:lK aa i al:=by
   have h:=g (dj hi jo);rw [ck hi jo,Int.toNat_natCast] at h;exact h
  refine FR d e hm b hi q u (fun hr w M Z ml al d e hm g=>?_) (fun hr a o=>?_)
  ·
   rw [ck hi jo,Int.toNat_natCast] at g;refine zV d e hm b q hi hr g fun j s a o hc=>?_;have p:=o.QM b
   rcases o with⟨n,hn,rfl⟩ | ⟨m,hm,rfl,h1,t,B,v⟩
   ·
    exact low n hn
   have y:aF aa m=false:=by
    rw [hc,eF hm (by omega)] at p
    cases h:aF aa m
    ·
     rfl
    rw [h] at p;simp at p
   have C:bE aa j≤i:=Nat.le_trans (kg b s) (gu aa i)
   have z:m<i:=by
    have:=v y (jc hi hr s).2
    omega
   exact r m z hm
  rcases o with⟨n,hn,rfl⟩ | ⟨m,hm,rfl,_,t,_⟩
  ·
   exact low n hn
  exact r m (t hr) hm
theorem K5(b:aq aa) (d:∀k,(valOf aa x.ab k).size≤1000) {k:Key}(hk:dX aa k):PN aa x D k:=by
 cases hk with
 | cell h=>exact fun w M Z ml al e g hm _=>th e g hm (bp h)
 | eX h _=>exact Ob b d _ h
end Go.Rc

