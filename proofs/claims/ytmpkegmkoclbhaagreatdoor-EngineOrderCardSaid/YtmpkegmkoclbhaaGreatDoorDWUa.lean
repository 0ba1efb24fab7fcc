/- Walks over the program, part WUa. Conditions: as each theorem says. -/
import Derived.Test.YtmpkegmkoclbhaaGreatDoorDFacts
import Derived.Test.YtmpkegmkoclbhaaGreatDoorDWU
import Derived.Test.YtmpkegmkoclbhaaGreatDoorDBf
import Derived.Test.YtmpkegmkoclbhaaGreatDoorDBg
import Derived.Test.YtmpkegmkoclbhaaGreatDoorDWB
import Derived.Test.YtmpkegmkoclbhaaGreatDoorDBh
import Derived.Test.YtmpkegmkoclbhaaGreatDoorShelf
import Derived.Test.YtmpkegmkoclbhaaGreatDoorDBi
import Derived.Test.YtmpkegmkoclbhaaGreatDoorDWLibE
import Derived.Test.YtmpkegmkoclbhaaGreatDoorDBd
set_option linter.all false
namespace Go.Rc
open Go Go.Proofs Go.Proofs.Tryz
variable {n c n1 e1 n2 e2:Nat}{w:World}{a a1 a2:Option Addr}{aa:List aH}{k:Key}{l:List Key}{f:FuncId}{Z M:Nat→Prop}{x:bZ}{D:SD}
set_option maxHeartbeats 400000
theorem vK{n:Int} :CR prog 163 #[.int .i64 n] w (.bool false):=by
 refine enter func163 rfl ntmps163 rfl<|?_;have aQ:=St.s0 w;refine aY ?_;refine(bz) ?_;exact⟨by simp,(St.cg aQ)⟩
theorem zT{a b:Int} :CR prog 116 #[.int .i64 a,.int .i64 b] w (.int .i64 (wC a b)):=by
 refine enter func116 rfl ntmps116 rfl<|?_;have aQ:=St.s0 w;refine(eP) (vK) aQ fun w1 s1 st1=>?_;refine(eP) (vK) st1 fun w2 s2 st2=>?_;refine kS ?_;refine WC.fK rfl<|gV ?_;refine WC.fK rfl<|(aS) (fun g16=>?_) fun g16=>?_
 ·
  simp at g16
  refine(bz) ?_;exact⟨by unfold wC;rw [if_pos g16],(St.cg st2)⟩
 simp at g16
 refine(aS) (fun g19=>?_) fun g19=>?_
 ·
  simp at g19
  refine(bz) ?_;exact⟨by unfold wC;rw [if_neg (by omega),if_pos g19],(St.cg st2)⟩
 simp at g19
 refine(bz) ?_;exact⟨by unfold wC;rw [if_neg (by omega),if_neg (by omega)],(St.cg st2)⟩
theorem zU{l:List Int}{A:Nat→Prop}(hl:Ints A w a n c l):CR prog 115 #[.slice a n c] w (.int .i64 (QL l)):=by
 have hle:=SR.le hl;have hlen:=SR.len hl;refine enter func115 rfl ntmps115 rfl<|?_;have aQ:=St.s0 w;refine aY ?_;refine ez ?_;refine WC.br (σ:=Nat) (dn:=fun i=>[(3,.int .i64 0),(6,.slice a n c),(7,.int .i64 (n:Int)),(8,.int .i64 (i:Int))]) (F:=fun i=>[]) (I:=fun i=>(i≤n)∧(∀j x,j<i→l[j]?=some x→x=0)∧True) (μ:=fun i=>n - i) (0) (aQ) Sub.t (⟨by omega,fun j x h=>by omega,trivial⟩)<|?_;rintro i w1 st1 ⟨hi,b,_⟩;simp only [CA,NA] at st1 hi b ⊢;refine(aS) (fun g9=>?_) fun g9=>?_
 ·
  simp at g9
  have d:i<l.length:=by omega
  obtain⟨p,q,s,e,_,rfl,g,_⟩:=(SR.ext hl (St.cg st1)).at (ak d);refine fL ?_;refine WP .r (PV.dU E0 e rfl rfl (by omega))<|WP .r (PV.mq aP g rfl rfl)<|(aS) (fun g14=>?_) fun g14=>?_
  ·
   simp at g14
   refine(bz) ?_;exact⟨by rw [QM d b g14],(St.cg st1)⟩
  simp at g14
  refine ez ?_;refine eB (i+1) ⟨st1,⟨by omega,cG d b (by simpa using g14),trivial⟩⟩
 simp at g9
 refine(bz) ?_;exact⟨by rw [Mv (fun x m=>by obtain⟨j,o,rfl⟩:=List.mem_iff_getElem.1 m;exact b j _ (by omega) (ak o))],(St.cg st1)⟩
theorem mh{a b:Key} :CR prog 66 #[a.val,b.val] w (.int .i64 (bC a b)):=by
 refine enter func66 rfl ntmps66 rfl<|?_;have aQ:=St.s0 w;refine(dy) aQ fun b2 w1 p q st1=>?_;refine(dy) st1 fun b3 w2 r s st2=>?_;refine cy ?_;have t:=st2.bN;refine WC.dB (m:=9) (E:=cB [(4,fun v _=>v=.int .i64 (wC a.kind b.kind))]) st2 (bm (⟨fun _ _ _ _ _ _ _ h=>h,trivial⟩)) mixed (by kernel_rfl)<|(iv) aP St.g1<|(iv) aP St.g0<|?_;refine DW.c0 (fun y z A=>zT)<|(iv) fy St.g1<|(iv) fy St.g0<|(cQ)<|?_;rintro w3 ⟨B,e⟩ ⟨_,_⟩;refine(eP) (oM a.text b.text w3) e fun w4 C g=>?_;refine WL.go rfl (OX.aR (us:=[.int .i64 (wC a.kind b.kind),.int .i64 (Lib.compareBytes a.text.data.toList b.text.data.toList)]) RO rfl rfl rfl rfl fun F w5 i j=>?_);have d:=g.da i j;refine WL.c1 (u:=.int .i64 (bC a b)) (zU (l:=[wC a.kind b.kind,Lib.compareBytes a.text.data.toList b.text.data.toList]) (SR.Qi (rows:=[[.int .i64 (wC a.kind b.kind)],[.int .i64 (Lib.compareBytes a.text.data.toList b.text.data.toList)]]) (As.gb d.g0) rfl (by simp) (by simp [Value.oneCell']) (by simp) (BM rfl rfl))) (by rw [Mw]) d fun w6 G o=>?_;refine(bz) ?_;exact⟨rfl,(St.cg o)⟩
theorem tC(hk:ep aa k):CR prog 191 #[k.val] w (.bool false):=by
 obtain⟨i,jr,b,d⟩:=hk.shape;refine enter func191 rfl ntmps191 rfl<|?_;have aQ:=St.s0 w;refine(dy) aQ fun b1 w1 e g st1=>?_;refine(aZ) ao st1.b0<|(eP) (ib (k:=k) d b jr) st1 fun w2 s2 st2=>?_;refine(bz) ?_;exact⟨rfl,(St.cg st2)⟩
theorem vL{p:Key→Bool}(m:CF prog f) (hl:Rd RR.key 2 Z w a n c l) (o:∀w1,aT [] w w1→∀x∈l,Calls prog f #[x.val] w1 fun e w'=>e=.returned (.bool (p x))∧aT [] w1 w'):Calls prog 97 #[.slice a n c,.func (.func f) #[] #[]] w fun e w'=>∃j:Int,e=.returned (.int .i64 j)∧uA l p j∧aT [] w w':=by
 have hlen:=hl.len;have hle:=hl.le;refine enter func97 rfl ntmps97 rfl<|?_;have aQ:=St.s0 w;refine aY ?_;refine bO ?_;refine WC.br (σ:=Nat) (dn:=fun i=>[(0,.slice a n c),(1,.func (.func f) #[] #[]),(7,.int .i64 (n:Int)),(8,.int .i64 (i:Int))]) (F:=fun i=>[]) (I:=fun i=>(i≤n)∧(∀j x,j<i→l[j]?=some x→p x=false)∧True) (μ:=fun i=>n - i) (0) (aQ) Sub.t (⟨by omega,fun j x h=>by omega,trivial⟩)<|?_;rintro i w1 st1 ⟨hi,b,_⟩;simp only [CA,NA] at st1 hi b ⊢;refine(aS) (fun g9=>?_) fun g9=>?_
 ·
  simp at g9
  have d:i<l.length:=by omega
  refine kg ?_;obtain⟨z,A,B,q,C,g,s,E⟩:=Rd.at hl d;have g:=RR.bd g;subst g;refine cy ?_;refine WP .r (PV.dU eA q rfl rfl (by omega))<|(aZ) ao (aW s (St.cg st1) (by simp))<|?_;refine WL.go rfl (OX.na m rfl rfl rfl ((Calls.VN (o _ (St.cg st1) l[i] (List.getElem_mem d))).mono ?_));rintro _ w2 ⟨rfl,s2⟩;refine⟨_,rfl,?_⟩;have st2:=st1.step s2;refine(aS) (fun g16=>?_) fun g16=>?_
  ·
   refine(bz) ?_;exact⟨_,rfl,.inl ⟨i,_,ak d,g16,b,rfl⟩,(St.cg st2)⟩
  have g16:p l[i]=false:=by simpa using g16
  refine ez ?_;refine eB (i+1) ⟨st2,⟨by omega,cG d b (by simpa using g16),trivial⟩⟩
 simp at g9
 have u:∀x∈l,p x=false:=fun x v=>by obtain⟨j,y,rfl⟩:=List.getElem_of_mem v;exact b j _ (by omega) (ak y)
 refine(bz) ?_;exact⟨_,rfl,.inr ⟨u,rfl⟩,(St.cg st1)⟩
theorem qK{p:Key→Bool}(b:CF prog f) (hl:Rd RR.key 2 Z w a n c l) (d:∀w1,aT [] w w1→∀x∈l,Calls prog f #[x.val] w1 fun e w'=>e=.returned (.bool (p x))∧aT [] w1 w'):CR prog 53 #[.slice a n c,.func (.func f) #[] #[]] w (.bool (l.any p)):=by
 refine enter func53 rfl ntmps53 rfl<|?_;have aQ:=St.s0 w;refine(bY) Sl (vL (w:=w) b (hl.ext (St.cg aQ)) (fun w1 h1=>d w1 (aT.trans (St.cg aQ) h1))) ?_;rintro _ w1 ⟨j,rfl,g,s1⟩;have st1:=aQ.step s1;have h:=g.any;refine(bz) ?_;exact⟨by rw [h],(St.cg st1)⟩
set_option maxHeartbeats 1600000 in
theorem vM{x:Rec}(hk:Rd RR.key 2 Z w a n c x.reads) (z:JE aa x):CR prog 139 #[.agg (x.row a n c).toArray] w (.bool true):=by
 have hlen:=hk.len;obtain⟨h1,A,B,r⟩:=z;obtain⟨i,jr,C,E⟩:=h1.shape;have F:=h1.cY;rw [ft] at r;obtain⟨_,_,_,v4,v5,v6,I,J,v9,v10,v11⟩:=r;refine enter func139 rfl ntmps139 rfl<|?_;have aQ:=St.s0 w;refine(dy) aQ fun b1 w1 K L st1=>?_;refine dd ?_;refine WC.dZ (t:=34) (v:=.bool false) st1 ?_<|?_
 ·
  refine(hW) ao st1.b0<|(eP) (ib (k:=x.key) E C jr) st1 fun w2 s2 st2=>?_;refine(hW) ao st2.b0<|?_;refine WL.c1 (u:=.bool false) (cO (k:=x.key)) (by rw [A]) st2 fun w3 G e=>?_;refine(a7) fy e.b0<|(db) (fun g19=>?_) (fun g19=>?_)
  ·
   refine aY ?_;exact(cA) (by first | (simp only [g19];done) | (simp [g19];done) | (have g:x.key.kind=32:=qf h1 (by simpa [g19] using v11);simp [g19,g];done) | (simp at g19 ⊢ <;> omega) | (simp [g19] <;> omega)) (e)
  refine(a7) dE e.b0<|(db) (fun b=>?_) (fun b=>?_)
  ·
   exact(cA) (by first | (simp only [g19,b];done) | (simp [g19,b];done) | (have g:x.key.kind=32:=qf h1 (by simpa [g19,b] using v11);simp [g19,b,g];done) | (simp at g19 b ⊢ <;> omega) | (simp [g19,b] <;> omega)) (e)
  refine(a7) dH e.b0<|(db) (fun d=>?_) (fun d=>?_)
  ·
   refine(hW) ao e.b0<|(eP) (fJ (k:=x.key) F) e fun w4 N H=>?_;exact(cA) (by first | (simp only [g19,b,d];done) | (simp [g19,b,d];done) | (have g:x.key.kind=32:=qf h1 (by simpa [g19,b,d] using v11);simp [g19,b,d,g];done) | (simp at g19 b d ⊢ <;> omega) | (simp [g19,b,d] <;> omega)) (H)
  exact(cA) (by first | (simp only [g19,b,d];done) | (simp [g19,b,d];done) | (have g:x.key.kind=32:=qf h1 (by simpa [g19,b,d] using v11);simp [g19,b,d,g];done) | (simp at g19 b d ⊢ <;> omega) | (simp [g19,b,d] <;> omega)) (e)
 intro w2 st2;refine(aS) (fun s=>?_) fun s=>?_
 ·
  exact dL s
 refine gV ?_;refine WC.kR (t:=2) (v:=.bool true) st2 ?_<|?_
 ·
  refine(a7) aP st2.b0<|(db) (fun h=>?_) (fun h=>?_)
  ·
   refine(a7) aP st2.b0<|(a7) aP st2.b0<|(db) (fun j=>?_) (fun j=>?_)
   ·
    refine(a7) aP st2.b0<|(db) (fun m=>?_) (fun m=>?_)
    ·
     refine(a7) aP st2.b0<|(db) (fun o=>?_) (fun o=>?_)
     ·
      refine(a7) aP st2.b0<|(db) (fun q=>?_) (fun q=>?_)
      ·
       refine(a7) dE st2.b0<|nx ?_;refine WL.c1 (u:=.bool false) (qK (p:=fun _=>false) XL (hk.ext (St.cg st2)) (fun w1 _ y hy=>tC (B y hy))) (by rw [List.any_eq_false.2 (fun _ _=>by simp)]) st2 fun w3 G e=>?_;exact(gH) (tG (aj h<|aj j<|aj m<|aj o q)) (e)
      exact(gH) (tG (aj h<|aj j<|aj m<|aj o q)) (st2)
     refine aY ?_;exact(gH) (tG (aj h<|aj j<|aj m o)) (st2)
    refine aY ?_;exact(gH) (tG (aj h<|aj j m)) (st2)
   refine aY ?_;exact(gH) (tG (aj h j)) (st2)
  refine aY ?_;refine aY ?_;exact(gH) (tG h) (st2)
 intro w3 e;refine(bz) ?_;exact⟨rfl,(St.cg e)⟩
theorem qL{l:List Rec}(hl:Rd RR.ei 8 Z w a n c l) (q:∀x∈l,JE aa x) (s:pf l) (L:l.length≤4000):CR prog 93 #[.slice a n c] w (.bool true):=by
 have hlen:=hl.len;have hle:=hl.le;refine enter func93 rfl ntmps93 rfl<|?_;have aQ:=St.s0 w;refine aY ?_;refine bO ?_;refine WC.br (σ:=Nat) (dn:=fun j=>[(0,.slice a n c),(5,.slice a n c),(6,.int .i64 (n:Int)),(7,.int .i64 (j:Int))]) (F:=fun j=>[]) (I:=fun j=>(j≤n)∧True) (μ:=fun j=>n - j) (0) (aQ) Sub.t (⟨by omega,trivial⟩)<|?_;rintro j w1 st1 ⟨u,_⟩;simp only [CA,NA] at st1 u ⊢;refine(aS) (fun g8=>?_) fun g8=>?_
 ·
  simp at g8
  have g:j<l.length:=by omega
  refine dd ?_;obtain⟨N,O,P,y,Q,z,A,R⟩:=Rd.at hl g;obtain⟨q1,S,T,rfl,B,U⟩:=z;refine bO ?_;refine WP .r (PV.dU iG y rfl rfl (by omega))<|(aZ) cV (aW A (St.cg st1) (by simp))<|(eZ) st1 fun b4 w2 V W st2=>?_;refine(cJ) fY st2 fun w3 X Y i=>?_;refine cq ?_;refine WC.dZ (t:=30) (v:=.bool false) i ?_<|?_
  ·
   have YF:=i.bN;refine WC.dB (m:=15) (E:=cB [(1,fun v _=>v=.bool true)]) i (bm (⟨fun _ _ _ _ _ _ _ h=>h,trivial⟩)) mixed (by kernel_rfl)<|(gN) cV St.g0<|?_;refine DW.c0 (fun wx e hF=>vM (B.ext (St.cg e.2)) (q _ (List.getElem_mem g)))<|(oo) (fun g18=>?_) (fun g18=>?_)
   ·
    have Y2:1≤j:=by have h0:=g18;simp at h0;omega
    have o:j - 1<l.length:=by omega
    have AE:bC l[j - 1].key l[j].key<0:=List.pairwise_iff_getElem.1 s (j - 1) j o g (by simp at g18;omega);obtain⟨tw,H7,Ft,C,vt,G,H,nM⟩:=Rd.at hl o;obtain⟨p1,p2,p3,rfl,_,_⟩:=G;refine cq ?_;refine DP .r (fun _ e=>PV.DU iG (j - 1) C rfl rfl (by omega) (by omega))<|nx ?_;refine DP .r (fun _ e=>PV.wi ao (aW H (St.cg e.2) (by simp)) rfl rfl)<|(tn) ao St.g0<|(cQ)<|?_;rintro w4 ⟨J,d⟩ ⟨_,_⟩;refine(eP) (mh (a:=l[j - 1].key) (b:=l[j].key)) d fun w5 s5 K=>?_;exact(cA) (tG g18) (K)
   refine(cQ) ?_;rintro w4 ⟨J,d⟩ ⟨_,_⟩;exact(cA) (tG g18) (d)
  intro w4 d;refine(aS) (fun p=>?_) fun p=>?_
  ·
   exact dL p
  refine ez ?_;refine eB (j+1) ⟨d.drop,⟨by omega,trivial⟩⟩
 simp at g8
 refine aY ?_;refine(bz) ?_;exact⟨by simp;omega,(St.cg st1)⟩
theorem vN{i:Nat}(jr:i≤99) (hk:k=⟨30,itoa i⟩):CR prog 94 #[k.val] w (.bool true):=by
 subst hk;refine enter func94 rfl ntmps94 rfl<|?_;have aQ:=St.s0 w;refine(dy) aQ fun b1 w1 d e st1=>?_;refine(aZ) ao st1.b0<|(eP) (ib (k:=⟨30,itoa i⟩) ⟨(by decide:(30:Int)≤30),(by decide:(30:Int)≤32)⟩ rfl jr) st1 fun w2 s2 st2=>?_;refine(aZ) ao st2.b0<|?_;refine WL.c1 (u:=.bool true) (cO (k:=⟨30,itoa i⟩)) (by rw [show aw ⟨30,itoa i⟩=true from rfl]) st2 fun w3 g b=>?_;refine(bz) ?_;exact⟨rfl,(St.cg b)⟩
set_option maxHeartbeats 1600000 in
set_option maxRecDepth 100000 in
theorem r7(hi:Rd RR.aD 4 Z w a1 n1 e1 x.ab) (hr:Rd RR.ei 8 Z w a2 n2 e2 x.ah) (S:uB aa x):CR prog 52 #[.agg (x.row a1 n1 e1 a2 n2 e2).toArray] w (.bool true):=by
 obtain⟨x0,x1,L,T,x6,U,xs,V,W⟩:=S;have eK:=hi.len;have LU:=hi.le;have Ez:=hr.len;refine enter func52 rfl ntmps52 rfl<|?_;have aQ:=St.s0 w;refine(dy) aQ fun b1 w1 Ye Fj st1=>?_;refine dd ?_;refine WC.dZ (t:=24) (v:=.bool false) st1 ?_<|?_
 ·
  refine(a7) aP st1.b0<|(db) (fun g8=>?_) (fun g8=>?_)
  ·
   refine aY ?_;exact(cA) (tG g8) (st1)
  refine(a7) aP st1.b0<|(db) (fun g13=>?_) (fun g13=>?_)
  ·
   exact(cA) (tG (aj g8 g13)) (st1)
  refine(a7) i7 st1.b0<|(db) (fun g19=>?_) (fun g19=>?_)
  ·
   exact(cA) (tG (aj g8<|aj g13 g19)) (st1)
  refine(a7) dD st1.b0<|(eP) (qL (hr.ext (St.cg st1)) U xs V) st1 fun w2 s2 st2=>?_;exact(cA) (tG (aj g8<|aj g13 g19)) (st2)
 intro w2 st2;refine(aS) (fun g24=>?_) fun g24=>?_
 ·
  exact dL g24
 refine(a7) i7 st2.b0<|dd ?_;refine WC.br (σ:=Nat) (dn:=fun j=>[(1,.pointer (some ⟨b1,0,none⟩)),(26,.slice a1 n1 e1),(27,.int .i64 (n1:Int)),(28,.int .i64 (j:Int))]) (F:=fun j=>[]) (I:=fun j=>(j≤n1)∧True) (μ:=fun j=>n1 - j) (0) (st2) Sub.t (⟨by omega,trivial⟩)<|?_;rintro j w3 o ⟨X,_⟩;simp only [CA,NA] at o X ⊢;refine(aS) (fun C=>?_) fun C=>?_
 ·
  simp at C
  have A:j<x.ab.length:=by omega
  obtain⟨y,hy⟩:∃y,x.ab[j]=y:=⟨_,rfl⟩;obtain⟨i,jr,Y⟩:=T _ (hy ▸ List.getElem_mem A);obtain⟨_,_,hv,hc0,hc1⟩:=L.2 _ (hy ▸ List.getElem_mem A);refine dd ?_;obtain⟨gT,k8,kz,cW,gU,G,N,eV⟩:=Rd.at hi A;have G:=RR.bd G;subst G;rw [hy] at N
  have O:j - 1<x.ab.length:=by omega
  obtain⟨z,P⟩:∃z,x.ab[j - 1]=z:=⟨_,rfl⟩;refine bO ?_;refine WP .r (PV.dU qv cW rfl rfl (by omega))<|(aZ) ku (aW N (St.cg o) (by simp))<|(eZ) o fun b4 w4 Fh IV H=>?_;refine(cJ) zn H fun w5 jU j3 J=>?_;refine cq ?_;refine WC.dZ (t:=71) (v:=.bool false) J ?_<|?_
  ·
   have PI:=J.bN;refine WC.dB (m:=37) (E:=cB [(2,fun v _=>v=.bool true),(17,fun v _=>v=.int .i64 (bC z.key y.key))]) J (bm (⟨fun _ _ _ _ _ _ _ h=>h,⟨fun _ _ _ _ _ _ _ h=>h,trivial⟩⟩)) mixed (by kernel_rfl)<|(tn) ao St.g0<|?_;refine DW.c0 (fun wx B hF=>vN jr Y)<|(oo) (fun e=>?_) (fun e=>?_)
   ·
    have Y2:1≤j:=by have h0:=e;simp at h0;omega
    have AE:bC z.key y.key<0:=by rw [← hy,← P];exact List.pairwise_iff_getElem.1 L.1 (j - 1) j O A (by omega)
    obtain⟨tw,H7,Ft,kP,vt,K,Q,nM⟩:=Rd.at hi O;have K:=RR.bd K;subst K;rw [P] at Q;refine(iv) i7 St.g1<|bO ?_;refine DP .r (fun _ B=>PV.DU qv (j - 1) kP rfl rfl (by omega) (by omega))<|nx ?_;refine DP .r (fun _ B=>PV.wi ao (aW Q (St.cg B.2) (by simp)) rfl rfl)<|(tn) ao St.g0<|?_;refine DW.c0 (fun wx B hF=>mh (a:=z.key) (b:=y.key))<|(oo) (fun u=>?_) (fun u=>?_)
    ·
     refine aY ?_;refine(cQ) ?_;rintro w6 ⟨s,d⟩ ⟨_,⟨_,_⟩⟩;exact(cA) (tG (aj e u)) (d)
    refine(iv) fy St.g0<|(oo) (fun g=>?_) (fun g=>?_)
    ·
     refine(cQ) ?_;rintro w6 ⟨s,d⟩ ⟨_,⟨_,_⟩⟩;exact(cA) (tG (aj e<|aj u g)) (d)
    refine(iv) aP St.g0<|(oo) (fun q=>?_) (fun q=>?_)
    ·
     refine(cQ) ?_;rintro w6 ⟨s,d⟩ ⟨_,⟨_,_⟩⟩;exact(cA) (tG (aj e<|aj u<|aj g q)) (d)
    refine(iv) aP St.g0<|(iv) aP St.g1<|(cQ)<|?_;rintro w6 ⟨s,d⟩ ⟨_,⟨_,_⟩⟩;exact(cA) (tG (aj e<|aj u<|aj g q)) (d)
   refine aY ?_;refine(iv) fy St.g0<|(oo) (fun g=>?_) (fun g=>?_)
   ·
    refine(cQ) ?_;rintro w6 ⟨s,d⟩ ⟨_,_⟩;exact(cA) (tG (aj e g)) (d)
   refine(iv) aP St.g0<|(oo) (fun q=>?_) (fun q=>?_)
   ·
    refine(cQ) ?_;rintro w6 ⟨s,d⟩ ⟨_,_⟩;exact(cA) (tG (aj e<|aj g q)) (d)
   refine(iv) aP St.g0<|(iv) aP St.g1<|(cQ)<|?_;rintro w6 ⟨s,d⟩ ⟨_,_⟩;exact(cA) (tG (aj e<|aj g q)) (d)
  intro w6 d;refine(aS) (fun R=>?_) fun R=>?_
  ·
   exact dL R
  refine ez ?_;refine eB (j+1) ⟨d.drop,⟨by omega,trivial⟩⟩
 simp at C
 refine(a7) dD o.b0<|?_;refine WP .r (PV.func (us:=[]) (vs:=[.pointer (some ⟨b1,0,none⟩)]) rfl rfl)<|(eP) (rZ (p:=fun r=>decide (x.ad<r.av)) ad2 (hr.ext (St.cg o)) (fun wq hq y _ a n c _=>r6 ((As.gb o.g0).ext hq)) (fun y hy=>by have:=W y hy;simp;omega)) o fun w4 s4 H=>?_;refine(bz) ?_;exact⟨by simp,(St.cg H)⟩
theorem te(g:St w M Z w [As.os RR.key 40 2 a n c l]) (h0:l≠[]) (hn:l.length≤1000000):Calls prog 68 #[.slice a n c,.func (.func 66) #[] #[]] w fun e w'=>e=.returned (.tuple #[])∧∃l',l'.Perm l∧(l'.Pairwise fun x y=>¬bC y x<0)∧St w M Z w' [As.os RR.key 40 2 a n c l']:=
 xX (row:=Key.cells) (key:=fun x=>x) (fun _=>rfl) (fun x v b=>by(simp [Key.cells] at b;rcases b with rfl | rfl <;> rfl)) (fun blk cap d w hc hH hb h=>slices_SortFunc 2 isAgg40 sizeOf40 Key.cells (fun _=>rfl) (fun x v b=>by(simp [Key.cells] at b;rcases b with rfl | rfl <;> rfl)) _ GJ 66 #[] blk 0 cap d w WS hc hH hb h) (fun x y w=>mh) g h0 hn
set_option maxHeartbeats 400000
theorem zV{x y:Rec × RL} :CR prog 65 #[.agg (Rec.y7 x).toArray,.agg (Rec.y7 y).toArray] w (.int .i64 (bC x.1.key y.1.key)):=by
 refine enter func65 rfl ntmps65 rfl<|?_;have aQ:=St.s0 w;refine(dy) aQ fun b2 w1 e g st1=>?_;refine(dy) st1 fun b3 w2 h i st2=>?_;refine(hW) ao st2.b1<|(hW) ao st2.b0<|(eP) (mh (a:=x.1.key) (b:=y.1.key)) st2 fun w3 j d=>?_;refine(bz) ?_;exact⟨rfl,(St.cg d)⟩
instance:Inhabited (Rec × RL):=⟨(nh,⟨0,none,0,0⟩)⟩
theorem zW{l:List (Rec × RL)}(b:St w M Z w [As.os RR.EJ 88 8 a n c l]) (h0:l≠[]) (hn:l.length≤1000000):Calls prog 64 #[.slice a n c,.func (.func 65) #[] #[]] w fun e w'=>e=.returned (.tuple #[])∧∃l',l'.Perm l∧(l'.Pairwise fun x y=>¬bC y.1.key x.1.key<0)∧St w M Z w' [As.os RR.EJ 88 8 a n c l']:=
 xX (row:=Rec.y7) (key:=fun x=>x.1.key) (fun _=>rfl) Rec.Q9 (fun blk cap d w hc hH hb g=>slices_SortFuncR 8 isAgg88 sizeOf88 Rec.y7 (fun _=>rfl) Rec.Q9 _ GJ 65 #[] blk 0 cap d w call65 hc hH hb g) (fun x y w=>zV) b h0 hn
set_option maxHeartbeats 400000
set_option maxHeartbeats 1600000 in
theorem wY{goals:List Key}{ar P:Option Addr}{r cr g eg f:Nat}{s':ES}(Q:aq aa) (gF:St w M Z w []) (hu:Rd RR.fb 4 Z w ar r cr aa) (hi:Rd RR.aD 4 Z w a1 n1 e1 x.ab) (hr:Rd RR.ei 8 Z w a2 n2 e2 x.ah) (R:Rd RR.key 2 Z w P g eg goals) (ht:lD prog Z w) (PU:gJ aa x goals=0) (FK:Good aa x.ab ⟨x,[],[],0⟩) (hk:∀k∈goals,ep aa k) (S:x.ab.length≤1000000)
 (KY:dM aa (valOf aa x.ab) f ⟨x,[],[],0⟩ goals=some s') (zJ:s'.a8.length≤1000000):Calls prog 49 #[.slice ar r cr,.agg (x.row a1 n1 e1 a2 n2 e2).toArray,.slice P g eg] w fun e w'=>∃Y3 Y4 Y5 Y6 Y7 Y8 ag' g' eg' Z',e=.returned (.tuple #[.agg ((s'.base x).row Y3 Y4 Y5 Y6 Y7 Y8).toArray,.slice ag' g' eg',.int .i64 s'.e])∧bK w.heap.size Z Z'∧Rd RR.aD 4 Z' w' Y3 Y4 Y5 (s'.base x).ab∧Rd RR.ei 8 Z' w' Y6 Y7 Y8 (s'.base x).ah∧St w M Z' w' [As.os RR.key 40 2 ag' g' eg' s'.list]:=by
 have Of:=R.len;have LJ:=R.le
 have h6:x.ah.length≤1000000:=by have:=FK.len;simp only at this;omega
 refine enter func49 rfl ntmps49 rfl<|?_;have aQ:=St.rb gF;have st1:=aQ.fr hu;have st2:=st1.fr hi;have iW:=st2.fr hr;have hU:=iW.fr R;have ja:=hU.fact (B:=As.fz (FZ.Jw prog)) ht (fun _ hx=>hx);refine(dy) ja fun b4 w1 Fh IV hY=>?_;refine(eZ) hY fun b6 w2 DH IK hh=>?_;refine(aZ) aO hh.b1<|?_;have J:=hh;refine(bY) zv (fA J.e0 (As.gr J.g5) (As.gr J.g4) h6 S) ?_;rintro _ w3 ⟨f1,f2,f3,f4,f5,f6,Z1,rfl,nR,T⟩;have iH:=St.lv J T nR;have FL:=St.bP T;have FM:=St.bP T.p1;have U:=J.size;have wt:=nR.le U;have FR:=St.fresh iH;have eE:=iH.ba (by omega);have FU:=St.fresh eE.p1;have dh:=eE.p1.ba (by omega);have mC:=(wt.trans (bK.dA (F:=fun x=>x∈aJ f1) FL) U).trans (bK.dA (F:=fun x=>x∈aJ f4) FM) U;refine(cJ) dN dh.p3 fun w4 jU j3 E=>?_;refine(aZ) aO E.b0<|(bY) Si (lh (As.gr E.g8) (As.gr E.g2) (As.gr E.g1) (As.gr E.g5)) ?_;rintro _ w5 ⟨rfl,s5⟩;rw [PU];have dj:=E.step s5;refine(aS) (fun g20=>?_) fun g20=>?_
 ·
  exact absurd g20 (by simp)
 refine cq ?_;refine WC.bL (m:=6) [] [2,4] [0,1,2,3,4,5] [(5,.map)] dj (ai.k4 M0 M1 M2 M3<|ai.k4 M4 M5 M6 M7<|ai.cons M8<|ai.nil) mixed (by kernel_rfl) (by kernel_rfl) rfl<|(lq) aO SV.g0<|(gh) (fun w6 PW CX cS tf=>?_);simp only [CA,NA] at cS;have dI:=cS;refine OX.call WY rfl rfl ((vx (x:=x) dI.e0).mono ?_);rintro _ w7 ⟨d1,d2,d3,rfl,jG⟩;have gy:=St.lr dI jG;refine⟨_,rfl,jG.bX.size,_,rfl,_,_,_,gy,ax.k4<|ax.k4<|ax.k4<|ax.nil,ai.k4 M3 M4 M5 M6<|ai.k4 M7 M8 M9 hJ<|ai.cons ir<|ai.nil,?_⟩;refine(lq) aO SV.g0<|(gh) (fun w8 Ts wX dT mF=>?_);simp only [CA,NA] at dT;have K:=dT;refine OX.call zv rfl rfl ((fA K.e0 (As.gr K.g5) (As.gr K.g4) h6 S).mono ?_);rintro _ w9 ⟨q1,q2,q3,V,q5,q6,Z3,rfl,qD,L⟩;have dR:=St.lv K L qD;have af4:=St.bP L;have af5:=St.bP L.p1;have W:=K.size;have mU:=mC.trans qD W;have af6:=St.fresh dR;have dG:=dR.ba (by omega);have af7:=St.fresh dG.p1;have eW:=dG.p1.ba (by omega);have qF:=(mU.trans (bK.dA (F:=fun x=>x∈aJ q1) af4) W).trans (bK.dA (F:=fun x=>x∈aJ V) af5) W;refine⟨_,rfl,L.bX.size,_,rfl,_,_,_,eW,ax.k4<|ax.k4<|ax.k4<|ax.k2<|ax.nil,ai.k4 M5 M6 M7 M8<|ai.k4 M9 hJ ir j5<|ai.cons mH<|ai.nil,?_⟩;refine DG.side (s:=.map) rfl rfl rfl rfl rfl rfl (fun wx Zx Rx qI pH=>OX.makeMap Key.val rfl fun b wy nw hb=>⟨nw.ext.size,_,rfl,⟨b,rfl⟩,pH.Mi nw hb⟩)<|?_;rintro _ ⟨X,rfl⟩;refine(jo) ?_;intro iT vO dO;simp only [CM,NM,CA,NA,hV.it] at dO;refine WP .r (PV.bB (us:=(EA.cells ⟨q1,V,none,q2,q3,q5,q6,0,0⟩ d1 X ⟨x,[],[],0⟩)) Wv rfl rfl rfl)<|(dy) dO fun b30 iY Ya Yb eR=>?_;refine nx ?_;refine WL.nil (EX.np ?_);have o:=eR.p5.p5;have eh:=o.join (C:=As.jO prog 176 aa x ⟨ar,f1,f4,r,cr,f2,f3,f5,f6,d2,d3,d1⟩) ⟨o.VS,(As.gb o.g0),⟨[],aU.nil,(As.gm o.g1)⟩,⟨(As.gr o.g15),(As.gr o.g9),(As.gr o.g8),(As.gf o.g11)⟩⟩ (fun y h=>h);have eX:=eh.dp RR.key 40 2;refine jM ?_;refine WC.gY (σ:=Nat × ES × EA × (Nat→Prop)) (dn:=fun(j,s1,d,z)=>[(4,.pointer (some ⟨b4,0,none⟩)),(6,.pointer (some ⟨b6,0,none⟩)),(10,.pointer (some ⟨b30,0,none⟩)),(31,.slice P g eg),(32,.int .i64 (g:Int)),(33,.int .i64 (j:Int))]) (F:=fun(j,s1,d,z)=>[As.blk b30 140 (EA.cells d d1 X s1),As.map Key.val X s1.busy,As.os RR.key 40 2 d.a3 d.n3 d.c3 s1.a8,As.ro RR.aD 4 d.a1 d.n1 d.c1 s1.b.ab,As.ro RR.ei 8 d.a2 d.n2 d.c2 s1.b.ah]) (I:=fun(j,s1,d,z)=>(dM aa (valOf aa x.ab) f s1 (goals.drop j)=some s')∧(Good aa x.ab s1)∧(j≤g)∧(bK w.heap.size Z z)∧True) (μ:=fun(j,s1,d,z)=>g - j) (Zf:=fun(j,s1,d,z)=>z) (0,⟨x,[],[],0⟩,⟨q1,V,none,q2,q3,q5,q6,0,0⟩,_) (eX.p4.p5.p2.p5.p5) Sub.t (⟨KY,FK,Nat.zero_le _,qF,trivial⟩)<|?_;rintro⟨j,s1,d,z⟩ lx p ⟨A,Y,hj,N,_⟩;simp only [CA,NA] at p A Y hj N ⊢;refine(aS) (fun g34=>?_) fun g34=>?_
 ·
  simp at g34
  have FE:j<goals.length:=by omega
  rw [List.drop_eq_getElem_cons FE] at A;simp only [dM] at A;obtain⟨t,PK,FN⟩:=Option.bind_eq_some_iff.1 A;have UJ:=hk goals[j] (List.getElem_mem FE);have LV:=(cz (val:=valOf aa x.ab) Q f).1 _ _ _ PK Y UJ;have YB:=pe Q FN LV.1 (fun k GG=>hk k (List.mem_of_mem_drop GG));refine dd ?_;obtain⟨gT,k8,kz,cW,gU,gg,eH,eV⟩:=Rd.at (As.gr p.g12) FE;have gg:=RR.bd gg;subst gg;have G:=p.fg eV eH;refine nx ?_;refine WP .r (PV.dU eA cW rfl rfl (by omega))<|(aZ) ao (As.lF G.g0)<|(eZ) G fun b12 nN Y9 Za q=>?_;refine(cJ) hP q fun qV qU mu u=>?_;refine(aZ) ao u.b0<|?_;have i:=u.p4.p4.p7.p5;refine(bY) Sk (Tn (D:=⟨ar,f1,f4,r,cr,f2,f3,f5,f6,d2,d3,d1⟩) Q S f _ _ _ _ _ _ _ i.e4 (As.gr i.g6) (As.gr i.g7) Y UJ PK (by have:=YB.2.a8;omega)) ?_;rintro _ pD ⟨E2,Z6,rfl,vP,hi6,Zc,vQ⟩;have O:=St.lv i vQ vP;have zX:=N.trans vP i.size;have H:=O.fr (hi6);have pI:=H.fr (Zc);have mO:=pI.p8.drop;have j4:=mO.p8.drop;refine ez ?_;refine eB (j+1,t,E2,Z6) ⟨j4.p6.drop.p6.drop.p1.p5.p5.p4,⟨FN,LV.1,by omega,zX,trivial⟩⟩
 simp at g34
 rw [List.drop_eq_nil_of_le (by omega)] at A;simp only [dM,Option.some.injEq] at A;subst A;refine(a7) ya p.b0<|(aS) (fun v=>?_) fun v=>?_
 ·
  simp at v
  have G:=p.dp RR.key 40 2;refine nx ?_;refine WC.bL (m:=7) [] [5] [0,5,1,2,3,4,6] [] G (ai.k4 M0 M1 M2 M3<|ai.k4 M4 M5 M6 M7<|ai.k4 M8 M9 hJ j5<|ai.k4 mH tH Ga Iy<|ai.nil) mixed (by kernel_rfl) (by kernel_rfl) rfl<|(lq) aO SV.g8<|?_;refine DG.cs rfl rfl rfl rfl rfl (fun nN Iu r8 q jV=>?_);simp only [CA,NA] at q;refine OX.mr dN (As.gb q.g11) rfl rfl rfl rfl rfl fun qV zy _ tK=>?_;have u:=q.kD.Bn zy tK;refine⟨zy.size,rfl,_,_,_,u,ax.k4<|ax.k4<|ax.k4<|ax.k4<|ax.cons<|ax.nil,ai.k4 M1 M2 M3 M4<|ai.k4 M5 M6 M7 M8<|ai.k4 M9 hJ ir j5<|ai.k4 mH tH Ga Iy<|ai.nil,?_⟩
  iterate 3 refine DG.a ?_
  refine(oq) ya SV.g1<|(jo) ?_;intro pD G1 i;simp only [CM,NM,CA,NA,hV.it] at i;refine nx ?_;refine WL.nil (EX.np ?_);refine cq ?_;refine EX.ey rfl (RS.cell aO rfl i.b0 rfl<|RS.tmp rfl<|RS.tmp rfl<|RS.nil) rfl<|?_;have hb:s1.base x=x:=if_neg v;have hl:s1.list=[]:=if_neg v;exact⟨f1,f2,f3,f4,f5,f6,none,0,0,_,by rw [hb],N,by rw [hb];exact(As.gr i.g11),by rw [hb];exact(As.gr i.g10),by rw [hl];exact(St.wk i.p1.k1)⟩
 simp at v
 refine cq ?_;have OU:=((As.gs p.g2)).len;have TM:=St.fresh p.p2;have G:=p.p2.ba (by omega);have hZr:=N.trans (bK.dA (F:=fun x=>x∈aJ d.a3) TM) (Nat.le_refl _);refine WC.bL (m:=9) [] [8] [4,5,6,7,8,0,1,2,3] [] G (ai.k4 M0 M1 M2 M3<|ai.k4 M4 M5 M6 M7<|ai.k4 M8 M9 hJ ir<|ai.k4 j5 mH tH Ga<|ai.nil) mixed (by kernel_rfl) (by kernel_rfl) rfl<|?_
 iterate 3 refine DG.a ?_
 refine(oq) dE SV.g1<|(gh) (fun nN R8x TN q CY=>?_);simp only [CA,NA] at q;have u:=q;refine OX.call Sc rfl rfl ((me u.e0 (As.gr u.g0) (fun _ h _=>h) zJ).mono ?_);rintro _ qV ⟨o1,o2,o3,rfl,CZ⟩;have i:=St.lr u CZ;refine⟨_,rfl,CZ.bX.size,_,rfl,_,_,_,i,ax.k4<|ax.k4<|ax.k4<|ax.k4<|ax.cons<|ax.nil,ai.k4 M1 M2 M3 M4<|ai.k4 M5 M6 M7 M8<|ai.k4 M9 hJ ir j5<|ai.k4 mH tH Ga Iy<|ai.nil,?_⟩
 iterate 3 refine DG.a ?_
 refine(yF) aO SV.g1<|(jo)<|?_;intro pD CH O;simp only [CM,NM,CA,NA,hV.it] at O;refine(cJ) dN O.kD fun tB LP LQ H=>?_;refine bO ?_;refine WL.nil (EX.np ?_);refine bO ?_;refine EX.ey rfl (RS.cell aO rfl H.b0 rfl<|RS.tmp rfl<|RS.tmp rfl<|RS.nil) rfl<|?_;have hb:s1.base x=s1.b:=if_pos v;have hl:s1.list=jR s1.a8:=if_pos v;exact⟨d.a1,d.n1,d.c1,d.a2,d.n2,d.c2,o1,o2,o3,_,by rw [hb,v];rfl,hZr,by rw [hb];exact(As.gr H.g5),by rw [hb];exact(As.gr H.g6),by rw [hl];exact(St.wk H.p1.k1)⟩
set_option maxHeartbeats 400000
set_option maxHeartbeats 400000
set_option maxHeartbeats 400000
theorem Og(b:aq aa) (q:∀k,(valOf aa x.ab k).size≤1000):∀i:Nat,i<aa.length→PR aa x D (aM aa (i:Int)):=by
 intro i;have A:=b.len;have low:∀n:Nat,n≤15→PR aa x D (cF (n:Int)):=fun n hn w M Z ml al d e hm _=>td d e hm (bD (by omega))
 induction i using Nat.strongRecOn with
 | _ i r=>
  intro hi w M Z ml al d e hm g
  have jr:i≤99:=by omega
  have u:lJ aa i al:=by
   have h:=g (di hi jr);rw [cj hi jr,Int.toNat_natCast] at h;exact h
  refine FP d e hm b hi q u (fun hr w M Z ml al d e hm g=>?_) (fun hr a o=>?_)
  ·
   rw [cj hi jr,Int.toNat_natCast] at g;refine zS d e hm b q hi hr g fun j s a o hc=>?_;have p:=o.QJ b
   rcases o with⟨n,hn,rfl⟩ | ⟨m,hm,rfl,h1,t,B,v⟩
   ·
    exact low n hn
   have y:aF aa m=false:=by
    rw [hc,eG hm (by omega)] at p
    cases h:aF aa m
    ·
     rfl
    rw [h] at p;simp at p
   have C:bG aa j≤i:=Nat.le_trans (ki b s) (gw aa i)
   have z:m<i:=by
    have:=v y (jd hi hr s).2
    omega
   exact r m z hm
  rcases o with⟨n,hn,rfl⟩ | ⟨m,hm,rfl,_,t,_⟩
  ·
   exact low n hn
  exact r m (t hr) hm
theorem Lb(b:aq aa) (d:∀k,(valOf aa x.ab k).size≤1000) {k:Key}(hk:ep aa k):PR aa x D k:=by
 cases hk with
 | cell h=>exact fun w M Z ml al e g hm _=>td e g hm (bD h)
 | fb h _=>exact Og b d _ h
end Go.Rc

