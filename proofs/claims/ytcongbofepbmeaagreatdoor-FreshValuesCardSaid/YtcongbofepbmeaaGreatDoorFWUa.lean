/- Walks over the program, part WUa. Conditions: as each theorem says. -/
import Derived.Test.YtcongbofepbmeaaGreatDoorFFacts
import Derived.Test.YtcongbofepbmeaaGreatDoorFWU
import Derived.Test.YtcongbofepbmeaaGreatDoorFBf
import Derived.Test.YtcongbofepbmeaaGreatDoorFBg
import Derived.Test.YtcongbofepbmeaaGreatDoorFWB
import Derived.Test.YtcongbofepbmeaaGreatDoorFBh
import Derived.Test.YtcongbofepbmeaaGreatDoorShelf
import Derived.Test.YtcongbofepbmeaaGreatDoorFWLibE
import Derived.Test.YtcongbofepbmeaaGreatDoorFBd
import Derived.Test.YtcongbofepbmeaaGreatDoorFWP
set_option linter.all false
namespace Go.Rc
open Go Go.Proofs Go.Proofs.Tryz
variable {n c n1 e1 n2 e2:Nat}{w:World}{a a1 a2:Option Addr}{aa:List aA}{k:Key}{l:List Key}{f:FuncId}{Z M:Nat→Prop}{x:cA}{D:SD}
set_option maxHeartbeats 400000
theorem uU{n:Int} :CR prog 204 #[.int .i64 n] w (.bool false):=by
 refine enter func204 rfl ntmps204 rfl<|?_;have aR:=St.s0 w;refine aO ?_;refine(bm) ?_;exact⟨by simp,(St.cg aR)⟩
theorem yJ{a b:Int} :CR prog 124 #[.int .i64 a,.int .i64 b] w (.int .i64 (vF a b)):=by
 refine enter func124 rfl ntmps124 rfl<|?_;have aR:=St.s0 w;refine(dH) (uU) aR fun w1 s1 st1=>?_;refine(dH) (uU) st1 fun w2 s2 st2=>?_;refine kQ ?_;refine WC.kS rfl<|iC ?_;refine WC.kS rfl<|(aN) (fun g16=>?_) fun g16=>?_
 ·
  simp at g16
  refine(bm) ?_;exact⟨by unfold vF;rw [if_pos g16],(St.cg st2)⟩
 simp at g16
 refine(aN) (fun g19=>?_) fun g19=>?_
 ·
  simp at g19
  refine(bm) ?_;exact⟨by unfold vF;rw [if_neg (by omega),if_pos g19],(St.cg st2)⟩
 simp at g19
 refine(bm) ?_;exact⟨by unfold vF;rw [if_neg (by omega),if_neg (by omega)],(St.cg st2)⟩
theorem yK{l:List Int}{A:Nat→Prop}(hl:Ints A w a n c l):CR prog 123 #[.slice a n c] w (.int .i64 (NX l)):=by
 have hle:=SR.le hl;have hlen:=SR.len hl;refine enter func123 rfl ntmps123 rfl<|?_;have aR:=St.s0 w;refine aO ?_;refine eP ?_;refine WC.bd (σ:=Nat) (dm:=fun i=>[(3,.int .i64 0),(6,.slice a n c),(7,.int .i64 (n:Int)),(8,.int .i64 (i:Int))]) (F:=fun i=>[]) (I:=fun i=>(i≤n)∧(∀j x,j<i→l[j]?=some x→x=0)∧True) (μ:=fun i=>n - i) (0) (aR) Sub.t (⟨by omega,fun j x h=>by omega,trivial⟩)<|?_;rintro i w1 st1 ⟨hi,b,_⟩;simp only [CA,NA] at st1 hi b ⊢;refine(aN) (fun g9=>?_) fun g9=>?_
 ·
  simp at g9
  have d:i<l.length:=by omega
  obtain⟨p,q,s,e,_,rfl,g,_⟩:=(SR.ext hl (St.cg st1)).at (ai d);refine gw ?_;refine WP .r (PV.ei Df e rfl rfl (by omega))<|WP .r (PV.nI aK g rfl rfl)<|(aN) (fun g14=>?_) fun g14=>?_
  ·
   simp at g14
   refine(bm) ?_;exact⟨by rw [NY d b g14],(St.cg st1)⟩
  simp at g14
  refine eP ?_;refine dY (i+1) ⟨st1,⟨by omega,bO d b (by simpa using g14),trivial⟩⟩
 simp at g9
 refine(bm) ?_;exact⟨by rw [J7 (fun x m=>by obtain⟨j,o,rfl⟩:=List.mem_iff_getElem.1 m;exact b j _ (by omega) (ai o))],(St.cg st1)⟩
theorem jX{a b:Key} :CR prog 77 #[a.val,b.val] w (.int .i64 (bp a b)):=by
 refine enter func77 rfl ntmps77 rfl<|?_;have aR:=St.s0 w;refine(dE) aR fun b2 w1 p q st1=>?_;refine(dE) st1 fun b3 w2 r s st2=>?_;refine cX ?_;have t:=st2.cj;refine WC.cJ (m:=9) (E:=bK [(4,fun v _=>v=.int .i64 (vF a.kind b.kind))]) st2 (aS (⟨fun _ _ _ _ _ _ _ h=>h,trivial⟩)) mixed (by kernel_rfl)<|(gT) aK St.g1<|(gT) aK St.g0<|?_;refine DW.c0 (fun y z A=>yJ)<|(gT) eY St.g1<|(gT) eY St.g0<|(cG)<|?_;rintro w3 ⟨B,e⟩ ⟨_,_⟩;refine(dH) (nZ a.text b.text w3) e fun w4 C g=>?_;refine WL.go rfl (OX.aP (us:=[.int .i64 (vF a.kind b.kind),.int .i64 (Lib.compareBytes a.text.data.toList b.text.data.toList)]) OM rfl rfl rfl rfl fun F w5 i j=>?_);have d:=g.dy i j;refine WL.c1 (u:=.int .i64 (bp a b)) (yK (l:=[vF a.kind b.kind,Lib.compareBytes a.text.data.toList b.text.data.toList]) (SR.JF (rows:=[[.int .i64 (vF a.kind b.kind)],[.int .i64 (Lib.compareBytes a.text.data.toList b.text.data.toList)]]) (As.gb d.g0) rfl (by simp) (by simp [Value.oneCell']) (by simp) (Ah rfl rfl))) (by rw [J8]) d fun w6 G o=>?_;refine(bm) ?_;exact⟨rfl,(St.cg o)⟩
theorem sj(hk:eu aa k):CR prog 366 #[k.val] w (.bool false):=by
 obtain⟨i,gD,b,d⟩:=hk.shape;refine enter func366 rfl ntmps366 rfl<|?_;have aR:=St.s0 w;refine(dE) aR fun b1 w1 e g st1=>?_;refine(aT) ak st1.b0<|(dH) (gB (k:=k) d b gD) st1 fun w2 s2 st2=>?_;refine(bm) ?_;exact⟨rfl,(St.cg st2)⟩
theorem uV{p:Key→Bool}(m:CF prog f) (hl:Rd RR.key 2 Z w a n c l) (o:∀w1,aQ [] w w1→∀x∈l,Calls prog f #[x.val] w1 fun e w'=>e=.returned (.bool (p x))∧aQ [] w1 w'):Calls prog 579 #[.slice a n c,.func (.func f) #[] #[]] w fun e w'=>∃j:Int,e=.returned (.int .i64 j)∧Ad l p j∧aQ [] w w':=by
 have hlen:=hl.len;have hle:=hl.le;refine enter func579 rfl ntmps579 rfl<|?_;have aR:=St.s0 w;refine aO ?_;refine bz ?_;refine WC.bd (σ:=Nat) (dm:=fun i=>[(0,.slice a n c),(1,.func (.func f) #[] #[]),(7,.int .i64 (n:Int)),(8,.int .i64 (i:Int))]) (F:=fun i=>[]) (I:=fun i=>(i≤n)∧(∀j x,j<i→l[j]?=some x→p x=false)∧True) (μ:=fun i=>n - i) (0) (aR) Sub.t (⟨by omega,fun j x h=>by omega,trivial⟩)<|?_;rintro i w1 st1 ⟨hi,b,_⟩;simp only [CA,NA] at st1 hi b ⊢;refine(aN) (fun g9=>?_) fun g9=>?_
 ·
  simp at g9
  have d:i<l.length:=by omega
  refine o5 ?_;obtain⟨z,A,B,q,C,g,s,E⟩:=Rd.at hl d;have g:=RR.bN g;subst g;refine cX ?_;refine WP .r (PV.ei eI q rfl rfl (by omega))<|(aT) ak (aV s (St.cg st1) (by simp))<|?_;refine WL.go rfl (OX.zC m rfl rfl rfl ((Calls.X9 (o _ (St.cg st1) l[i] (List.getElem_mem d))).mono ?_));rintro _ w2 ⟨rfl,s2⟩;refine⟨_,rfl,?_⟩;have st2:=st1.step s2;refine(aN) (fun g16=>?_) fun g16=>?_
  ·
   refine(bm) ?_;exact⟨_,rfl,.inl ⟨i,_,ai d,g16,b,rfl⟩,(St.cg st2)⟩
  have g16:p l[i]=false:=by simpa using g16
  refine eP ?_;refine dY (i+1) ⟨st2,⟨by omega,bO d b (by simpa using g16),trivial⟩⟩
 simp at g9
 have u:∀x∈l,p x=false:=fun x v=>by obtain⟨j,y,rfl⟩:=List.getElem_of_mem v;exact b j _ (by omega) (ai y)
 refine(bm) ?_;exact⟨_,rfl,.inr ⟨u,rfl⟩,(St.cg st1)⟩
theorem ks{p:Key→Bool}(b:CF prog f) (hl:Rd RR.key 2 Z w a n c l) (d:∀w1,aQ [] w w1→∀x∈l,Calls prog f #[x.val] w1 fun e w'=>e=.returned (.bool (p x))∧aQ [] w1 w'):CR prog 367 #[.slice a n c,.func (.func f) #[] #[]] w (.bool (l.any p)):=by
 refine enter func367 rfl ntmps367 rfl<|?_;have aR:=St.s0 w;refine(bL) ME (uV (w:=w) b (hl.ext (St.cg aR)) (fun w1 h1=>d w1 (aQ.trans (St.cg aR) h1))) ?_;rintro _ w1 ⟨j,rfl,g,s1⟩;have st1:=aR.step s1;have h:=g.any;refine(bm) ?_;exact⟨by rw [h],(St.cg st1)⟩
set_option maxHeartbeats 1600000 in
theorem uW{x:Rec}(hk:Rd RR.key 2 Z w a n c x.reads) (z:HI aa x):CR prog 191 #[.agg (x.row a n c).toArray] w (.bool true):=by
 have hlen:=hk.len;obtain⟨h1,A,B,r⟩:=z;obtain⟨i,gD,C,E⟩:=h1.shape;have F:=h1.cZ;rw [ee] at r;obtain⟨_,_,_,v4,v5,v6,H,I,v9,v10,v11⟩:=r;refine enter func191 rfl ntmps191 rfl<|?_;have aR:=St.s0 w;refine(dE) aR fun b1 w1 J K st1=>?_;refine cS ?_;refine WC.cI (t:=34) (v:=.bool false) st1 ?_<|?_
 ·
  refine(il) ak st1.b0<|(dH) (gB (k:=x.key) E C gD) st1 fun w2 s2 st2=>?_;refine(il) ak st2.b0<|?_;refine WL.c1 (u:=.bool false) (eh (k:=x.key)) (by rw [A]) st2 fun w3 s3 e=>?_;refine(aU) eY e.b0<|(bW) (fun g19=>?_) (fun g19=>?_)
  ·
   refine aO ?_;exact(br) (by first | (simp only [g19];done) | (simp [g19];done) | (have g:x.key.kind=32:=pc h1 (by simpa [g19] using v11);simp [g19,g];done) | (simp at g19 ⊢ <;> omega) | (simp [g19] <;> omega)) (e)
  refine(aU) eZ e.b0<|(bW) (fun b=>?_) (fun b=>?_)
  ·
   exact(br) (by first | (simp only [g19,b];done) | (simp [g19,b];done) | (have g:x.key.kind=32:=pc h1 (by simpa [g19,b] using v11);simp [g19,b,g];done) | (simp at g19 b ⊢ <;> omega) | (simp [g19,b] <;> omega)) (e)
  refine(aU) dM e.b0<|(bW) (fun d=>?_) (fun d=>?_)
  ·
   refine(il) ak e.b0<|(dH) (kN (k:=x.key) F) e fun w4 L G=>?_;exact(br) (by first | (simp only [g19,b,d];done) | (simp [g19,b,d];done) | (have g:x.key.kind=32:=pc h1 (by simpa [g19,b,d] using v11);simp [g19,b,d,g];done) | (simp at g19 b d ⊢ <;> omega) | (simp [g19,b,d] <;> omega)) (G)
  exact(br) (by first | (simp only [g19,b,d];done) | (simp [g19,b,d];done) | (have g:x.key.kind=32:=pc h1 (by simpa [g19,b,d] using v11);simp [g19,b,d,g];done) | (simp at g19 b d ⊢ <;> omega) | (simp [g19,b,d] <;> omega)) (e)
 intro w2 st2;refine(aN) (fun s=>?_) fun s=>?_
 ·
  exact gu s
 refine iC ?_;refine WC.gW (t:=2) (v:=.bool true) st2 ?_<|?_
 ·
  refine(aU) aK st2.b0<|(bW) (fun h=>?_) (fun h=>?_)
  ·
   refine(aU) aK st2.b0<|(aU) aK st2.b0<|(bW) (fun j=>?_) (fun j=>?_)
   ·
    refine(aU) aK st2.b0<|(bW) (fun m=>?_) (fun m=>?_)
    ·
     refine(aU) aK st2.b0<|(bW) (fun o=>?_) (fun o=>?_)
     ·
      refine(aU) aK st2.b0<|(bW) (fun q=>?_) (fun q=>?_)
      ·
       refine(aU) eZ st2.b0<|nx ?_;refine WL.c1 (u:=.bool false) (ks (p:=fun _=>false) MC (hk.ext (St.cg st2)) (fun w1 _ y hy=>sj (B y hy))) (by rw [List.any_eq_false.2 (fun _ _=>by simp)]) st2 fun w3 s3 e=>?_;exact(eN) (tG (aj h<|aj j<|aj m<|aj o q)) (e)
      exact(eN) (tG (aj h<|aj j<|aj m<|aj o q)) (st2)
     refine aO ?_;exact(eN) (tG (aj h<|aj j<|aj m o)) (st2)
    refine aO ?_;exact(eN) (tG (aj h<|aj j m)) (st2)
   refine aO ?_;exact(eN) (tG (aj h j)) (st2)
  refine aO ?_;refine aO ?_;exact(eN) (tG h) (st2)
 intro w3 e;refine(bm) ?_;exact⟨rfl,(St.cg e)⟩
theorem pG{l:List Rec}(hl:Rd RR.ed 8 Z w a n c l) (q:∀x∈l,HI aa x) (s:sA l) (L:l.length≤4000):CR prog 114 #[.slice a n c] w (.bool true):=by
 have hlen:=hl.len;have hle:=hl.le;refine enter func114 rfl ntmps114 rfl<|?_;have aR:=St.s0 w;refine aO ?_;refine bz ?_;refine WC.bd (σ:=Nat) (dm:=fun j=>[(0,.slice a n c),(5,.slice a n c),(6,.int .i64 (n:Int)),(7,.int .i64 (j:Int))]) (F:=fun j=>[]) (I:=fun j=>(j≤n)∧True) (μ:=fun j=>n - j) (0) (aR) Sub.t (⟨by omega,trivial⟩)<|?_;rintro j w1 st1 ⟨u,_⟩;simp only [CA,NA] at st1 u ⊢;refine(aN) (fun g8=>?_) fun g8=>?_
 ·
  simp at g8
  have g:j<l.length:=by omega
  refine cS ?_;obtain⟨N,O,P,y,Q,z,A,R⟩:=Rd.at hl g;obtain⟨q1,S,T,rfl,B,U⟩:=z;refine bz ?_;refine WP .r (PV.ei iy y rfl rfl (by omega))<|(aT) dA (aV A (St.cg st1) (by simp))<|(ff) st1 fun b4 w2 V W st2=>?_;refine(cD) gp st2 fun w3 X Y i=>?_;refine cL ?_;refine WC.cI (t:=30) (v:=.bool false) i ?_<|?_
  ·
   have UY:=i.cj;refine WC.cJ (m:=15) (E:=bK [(1,fun v _=>v=.bool true)]) i (aS (⟨fun _ _ _ _ _ _ _ h=>h,trivial⟩)) mixed (by kernel_rfl)<|(gx) dA St.g0<|?_;refine DW.c0 (fun wx e hF=>uW (B.ext (St.cg e.2)) (q _ (List.getElem_mem g)))<|(jf) (fun g18=>?_) (fun g18=>?_)
   ·
    have hj0:1≤j:=by have h0:=g18;simp at h0;omega
    have o:j - 1<l.length:=by omega
    have zI:bp l[j - 1].key l[j].key<0:=List.pairwise_iff_getElem.1 s (j - 1) j o g (by simp at g18;omega);obtain⟨nL,DB,Bg,C,rI,G,H,mT⟩:=Rd.at hl o;obtain⟨p1,p2,p3,rfl,_,_⟩:=G;refine cL ?_;refine DP .r (fun _ e=>PV.B5 iy (j - 1) C rfl rfl (by omega) (by omega))<|nx ?_;refine DP .r (fun _ e=>PV.xE ak (aV H (St.cg e.2) (by simp)) rfl rfl)<|(vE) ak St.g0<|(cG)<|?_;rintro w4 ⟨J,d⟩ ⟨_,_⟩;refine(dH) (jX (a:=l[j - 1].key) (b:=l[j].key)) d fun w5 s5 K=>?_;exact(br) (tG g18) (K)
   refine(cG) ?_;rintro w4 ⟨J,d⟩ ⟨_,_⟩;exact(br) (tG g18) (d)
  intro w4 d;refine(aN) (fun p=>?_) fun p=>?_
  ·
   exact gu p
  refine eP ?_;refine dY (j+1) ⟨d.drop,⟨by omega,trivial⟩⟩
 simp at g8
 refine aO ?_;refine(bm) ?_;exact⟨by simp;omega,(St.cg st1)⟩
theorem uX{i:Nat}(gD:i≤99) (hk:k=⟨30,itoa i⟩):CR prog 115 #[k.val] w (.bool true):=by
 subst hk;refine enter func115 rfl ntmps115 rfl<|?_;have aR:=St.s0 w;refine(dE) aR fun b1 w1 d e st1=>?_;refine(aT) ak st1.b0<|(dH) (gB (k:=⟨30,itoa i⟩) ⟨(by decide:(30:Int)≤30),(by decide:(30:Int)≤32)⟩ rfl gD) st1 fun w2 s2 st2=>?_;refine(aT) ak st2.b0<|?_;refine WL.c1 (u:=.bool true) (eh (k:=⟨30,itoa i⟩)) (by rw [show aB ⟨30,itoa i⟩=true from rfl]) st2 fun w3 s3 b=>?_;refine(bm) ?_;exact⟨rfl,(St.cg b)⟩
set_option maxHeartbeats 1600000 in
set_option maxRecDepth 100000 in
theorem qC(hi:Rd RR.az 4 Z w a1 n1 e1 x.ad) (hr:Rd RR.ed 8 Z w a2 n2 e2 x.ah) (S:tD aa x):CR prog 68 #[.agg (x.row a1 n1 e1 a2 n2 e2).toArray] w (.bool true):=by
 obtain⟨x0,x1,L,T,x6,U,xs,V,W⟩:=S;have hP:=hi.len;have Lv:=hi.le;have Lx:=hr.len;refine enter func68 rfl ntmps68 rfl<|?_;have aR:=St.s0 w;refine(dE) aR fun b1 w1 Ri B8 st1=>?_;refine cS ?_;refine WC.cI (t:=24) (v:=.bool false) st1 ?_<|?_
 ·
  refine(aU) aK st1.b0<|(bW) (fun g8=>?_) (fun g8=>?_)
  ·
   refine aO ?_;exact(br) (tG g8) (st1)
  refine(aU) aK st1.b0<|(bW) (fun g13=>?_) (fun g13=>?_)
  ·
   exact(br) (tG (aj g8 g13)) (st1)
  refine(aU) ji st1.b0<|(bW) (fun g19=>?_) (fun g19=>?_)
  ·
   exact(br) (tG (aj g8<|aj g13 g19)) (st1)
  refine(aU) dL st1.b0<|(dH) (pG (hr.ext (St.cg st1)) U xs V) st1 fun w2 s2 st2=>?_;exact(br) (tG (aj g8<|aj g13 g19)) (st2)
 intro w2 st2;refine(aN) (fun g24=>?_) fun g24=>?_
 ·
  exact gu g24
 refine(aU) ji st2.b0<|cS ?_;refine WC.bd (σ:=Nat) (dm:=fun j=>[(1,.pointer (some ⟨b1,0,none⟩)),(26,.slice a1 n1 e1),(27,.int .i64 (n1:Int)),(28,.int .i64 (j:Int))]) (F:=fun j=>[]) (I:=fun j=>(j≤n1)∧True) (μ:=fun j=>n1 - j) (0) (st2) Sub.t (⟨by omega,trivial⟩)<|?_;rintro j w3 o ⟨X,_⟩;simp only [CA,NA] at o X ⊢;refine(aN) (fun C=>?_) fun C=>?_
 ·
  simp at C
  have A:j<x.ad.length:=by omega
  obtain⟨y,hy⟩:∃y,x.ad[j]=y:=⟨_,rfl⟩;obtain⟨i,gD,Y⟩:=T _ (hy ▸ List.getElem_mem A);obtain⟨_,_,hv,WX,hc1⟩:=L.2 _ (hy ▸ List.getElem_mem A);refine cS ?_;obtain⟨ia,lP,lk,ck,gP,G,N,e6⟩:=Rd.at hi A;have G:=RR.bN G;subst G;rw [hy] at N
  have O:j - 1<x.ad.length:=by omega
  obtain⟨z,P⟩:∃z,x.ad[j - 1]=z:=⟨_,rfl⟩;refine bz ?_;refine WP .r (PV.ei pr ck rfl rfl (by omega))<|(aT) lj (aV N (St.cg o) (by simp))<|(ff) o fun b4 w4 AX E4 H=>?_;refine(cD) yn H fun w5 ko ly J=>?_;refine cL ?_;refine WC.cI (t:=71) (v:=.bool false) J ?_<|?_
  ·
   have IB:=J.cj;refine WC.cJ (m:=37) (E:=bK [(2,fun v _=>v=.bool true),(17,fun v _=>v=.int .i64 (bp z.key y.key))]) J (aS (⟨fun _ _ _ _ _ _ _ h=>h,⟨fun _ _ _ _ _ _ _ h=>h,trivial⟩⟩)) mixed (by kernel_rfl)<|(vE) ak St.g0<|?_;refine DW.c0 (fun wx B hF=>uX gD Y)<|(jf) (fun e=>?_) (fun e=>?_)
   ·
    have hj0:1≤j:=by have h0:=e;simp at h0;omega
    have zI:bp z.key y.key<0:=by rw [← hy,← P];exact List.pairwise_iff_getElem.1 L.1 (j - 1) j O A (by omega)
    obtain⟨nL,DB,Bg,fU,rI,K,Q,mT⟩:=Rd.at hi O;have K:=RR.bN K;subst K;rw [P] at Q;refine(gT) ji St.g1<|bz ?_;refine DP .r (fun _ B=>PV.B5 pr (j - 1) fU rfl rfl (by omega) (by omega))<|nx ?_;refine DP .r (fun _ B=>PV.xE ak (aV Q (St.cg B.2) (by simp)) rfl rfl)<|(vE) ak St.g0<|?_;refine DW.c0 (fun wx B hF=>jX (a:=z.key) (b:=y.key))<|(jf) (fun u=>?_) (fun u=>?_)
    ·
     refine aO ?_;refine(cG) ?_;rintro w6 ⟨s,d⟩ ⟨_,⟨_,_⟩⟩;exact(br) (tG (aj e u)) (d)
    refine(gT) eY St.g0<|(jf) (fun g=>?_) (fun g=>?_)
    ·
     refine(cG) ?_;rintro w6 ⟨s,d⟩ ⟨_,⟨_,_⟩⟩;exact(br) (tG (aj e<|aj u g)) (d)
    refine(gT) aK St.g0<|(jf) (fun q=>?_) (fun q=>?_)
    ·
     refine(cG) ?_;rintro w6 ⟨s,d⟩ ⟨_,⟨_,_⟩⟩;exact(br) (tG (aj e<|aj u<|aj g q)) (d)
    refine(gT) aK St.g0<|(gT) aK St.g1<|(cG)<|?_;rintro w6 ⟨s,d⟩ ⟨_,⟨_,_⟩⟩;exact(br) (tG (aj e<|aj u<|aj g q)) (d)
   refine aO ?_;refine(gT) eY St.g0<|(jf) (fun g=>?_) (fun g=>?_)
   ·
    refine(cG) ?_;rintro w6 ⟨s,d⟩ ⟨_,_⟩;exact(br) (tG (aj e g)) (d)
   refine(gT) aK St.g0<|(jf) (fun q=>?_) (fun q=>?_)
   ·
    refine(cG) ?_;rintro w6 ⟨s,d⟩ ⟨_,_⟩;exact(br) (tG (aj e<|aj g q)) (d)
   refine(gT) aK St.g0<|(gT) aK St.g1<|(cG)<|?_;rintro w6 ⟨s,d⟩ ⟨_,_⟩;exact(br) (tG (aj e<|aj g q)) (d)
  intro w6 d;refine(aN) (fun R=>?_) fun R=>?_
  ·
   exact gu R
  refine eP ?_;refine dY (j+1) ⟨d.drop,⟨by omega,trivial⟩⟩
 simp at C
 refine(aU) dL o.b0<|?_;refine WP .r (PV.func (us:=[]) (vs:=[.pointer (some ⟨b1,0,none⟩)]) rfl rfl)<|(dH) (qB (p:=fun r=>decide (x.ab<r.av)) Mq (hr.ext (St.cg o)) (fun wq hq y _ a n c _=>ll ((As.gb o.g0).ext hq)) (fun y hy=>by have:=W y hy;simp;omega)) o fun w4 s4 H=>?_;refine(bm) ?_;exact⟨by simp,(St.cg H)⟩
theorem BI(g:St w M Z w [As.os RR.key 29 2 a n c l]) (h0:l≠[]) (hn:l.length≤1000000):Calls prog 76 #[.slice a n c,.func (.func 77) #[] #[]] w fun e w'=>e=.returned (.tuple #[])∧∃l',l'.Perm l∧(l'.Pairwise fun x y=>¬bp y x<0)∧St w M Z w' [As.os RR.key 29 2 a n c l']:=
 F1 (row:=Key.cells) (key:=fun x=>x) (fun _=>rfl) (fun x v b=>by(simp [Key.cells] at b;rcases b with rfl | rfl <;> rfl)) (fun blk cap d w hc hH hb h=>slices_SortFunc 2 isAgg29 sizeOf29 Key.cells (fun _=>rfl) (fun x v b=>by(simp [Key.cells] at b;rcases b with rfl | rfl <;> rfl)) _ Kn 77 #[] blk 0 cap d w Ts hc hH hb h) (fun x y w=>jX) g h0 hn
set_option maxHeartbeats 400000
set_option maxHeartbeats 400000
set_option maxHeartbeats 1600000 in
theorem wa{goals:List Key}{ar P:Option Addr}{r cr g eg f:Nat}{s':ES}(Q:aq aa) (gg:St w M Z w []) (hu:Rd RR.dp 4 Z w ar r cr aa) (hi:Rd RR.az 4 Z w a1 n1 e1 x.ad) (hr:Rd RR.ed 8 Z w a2 n2 e2 x.ah) (R:Rd RR.key 2 Z w P g eg goals) (ht:gV prog Z w) (MV:fF aa x goals=0) (DN:Good aa x.ad ⟨x,[],[],0⟩) (hk:∀k∈goals,eu aa k) (S:x.ad.length≤1000000)
 (ID:dC aa (valOf aa x.ad) f ⟨x,[],[],0⟩ goals=some s') (yA:s'.bM.length≤1000000):Calls prog 65 #[.slice ar r cr,.agg (x.row a1 n1 e1 a2 n2 e2).toArray,.slice P g eg] w fun e w'=>∃a1' n1' e1' a2' n2' e2' ag' g' eg' Z',e=.returned (.tuple #[.agg ((s'.base x).row a1' n1' e1' a2' n2' e2').toArray,.slice ag' g' eg',.int .i64 s'.e])∧bA w.heap.size Z Z'∧Rd RR.az 4 Z' w' a1' n1' e1' (s'.base x).ad∧Rd RR.ed 8 Z' w' a2' n2' e2' (s'.base x).ah∧St w M Z' w' [As.os RR.key 29 2 ag' g' eg' s'.list]:=by
 have Qi:=R.len;have PX:=R.le
 have h6:x.ah.length≤1000000:=by have:=DN.len;simp only at this;omega
 refine enter func65 rfl ntmps65 rfl<|?_;have aR:=St.rb gg;have st1:=aR.fr hu;have st2:=st1.fr hi;have j5:=st2.fr hr;have i6:=j5.fr R;have jD:=i6.fact (B:=As.fz (FZ.zV prog)) ht (fun _ hx=>hx);refine(dE) jD fun b4 w1 AX E4 jC=>?_;refine(ff) jC fun b6 w2 Dr Is ij=>?_;refine(aT) aJ ij.b1<|?_;have J:=ij;refine(bL) yt (e7 J.e0 (As.gr J.g5) (As.gr J.g4) h6 S) ?_;rintro _ w3 ⟨f1,f2,f3,f4,f5,f6,Z1,rfl,uY,T⟩;have jc:=St.lv J T uY;have Gy:=St.bB T;have Gz:=St.bB T.p1;have U:=J.size;have y9:=uY.le U;have DS:=St.fresh jc;have ef:=jc.a8 (by omega);have DT:=St.fresh ef.p1;have dw:=ef.p1.a8 (by omega);have nK:=(y9.trans (bA.dx (F:=fun x=>x∈aG f1) Gy) U).trans (bA.dx (F:=fun x=>x∈aG f4) Gz) U;refine(cD) eJ dw.p3 fun w4 ko ly E=>?_;refine(aT) aJ E.b0<|(bL) Pa (kL (As.gr E.g8) (As.gr E.g2) (As.gr E.g1) (As.gr E.g5)) ?_;rintro _ w5 ⟨rfl,s5⟩;rw [MV];have db:=E.step s5;refine(aN) (fun g20=>?_) fun g20=>?_
 ·
  exact absurd g20 (by simp)
 refine cL ?_;refine WC.bY (m:=6) [] [2,4] [0,1,2,3,4,5] [(5,.map)] db (ao.k4 M0 M1 M2 M3<|ao.k4 M4 M5 M6 M7<|ao.cons M8<|ao.nil) mixed (by kernel_rfl) (by kernel_rfl) rfl<|(kh) aJ SV.g0<|(gi) (fun w6 Qj DU cF uZ=>?_);simp only [CA,NA] at cF;have fV:=cF;refine OX.call Ic rfl rfl ((jW (x:=x) fV.e0).mono ?_);rintro _ w7 ⟨d1,d2,d3,rfl,jb⟩;have fJ:=St.lr fV jb;refine⟨_,rfl,jb.bT.size,_,rfl,_,_,_,fJ,aw.k4<|aw.k4<|aw.k4<|aw.nil,ao.k4 M3 M4 M5 M6<|ao.k4 M7 M8 M9 iZ<|ao.cons jj<|ao.nil,?_⟩;refine(kh) aJ SV.g0<|(gi) (fun w8 LG yH dW l7=>?_);simp only [CA,NA] at dW;have K:=dW;refine OX.call yt rfl rfl ((e7 K.e0 (As.gr K.g5) (As.gr K.g4) h6 S).mono ?_);rintro _ w9 ⟨q1,q2,q3,V,q5,q6,Z3,rfl,pD,L⟩;have dV:=St.lv K L pD;have abQ:=St.bB L;have abR:=St.bB L.p1;have W:=K.size;have DO:=nK.trans pD W;have abS:=St.fresh dV;have ew:=dV.a8 (by omega);have abT:=St.fresh ew.p1;have gq:=ew.p1.a8 (by omega);have uP:=(DO.trans (bA.dx (F:=fun x=>x∈aG q1) abQ) W).trans (bA.dx (F:=fun x=>x∈aG V) abR) W;refine⟨_,rfl,L.bT.size,_,rfl,_,_,_,gq,aw.k4<|aw.k4<|aw.k4<|aw.k2<|aw.nil,ao.k4 M5 M6 M7 M8<|ao.k4 M9 iZ jj nh<|ao.cons vz<|ao.nil,?_⟩;refine DG.side (s:=.map) rfl rfl rfl rfl rfl rfl (fun wx Zx Rx uS zd=>OX.makeMap Key.val rfl fun b wy nw hb=>⟨nw.ext.size,_,rfl,⟨b,rfl⟩,zd.JT nw hb⟩)<|?_;rintro _ ⟨X,rfl⟩;refine(kZ) ?_;intro jB DV dK;simp only [CM,NM,CA,NA,iL.it] at dK;refine WP .r (PV.bs (us:=(EA.cells ⟨q1,V,none,q2,q3,q5,q6,0,0⟩ d1 X ⟨x,[],[],0⟩)) S6 rfl rfl rfl)<|(dE) dK fun ZD iV Up Uq gJ=>?_;refine nx ?_;refine WL.nil (EX.np ?_);have o:=gJ.p5.p5;have fA:=o.join (C:=As.ja prog 116 aa x ⟨ar,f1,f4,r,cr,f2,f3,f5,f6,d2,d3,d1⟩) ⟨o.Sk,(As.gb o.g0),⟨[],aY.nil,(As.gm o.g1)⟩,⟨(As.gr o.g15),(As.gr o.g9),(As.gr o.g8),(As.gf o.g11)⟩⟩ (fun y h=>h);have fZ:=fA.df RR.key 29 2;refine j8 ?_;refine WC.ie (σ:=Nat × ES × EA × (Nat→Prop)) (dm:=fun(j,s1,d,z)=>[(4,.pointer (some ⟨b4,0,none⟩)),(6,.pointer (some ⟨b6,0,none⟩)),(10,.pointer (some ⟨ZD,0,none⟩)),(31,.slice P g eg),(32,.int .i64 (g:Int)),(33,.int .i64 (j:Int))]) (F:=fun(j,s1,d,z)=>[As.blk ZD 151 (EA.cells d d1 X s1),As.map Key.val X s1.busy,As.os RR.key 29 2 d.a3 d.n3 d.c3 s1.bM,As.ro RR.az 4 d.a1 d.n1 d.c1 s1.b.ad,As.ro RR.ed 8 d.a2 d.n2 d.c2 s1.b.ah]) (I:=fun(j,s1,d,z)=>(dC aa (valOf aa x.ad) f s1 (goals.drop j)=some s')∧(Good aa x.ad s1)∧(j≤g)∧(bA w.heap.size Z z)∧True) (μ:=fun(j,s1,d,z)=>g - j) (Zf:=fun(j,s1,d,z)=>z) (0,⟨x,[],[],0⟩,⟨q1,V,none,q2,q3,q5,q6,0,0⟩,_) (fZ.p4.p5.p2.p5.p5) Sub.t (⟨ID,DN,Nat.zero_le _,uP,trivial⟩)<|?_;rintro⟨j,s1,d,z⟩ mu p ⟨A,Y,hj,N,_⟩;simp only [CA,NA] at p A Y hj N ⊢;refine(aN) (fun g34=>?_) fun g34=>?_
 ·
  simp at g34
  have Bq:j<goals.length:=by omega
  rw [List.drop_eq_getElem_cons Bq] at A;simp only [dC] at A;obtain⟨t,MQ,IH⟩:=Option.bind_eq_some_iff.1 A;have Wz:=hk goals[j] (List.getElem_mem Bq);have JA:=(bS (val:=valOf aa x.ad) Q f).1 _ _ _ MQ Y Wz;have hgc:=oy Q IH JA.1 (fun k Mg=>hk k (List.mem_of_mem_drop Mg));refine cS ?_;obtain⟨ia,lP,lk,ck,gP,fT,e5,e6⟩:=Rd.at (As.gr p.g12) Bq;have fT:=RR.bN fT;subst fT;have G:=p.fg e6 e5;refine nx ?_;refine WP .r (PV.ei eI ck rfl rfl (by omega))<|(aT) ak (As.ma G.g0)<|(ff) G fun b12 oL abV abW q=>?_;refine(cD) gR q fun uL r8 mr u=>?_;refine(aT) ak u.b0<|?_;have i:=u.p4.p4.p7.p5;refine(bL) Ih (P4 (D:=⟨ar,f1,f4,r,cr,f2,f3,f5,f6,d2,d3,d1⟩) Q S f _ _ _ _ _ _ _ i.e4 (As.gr i.g6) (As.gr i.g7) Y Wz MQ (by have:=hgc.2.bM;omega)) ?_;rintro _ pB ⟨E2,Z6,rfl,BJ,hi6,hr6,u0⟩;have O:=St.lv i u0 BJ;have yL:=N.trans BJ i.size;have H:=O.fr (hi6);have qD:=H.fr (hr6);have lq:=qD.p8.drop;have lx:=lq.p8.drop;refine eP ?_;refine dY (j+1,t,E2,Z6) ⟨lx.p6.drop.p6.drop.p1.p5.p5.p4,⟨IH,JA.1,by omega,yL,trivial⟩⟩
 simp at g34
 rw [List.drop_eq_nil_of_le (by omega)] at A;simp only [dC,Option.some.injEq] at A;subst A;refine(aU) xt p.b0<|(aN) (fun v=>?_) fun v=>?_
 ·
  simp at v
  have G:=p.df RR.key 29 2;refine nx ?_;refine WC.bY (m:=7) [] [5] [0,5,1,2,3,4,6] [] G (ao.k4 M0 M1 M2 M3<|ao.k4 M4 M5 M6 M7<|ao.k4 M8 M9 iZ nh<|ao.k4 vz Ca Nr RC<|ao.nil) mixed (by kernel_rfl) (by kernel_rfl) rfl<|(kh) aJ SV.g8<|?_;refine DG.cs rfl rfl rfl rfl rfl (fun oL LI yM q l8=>?_);simp only [CA,NA] at q;refine OX.lW eJ (As.gb q.g11) rfl rfl rfl rfl rfl fun uL Bc _ wQ=>?_;have u:=q.l9.zH Bc wQ;refine⟨Bc.size,rfl,_,_,_,u,aw.k4<|aw.k4<|aw.k4<|aw.k4<|aw.cons<|aw.nil,ao.k4 M1 M2 M3 M4<|ao.k4 M5 M6 M7 M8<|ao.k4 M9 iZ jj nh<|ao.k4 vz Ca Nr RC<|ao.nil,?_⟩
  iterate 3 refine DG.a ?_
  refine(zP) xt SV.g1<|(kZ) ?_;intro pB EY i;simp only [CM,NM,CA,NA,iL.it] at i;refine nx ?_;refine WL.nil (EX.np ?_);refine cL ?_;refine EX.fL rfl (RS.cell aJ rfl i.b0 rfl<|RS.tmp rfl<|RS.tmp rfl<|RS.nil) rfl<|?_;have hb:s1.base x=x:=if_neg v;have hl:s1.list=[]:=if_neg v;exact⟨f1,f2,f3,f4,f5,f6,none,0,0,_,by rw [hb],N,by rw [hb];exact(As.gr i.g11),by rw [hb];exact(As.gr i.g10),by rw [hl];exact(St.wk i.p1.k1)⟩
 simp at v
 refine cL ?_;have GY:=((As.gs p.g2)).len;have Qk:=St.fresh p.p2;have G:=p.p2.a8 (by omega);have hZr:=N.trans (bA.dx (F:=fun x=>x∈aG d.a3) Qk) (Nat.le_refl _);refine WC.bY (m:=9) [] [8] [4,5,6,7,8,0,1,2,3] [] G (ao.k4 M0 M1 M2 M3<|ao.k4 M4 M5 M6 M7<|ao.k4 M8 M9 iZ jj<|ao.k4 nh vz Ca Nr<|ao.nil) mixed (by kernel_rfl) (by kernel_rfl) rfl<|?_
 iterate 3 refine DG.a ?_
 refine(zP) eZ SV.g1<|(gi) (fun oL R8x abX q Vj=>?_);simp only [CA,NA] at q;have u:=q;refine OX.call O8 rfl rfl ((lS u.e0 (As.gr u.g0) (fun _ h _=>h) yA).mono ?_);rintro _ uL ⟨o1,o2,o3,rfl,BL⟩;have i:=St.lr u BL;refine⟨_,rfl,BL.bT.size,_,rfl,_,_,_,i,aw.k4<|aw.k4<|aw.k4<|aw.k4<|aw.cons<|aw.nil,ao.k4 M1 M2 M3 M4<|ao.k4 M5 M6 M7 M8<|ao.k4 M9 iZ jj nh<|ao.k4 vz Ca Nr RC<|ao.nil,?_⟩
 iterate 3 refine DG.a ?_
 refine(Fs) aJ SV.g1<|(kZ)<|?_;intro pB xC O;simp only [CM,NM,CA,NA,iL.it] at O;refine(cD) eJ O.l9 fun sD Lg Lh H=>?_;refine bz ?_;refine WL.nil (EX.np ?_);refine bz ?_;refine EX.fL rfl (RS.cell aJ rfl H.b0 rfl<|RS.tmp rfl<|RS.tmp rfl<|RS.nil) rfl<|?_;have hb:s1.base x=s1.b:=if_pos v;have hl:s1.list=jh s1.bM:=if_pos v;exact⟨d.a1,d.n1,d.c1,d.a2,d.n2,d.c2,o1,o2,o3,_,by rw [hb,v];rfl,hZr,by rw [hb];exact(As.gr H.g5),by rw [hb];exact(As.gr H.g6),by rw [hl];exact(St.wk H.p1.k1)⟩
set_option maxHeartbeats 400000
set_option maxHeartbeats 400000
set_option maxHeartbeats 400000
theorem LJ(b:aq aa) (q:∀k,(valOf aa x.ad k).size≤140737488355328):∀i:Nat,i<aa.length→MS aa x D (aD aa (i:Int)):=by
 intro i;have A:=b.len;have low:∀n:Nat,n≤15→MS aa x D (bH (n:Int)):=fun n hn w M Z ml al d e hm _=>rQ d e hm (bf (by omega))
 induction i using Nat.strongRecOn with
 | _ i r=>
  intro hi w M Z ml al d e hm g
  have gD:i≤99:=by omega
  have u:kD aa i al:=by
   have h:=g (cM hi gD);rw [cv hi gD,Int.toNat_natCast] at h;exact h
  refine DR d e hm b hi q u (fun hr w M Z ml al d e hm g=>?_) (fun hr a o=>?_)
  ·
   rw [cv hi gD,Int.toNat_natCast] at g;refine yI d e hm b q hi hr g fun j s a o hc=>?_;have p:=o.Sl b
   rcases o with⟨n,hn,rfl⟩ | ⟨m,hm,rfl,h1,t,B,v⟩
   ·
    exact low n hn
   have y:ay aa m=false:=by
    rw [hc,dP hm (by omega)] at p
    cases h:ay aa m
    ·
     rfl
    rw [h] at p;simp at p
   have C:bg aa j≤i:=Nat.le_trans (jM b s) (fo aa i)
   have z:m<i:=by
    have:=v y (im hi hr s).2
    omega
   exact r m z hm
  rcases o with⟨n,hn,rfl⟩ | ⟨m,hm,rfl,_,t,_⟩
  ·
   exact low n hn
  exact r m (t hr) hm
theorem DX(b:aq aa) (d:∀k,(valOf aa x.ad k).size≤140737488355328) {k:Key}(hk:eu aa k):MS aa x D k:=by
 cases hk with
 | cell h=>exact fun w M Z ml al e g hm _=>rQ e g hm (bf h)
 | dp h _=>exact LJ b d _ h
end Go.Rc

