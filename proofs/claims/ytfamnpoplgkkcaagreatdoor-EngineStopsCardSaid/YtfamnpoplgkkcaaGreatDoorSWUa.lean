/- Walks over the program, part WUa. Conditions: as each theorem says. -/
import Derived.Test.YtfamnpoplgkkcaaGreatDoorSFacts
import Derived.Test.YtfamnpoplgkkcaaGreatDoorSWU
import Derived.Test.YtfamnpoplgkkcaaGreatDoorSBf
import Derived.Test.YtfamnpoplgkkcaaGreatDoorSBg
import Derived.Test.YtfamnpoplgkkcaaGreatDoorSWB
import Derived.Test.YtfamnpoplgkkcaaGreatDoorSBh
import Derived.Test.YtfamnpoplgkkcaaGreatDoorShelf
import Derived.Test.YtfamnpoplgkkcaaGreatDoorSBi
import Derived.Test.YtfamnpoplgkkcaaGreatDoorSWLibE
import Derived.Test.YtfamnpoplgkkcaaGreatDoorSBd
set_option linter.all false
namespace Go.Rc
open Go Go.Proofs Go.Proofs.Tryz
variable {n c n1 e1 n2 e2:Nat}{w:World}{a a1 a2:Option Addr}{aa:List aG}{k:Key}{l:List Key}{f:FuncId}{Z M:Nat→Prop}{x:cz}{D:SD}
set_option maxHeartbeats 400000
theorem vQ{n:Int} :CR prog 173 #[.int .i64 n] w (.bool false):=by
 refine enter func173 rfl ntmps173 rfl<|?_;have aQ:=St.s0 w;refine aW ?_;refine(bA) ?_;exact⟨by simp,(St.cg aQ)⟩
theorem Aa{a b:Int} :CR prog 128 #[.int .i64 a,.int .i64 b] w (.int .i64 (wH a b)):=by
 refine enter func128 rfl ntmps128 rfl<|?_;have aQ:=St.s0 w;refine(eV) (vQ) aQ fun w1 s1 st1=>?_;refine(eV) (vQ) st1 fun w2 s2 st2=>?_;refine kU ?_;refine WC.fX rfl<|gK ?_;refine WC.fX rfl<|(aS) (fun g16=>?_) fun g16=>?_
 ·
  simp at g16
  refine(bA) ?_;exact⟨by unfold wH;rw [if_pos g16],(St.cg st2)⟩
 simp at g16
 refine(aS) (fun g19=>?_) fun g19=>?_
 ·
  simp at g19
  refine(bA) ?_;exact⟨by unfold wH;rw [if_neg (by omega),if_pos g19],(St.cg st2)⟩
 simp at g19
 refine(bA) ?_;exact⟨by unfold wH;rw [if_neg (by omega),if_neg (by omega)],(St.cg st2)⟩
theorem Ab{l:List Int}{A:Nat→Prop}(hl:Ints A w a n c l):CR prog 127 #[.slice a n c] w (.int .i64 (Q1 l)):=by
 have hle:=SR.le hl;have hlen:=SR.len hl;refine enter func127 rfl ntmps127 rfl<|?_;have aQ:=St.s0 w;refine aW ?_;refine eD ?_;refine WC.bm (σ:=Nat) (dn:=fun i=>[(3,.int .i64 0),(6,.slice a n c),(7,.int .i64 (n:Int)),(8,.int .i64 (i:Int))]) (F:=fun i=>[]) (I:=fun i=>(i≤n)∧(∀j x,j<i→l[j]?=some x→x=0)∧True) (μ:=fun i=>n - i) (0) (aQ) Sub.t (⟨by omega,fun j x h=>by omega,trivial⟩)<|?_;rintro i w1 st1 ⟨hi,b,_⟩;simp only [CA,NA] at st1 hi b ⊢;refine(aS) (fun g9=>?_) fun g9=>?_
 ·
  simp at g9
  have d:i<l.length:=by omega
  obtain⟨p,q,s,e,_,rfl,g,_⟩:=(SR.ext hl (St.cg st1)).at (ak d);refine fH ?_;refine WP .r (PV.dV E7 e rfl rfl (by omega))<|WP .r (PV.mn aO g rfl rfl)<|(aS) (fun g14=>?_) fun g14=>?_
  ·
   simp at g14
   refine(bA) ?_;exact⟨by rw [Q3 d b g14],(St.cg st1)⟩
  simp at g14
  refine eD ?_;refine ez (i+1) ⟨st1,⟨by omega,cJ d b (by simpa using g14),trivial⟩⟩
 simp at g9
 refine(bA) ?_;exact⟨by rw [MK (fun x m=>by obtain⟨j,o,rfl⟩:=List.mem_iff_getElem.1 m;exact b j _ (by omega) (ak o))],(St.cg st1)⟩
theorem mi{a b:Key} :CR prog 77 #[a.val,b.val] w (.int .i64 (bD a b)):=by
 refine enter func77 rfl ntmps77 rfl<|?_;have aQ:=St.s0 w;refine(dz) aQ fun b2 w1 p q st1=>?_;refine(dz) st1 fun b3 w2 r s st2=>?_;refine ck ?_;have t:=st2.bQ;refine WC.dD (m:=9) (E:=cF [(4,fun v _=>v=.int .i64 (wH a.kind b.kind))]) st2 (bj (⟨fun _ _ _ _ _ _ _ h=>h,trivial⟩)) mixed (by kernel_rfl)<|(iD) aO St.g1<|(iD) aO St.g0<|?_;refine DW.c0 (fun y z A=>Aa)<|(iD) e7 St.g1<|(iD) e7 St.g0<|(cS)<|?_;rintro w3 ⟨B,e⟩ ⟨_,_⟩;refine(eV) (oN a.text b.text w3) e fun w4 C g=>?_;refine WL.go rfl (OX.aP (us:=[.int .i64 (wH a.kind b.kind),.int .i64 (Lib.compareBytes a.text.data.toList b.text.data.toList)]) R7 rfl rfl rfl rfl fun F w5 i j=>?_);have d:=g.cZ i j;refine WL.c1 (u:=.int .i64 (bD a b)) (Ab (l:=[wH a.kind b.kind,Lib.compareBytes a.text.data.toList b.text.data.toList]) (SR.Qx (rows:=[[.int .i64 (wH a.kind b.kind)],[.int .i64 (Lib.compareBytes a.text.data.toList b.text.data.toList)]]) (As.gb d.g0) rfl (by simp) (by simp [Value.oneCell']) (by simp) (BQ rfl rfl))) (by rw [ML]) d fun w6 G o=>?_;refine(bA) ?_;exact⟨rfl,(St.cg o)⟩
theorem tN(hk:eA aa k):CR prog 203 #[k.val] w (.bool false):=by
 obtain⟨i,jo,b,d⟩:=hk.shape;refine enter func203 rfl ntmps203 rfl<|?_;have aQ:=St.s0 w;refine(dz) aQ fun b1 w1 e g st1=>?_;refine(aX) ao st1.b0<|(eV) (hY (k:=k) d b jo) st1 fun w2 s2 st2=>?_;refine(bA) ?_;exact⟨rfl,(St.cg st2)⟩
theorem vR{p:Key→Bool}(m:CF prog f) (hl:Rd RR.key 2 Z w a n c l) (o:∀w1,aU [] w w1→∀x∈l,Calls prog f #[x.val] w1 fun e w'=>e=.returned (.bool (p x))∧aU [] w1 w'):Calls prog 109 #[.slice a n c,.func (.func f) #[] #[]] w fun e w'=>∃j:Int,e=.returned (.int .i64 j)∧uJ l p j∧aU [] w w':=by
 have hlen:=hl.len;have hle:=hl.le;refine enter func109 rfl ntmps109 rfl<|?_;have aQ:=St.s0 w;refine aW ?_;refine bO ?_;refine WC.bm (σ:=Nat) (dn:=fun i=>[(0,.slice a n c),(1,.func (.func f) #[] #[]),(7,.int .i64 (n:Int)),(8,.int .i64 (i:Int))]) (F:=fun i=>[]) (I:=fun i=>(i≤n)∧(∀j x,j<i→l[j]?=some x→p x=false)∧True) (μ:=fun i=>n - i) (0) (aQ) Sub.t (⟨by omega,fun j x h=>by omega,trivial⟩)<|?_;rintro i w1 st1 ⟨hi,b,_⟩;simp only [CA,NA] at st1 hi b ⊢;refine(aS) (fun g9=>?_) fun g9=>?_
 ·
  simp at g9
  have d:i<l.length:=by omega
  refine kg ?_;obtain⟨z,A,B,q,C,g,s,E⟩:=Rd.at hl d;have g:=RR.ba g;subst g;refine ck ?_;refine WP .r (PV.dV ey q rfl rfl (by omega))<|(aX) ao (a7 s (St.cg st1) (by simp))<|?_;refine WL.go rfl (OX.mY m rfl rfl rfl ((Calls.VV (o _ (St.cg st1) l[i] (List.getElem_mem d))).mono ?_));rintro _ w2 ⟨rfl,s2⟩;refine⟨_,rfl,?_⟩;have st2:=st1.step s2;refine(aS) (fun g16=>?_) fun g16=>?_
  ·
   refine(bA) ?_;exact⟨_,rfl,.inl ⟨i,_,ak d,g16,b,rfl⟩,(St.cg st2)⟩
  have g16:p l[i]=false:=by simpa using g16
  refine eD ?_;refine ez (i+1) ⟨st2,⟨by omega,cJ d b (by simpa using g16),trivial⟩⟩
 simp at g9
 have u:∀x∈l,p x=false:=fun x v=>by obtain⟨j,y,rfl⟩:=List.getElem_of_mem v;exact b j _ (by omega) (ak y)
 refine(bA) ?_;exact⟨_,rfl,.inr ⟨u,rfl⟩,(St.cg st1)⟩
theorem qU{p:Key→Bool}(b:CF prog f) (hl:Rd RR.key 2 Z w a n c l) (d:∀w1,aU [] w w1→∀x∈l,Calls prog f #[x.val] w1 fun e w'=>e=.returned (.bool (p x))∧aU [] w1 w'):CR prog 64 #[.slice a n c,.func (.func f) #[] #[]] w (.bool (l.any p)):=by
 refine enter func64 rfl ntmps64 rfl<|?_;have aQ:=St.s0 w;refine(bY) KH (vR (w:=w) b (hl.ext (St.cg aQ)) (fun w1 h1=>d w1 (aU.trans (St.cg aQ) h1))) ?_;rintro _ w1 ⟨j,rfl,g,s1⟩;have st1:=aQ.step s1;have h:=g.any;refine(bA) ?_;exact⟨by rw [h],(St.cg st1)⟩
set_option maxHeartbeats 1600000 in
theorem vS{x:Rec}(hk:Rd RR.key 2 Z w a n c x.reads) (z:JI aa x):CR prog 149 #[.agg (x.row a n c).toArray] w (.bool true):=by
 have hlen:=hk.len;obtain⟨h1,A,B,r⟩:=z;obtain⟨i,jo,C,E⟩:=h1.shape;have F:=h1.cY;rw [fq] at r;obtain⟨_,_,_,v4,v5,v6,J,K,v9,v10,v11⟩:=r;refine enter func149 rfl ntmps149 rfl<|?_;have aQ:=St.s0 w;refine(dz) aQ fun b1 w1 L N st1=>?_;refine dd ?_;refine WC.dJ (t:=34) (v:=.bool false) st1 ?_<|?_
 ·
  refine(ia) ao st1.b0<|(eV) (hY (k:=x.key) E C jo) st1 fun w2 s2 st2=>?_;refine(ia) ao st2.b0<|?_;refine WL.c1 (u:=.bool false) (cN (k:=x.key)) (by rw [A]) st2 fun w3 G e=>?_;refine(aZ) e7 e.b0<|(de) (fun g19=>?_) (fun g19=>?_)
  ·
   refine aW ?_;exact(bZ) (by first | (simp only [g19];done) | (simp [g19];done) | (have g:x.key.kind=32:=ql h1 (by simpa [g19] using v11);simp [g19,g];done) | (simp at g19 ⊢ <;> omega) | (simp [g19] <;> omega)) (e)
  refine(aZ) dK e.b0<|(de) (fun b=>?_) (fun b=>?_)
  ·
   exact(bZ) (by first | (simp only [g19,b];done) | (simp [g19,b];done) | (have g:x.key.kind=32:=ql h1 (by simpa [g19,b] using v11);simp [g19,b,g];done) | (simp at g19 b ⊢ <;> omega) | (simp [g19,b] <;> omega)) (e)
  refine(aZ) dA e.b0<|(de) (fun d=>?_) (fun d=>?_)
  ·
   refine(ia) ao e.b0<|(eV) (fF (k:=x.key) F) e fun w4 O H=>?_;exact(bZ) (by first | (simp only [g19,b,d];done) | (simp [g19,b,d];done) | (have g:x.key.kind=32:=ql h1 (by simpa [g19,b,d] using v11);simp [g19,b,d,g];done) | (simp at g19 b d ⊢ <;> omega) | (simp [g19,b,d] <;> omega)) (H)
  exact(bZ) (by first | (simp only [g19,b,d];done) | (simp [g19,b,d];done) | (have g:x.key.kind=32:=ql h1 (by simpa [g19,b,d] using v11);simp [g19,b,d,g];done) | (simp at g19 b d ⊢ <;> omega) | (simp [g19,b,d] <;> omega)) (e)
 intro w2 st2;refine(aS) (fun s=>?_) fun s=>?_
 ·
  exact dr s
 refine gK ?_;refine WC.kf (t:=2) (v:=.bool true) st2 ?_<|?_
 ·
  refine(aZ) aO st2.b0<|(de) (fun h=>?_) (fun h=>?_)
  ·
   refine(aZ) aO st2.b0<|(aZ) aO st2.b0<|(de) (fun j=>?_) (fun j=>?_)
   ·
    refine(aZ) aO st2.b0<|(de) (fun m=>?_) (fun m=>?_)
    ·
     refine(aZ) aO st2.b0<|(de) (fun o=>?_) (fun o=>?_)
     ·
      refine(aZ) aO st2.b0<|(de) (fun q=>?_) (fun q=>?_)
      ·
       refine(aZ) dK st2.b0<|nx ?_;refine WL.c1 (u:=.bool false) (qU (p:=fun _=>false) X8 (hk.ext (St.cg st2)) (fun w1 _ y I=>tN (B y I))) (by rw [List.any_eq_false.2 (fun _ _=>by simp)]) st2 fun w3 G e=>?_;exact(gu) (tG (aj h<|aj j<|aj m<|aj o q)) (e)
      exact(gu) (tG (aj h<|aj j<|aj m<|aj o q)) (st2)
     refine aW ?_;exact(gu) (tG (aj h<|aj j<|aj m o)) (st2)
    refine aW ?_;exact(gu) (tG (aj h<|aj j m)) (st2)
   refine aW ?_;exact(gu) (tG (aj h j)) (st2)
  refine aW ?_;refine aW ?_;exact(gu) (tG h) (st2)
 intro w3 e;refine(bA) ?_;exact⟨rfl,(St.cg e)⟩
theorem qV{l:List Rec}(hl:Rd RR.ew 8 Z w a n c l) (q:∀x∈l,JI aa x) (s:pQ l) (L:l.length≤4000):CR prog 105 #[.slice a n c] w (.bool true):=by
 have hlen:=hl.len;have hle:=hl.le;refine enter func105 rfl ntmps105 rfl<|?_;have aQ:=St.s0 w;refine aW ?_;refine bO ?_;refine WC.bm (σ:=Nat) (dn:=fun j=>[(0,.slice a n c),(5,.slice a n c),(6,.int .i64 (n:Int)),(7,.int .i64 (j:Int))]) (F:=fun j=>[]) (I:=fun j=>(j≤n)∧True) (μ:=fun j=>n - j) (0) (aQ) Sub.t (⟨by omega,trivial⟩)<|?_;rintro j w1 st1 ⟨u,_⟩;simp only [CA,NA] at st1 u ⊢;refine(aS) (fun g8=>?_) fun g8=>?_
 ·
  simp at g8
  have g:j<l.length:=by omega
  refine dd ?_;obtain⟨N,O,P,y,Q,z,A,R⟩:=Rd.at hl g;obtain⟨q1,S,T,rfl,B,U⟩:=z;refine bO ?_;refine WP .r (PV.dV iV y rfl rfl (by omega))<|(aX) dh (a7 A (St.cg st1) (by simp))<|(eT) st1 fun b4 w2 V W st2=>?_;refine(cI) fI st2 fun w3 X Y i=>?_;refine cm ?_;refine WC.dJ (t:=30) (v:=.bool false) i ?_<|?_
  ·
   have Y1:=i.bQ;refine WC.dD (m:=15) (E:=cF [(1,fun v _=>v=.bool true)]) i (bj (⟨fun _ _ _ _ _ _ _ h=>h,trivial⟩)) mixed (by kernel_rfl)<|(gU) dh St.g0<|?_;refine DW.c0 (fun wx e hF=>vS (B.ext (St.cg e.2)) (q _ (List.getElem_mem g)))<|(om) (fun g18=>?_) (fun g18=>?_)
   ·
    have Zr:1≤j:=by have h0:=g18;simp at h0;omega
    have o:j - 1<l.length:=by omega
    have AM:bD l[j - 1].key l[j].key<0:=List.pairwise_iff_getElem.1 s (j - 1) j o g (by simp at g18;omega);obtain⟨tH,Ic,Fu,C,vC,G,H,nK⟩:=Rd.at hl o;obtain⟨p1,p2,p3,rfl,_,_⟩:=G;refine cm ?_;refine DP .r (fun _ e=>PV.D3 iV (j - 1) C rfl rfl (by omega) (by omega))<|nx ?_;refine DP .r (fun _ e=>PV.wA ao (a7 H (St.cg e.2) (by simp)) rfl rfl)<|(tv) ao St.g0<|(cS)<|?_;rintro w4 ⟨J,d⟩ ⟨_,_⟩;refine(eV) (mi (a:=l[j - 1].key) (b:=l[j].key)) d fun w5 s5 K=>?_;exact(bZ) (tG g18) (K)
   refine(cS) ?_;rintro w4 ⟨J,d⟩ ⟨_,_⟩;exact(bZ) (tG g18) (d)
  intro w4 d;refine(aS) (fun p=>?_) fun p=>?_
  ·
   exact dr p
  refine eD ?_;refine ez (j+1) ⟨d.drop,⟨by omega,trivial⟩⟩
 simp at g8
 refine aW ?_;refine(bA) ?_;exact⟨by simp;omega,(St.cg st1)⟩
theorem vT{i:Nat}(jo:i≤99) (hk:k=⟨30,itoa i⟩):CR prog 106 #[k.val] w (.bool true):=by
 subst hk;refine enter func106 rfl ntmps106 rfl<|?_;have aQ:=St.s0 w;refine(dz) aQ fun b1 w1 d e st1=>?_;refine(aX) ao st1.b0<|(eV) (hY (k:=⟨30,itoa i⟩) ⟨(by decide:(30:Int)≤30),(by decide:(30:Int)≤32)⟩ rfl jo) st1 fun w2 s2 st2=>?_;refine(aX) ao st2.b0<|?_;refine WL.c1 (u:=.bool true) (cN (k:=⟨30,itoa i⟩)) (by rw [show ay ⟨30,itoa i⟩=true from rfl]) st2 fun w3 g b=>?_;refine(bA) ?_;exact⟨rfl,(St.cg b)⟩
set_option maxHeartbeats 1600000 in
set_option maxRecDepth 100000 in
theorem sq(hi:Rd RR.aD 4 Z w a1 n1 e1 x.ab) (hr:Rd RR.ew 8 Z w a2 n2 e2 x.ah) (T:uK aa x):CR prog 63 #[.agg (x.row a1 n1 e1 a2 n2 e2).toArray] w (.bool true):=by
 obtain⟨x0,x1,N,U,x6,V,xs,W,X⟩:=T;have eS:=hi.len;have Is:=hi.le;have EE:=hr.len;refine enter func63 rfl ntmps63 rfl<|?_;have aQ:=St.s0 w;refine(dz) aQ fun b1 w1 Yv Fk st1=>?_;refine dd ?_;refine WC.dJ (t:=24) (v:=.bool false) st1 ?_<|?_
 ·
  refine(aZ) aO st1.b0<|(de) (fun g8=>?_) (fun g8=>?_)
  ·
   refine aW ?_;exact(bZ) (tG g8) (st1)
  refine(aZ) aO st1.b0<|(de) (fun g13=>?_) (fun g13=>?_)
  ·
   exact(bZ) (tG (aj g8 g13)) (st1)
  refine(aZ) kO st1.b0<|(de) (fun g19=>?_) (fun g19=>?_)
  ·
   exact(bZ) (tG (aj g8<|aj g13 g19)) (st1)
  refine(aZ) dF st1.b0<|(eV) (qV (hr.ext (St.cg st1)) V xs W) st1 fun w2 s2 st2=>?_;exact(bZ) (tG (aj g8<|aj g13 g19)) (st2)
 intro w2 st2;refine(aS) (fun g24=>?_) fun g24=>?_
 ·
  exact dr g24
 refine(aZ) kO st2.b0<|dd ?_;refine WC.bm (σ:=Nat) (dn:=fun j=>[(1,.pointer (some ⟨b1,0,none⟩)),(26,.slice a1 n1 e1),(27,.int .i64 (n1:Int)),(28,.int .i64 (j:Int))]) (F:=fun j=>[]) (I:=fun j=>(j≤n1)∧True) (μ:=fun j=>n1 - j) (0) (st2) Sub.t (⟨by omega,trivial⟩)<|?_;rintro j w3 o ⟨Y,_⟩;simp only [CA,NA] at o Y ⊢;refine(aS) (fun G=>?_) fun G=>?_
 ·
  simp at G
  have B:j<x.ab.length:=by omega
  obtain⟨y,s⟩:∃y,x.ab[j]=y:=⟨_,rfl⟩;obtain⟨i,jo,hyk⟩:=U _ (s ▸ List.getElem_mem B);obtain⟨_,_,hv,hc0,hc1⟩:=N.2 _ (s ▸ List.getElem_mem B);refine dd ?_;obtain⟨gJ,kF,jV,cR,gI,H,O,eJ⟩:=Rd.at hi B;have H:=RR.ba H;subst H;rw [s] at O
  have P:j - 1<x.ab.length:=by omega
  obtain⟨z,Q⟩:∃z,x.ab[j - 1]=z:=⟨_,rfl⟩;refine bO ?_;refine WP .r (PV.dV tE cR rfl rfl (by omega))<|(aX) mA (a7 O (St.cg o) (by simp))<|(eT) o fun b4 w4 Fh IY J=>?_;refine(cI) Ck J fun w5 jW ka K=>?_;refine cm ?_;refine WC.dJ (t:=71) (v:=.bool false) K ?_<|?_
  ·
   have Tj:=K.bQ;refine WC.dD (m:=37) (E:=cF [(2,fun v _=>v=.bool true),(17,fun v _=>v=.int .i64 (bD z.key y.key))]) K (bj (⟨fun _ _ _ _ _ _ _ h=>h,⟨fun _ _ _ _ _ _ _ h=>h,trivial⟩⟩)) mixed (by kernel_rfl)<|(tv) ao St.g0<|?_;refine DW.c0 (fun wx C hF=>vT jo hyk)<|(om) (fun e=>?_) (fun e=>?_)
   ·
    have Zr:1≤j:=by have h0:=e;simp at h0;omega
    have AM:bD z.key y.key<0:=by rw [← s,← Q];exact List.pairwise_iff_getElem.1 N.1 (j - 1) j P B (by omega)
    obtain⟨tH,Ic,Fu,kQ,vC,L,R,nK⟩:=Rd.at hi P;have L:=RR.ba L;subst L;rw [Q] at R;refine(iD) kO St.g1<|bO ?_;refine DP .r (fun _ C=>PV.D3 tE (j - 1) kQ rfl rfl (by omega) (by omega))<|nx ?_;refine DP .r (fun _ C=>PV.wA ao (a7 R (St.cg C.2) (by simp)) rfl rfl)<|(tv) ao St.g0<|?_;refine DW.c0 (fun wx C hF=>mi (a:=z.key) (b:=y.key))<|(om) (fun A=>?_) (fun A=>?_)
    ·
     refine aW ?_;refine(cS) ?_;rintro w6 ⟨u,d⟩ ⟨_,⟨_,_⟩⟩;exact(bZ) (tG (aj e A)) (d)
    refine(iD) e7 St.g0<|(om) (fun g=>?_) (fun g=>?_)
    ·
     refine(cS) ?_;rintro w6 ⟨u,d⟩ ⟨_,⟨_,_⟩⟩;exact(bZ) (tG (aj e<|aj A g)) (d)
    refine(iD) aO St.g0<|(om) (fun q=>?_) (fun q=>?_)
    ·
     refine(cS) ?_;rintro w6 ⟨u,d⟩ ⟨_,⟨_,_⟩⟩;exact(bZ) (tG (aj e<|aj A<|aj g q)) (d)
    refine(iD) aO St.g0<|(iD) aO St.g1<|(cS)<|?_;rintro w6 ⟨u,d⟩ ⟨_,⟨_,_⟩⟩;exact(bZ) (tG (aj e<|aj A<|aj g q)) (d)
   refine aW ?_;refine(iD) e7 St.g0<|(om) (fun g=>?_) (fun g=>?_)
   ·
    refine(cS) ?_;rintro w6 ⟨u,d⟩ ⟨_,_⟩;exact(bZ) (tG (aj e g)) (d)
   refine(iD) aO St.g0<|(om) (fun q=>?_) (fun q=>?_)
   ·
    refine(cS) ?_;rintro w6 ⟨u,d⟩ ⟨_,_⟩;exact(bZ) (tG (aj e<|aj g q)) (d)
   refine(iD) aO St.g0<|(iD) aO St.g1<|(cS)<|?_;rintro w6 ⟨u,d⟩ ⟨_,_⟩;exact(bZ) (tG (aj e<|aj g q)) (d)
  intro w6 d;refine(aS) (fun S=>?_) fun S=>?_
  ·
   exact dr S
  refine eD ?_;refine ez (j+1) ⟨d.drop,⟨by omega,trivial⟩⟩
 simp at G
 refine(aZ) dF o.b0<|?_;refine WP .r (PV.func (us:=[]) (vs:=[.pointer (some ⟨b1,0,none⟩)]) rfl rfl)<|(eV) (sj (p:=fun r=>decide (x.ad<r.av)) Xk (hr.ext (St.cg o)) (fun wq hq y _ a n c _=>sn ((As.gb o.g0).ext hq)) (fun y s=>by have:=X y s;simp;omega)) o fun w4 s4 J=>?_;refine(bA) ?_;exact⟨by simp,(St.cg J)⟩
theorem tq(g:St w M Z w [As.os RR.key 41 2 a n c l]) (h0:l≠[]) (hn:l.length≤1000000):Calls prog 79 #[.slice a n c,.func (.func 77) #[] #[]] w fun e w'=>e=.returned (.tuple #[])∧∃l',l'.Perm l∧(l'.Pairwise fun x y=>¬bD y x<0)∧St w M Z w' [As.os RR.key 41 2 a n c l']:=
 x7 (row:=Key.cells) (key:=fun x=>x) (fun _=>rfl) (fun x v b=>by(simp [Key.cells] at b;rcases b with rfl | rfl <;> rfl)) (fun blk cap d w hc hH hb h=>slices_SortFunc 2 isAgg41 sizeOf41 Key.cells (fun _=>rfl) (fun x v b=>by(simp [Key.cells] at b;rcases b with rfl | rfl <;> rfl)) _ GP 77 #[] blk 0 cap d w W6 hc hH hb h) (fun x y w=>mi) g h0 hn
set_option maxHeartbeats 400000
theorem Ac{x y:Rec × RL} :CR prog 76 #[.agg (Rec.zm x).toArray,.agg (Rec.zm y).toArray] w (.int .i64 (bD x.1.key y.1.key)):=by
 refine enter func76 rfl ntmps76 rfl<|?_;have aQ:=St.s0 w;refine(dz) aQ fun b2 w1 e g st1=>?_;refine(dz) st1 fun b3 w2 h i st2=>?_;refine(ia) ao st2.b1<|(ia) ao st2.b0<|(eV) (mi (a:=x.1.key) (b:=y.1.key)) st2 fun w3 j d=>?_;refine(bA) ?_;exact⟨rfl,(St.cg d)⟩
instance:Inhabited (Rec × RL):=⟨(nb,⟨0,none,0,0⟩)⟩
theorem Ad{l:List (Rec × RL)}(b:St w M Z w [As.os RR.EO 47 8 a n c l]) (h0:l≠[]) (hn:l.length≤1000000):Calls prog 75 #[.slice a n c,.func (.func 76) #[] #[]] w fun e w'=>e=.returned (.tuple #[])∧∃l',l'.Perm l∧(l'.Pairwise fun x y=>¬bD y.1.key x.1.key<0)∧St w M Z w' [As.os RR.EO 47 8 a n c l']:=
 x7 (row:=Rec.zm) (key:=fun x=>x.1.key) (fun _=>rfl) Rec.Rt (fun blk cap d w hc hH hb g=>slices_SortFuncR 8 isAgg47 sizeOf47 Rec.zm (fun _=>rfl) Rec.Rt _ GP 76 #[] blk 0 cap d w call76 hc hH hb g) (fun x y w=>Ac) b h0 hn
set_option maxHeartbeats 400000
set_option maxHeartbeats 1600000 in
theorem xd{goals:List Key}{ar P:Option Addr}{r cr g eg f:Nat}{s':ES}(Q:aq aa) (gp:St w M Z w []) (hu:Rd RR.eG 4 Z w ar r cr aa) (hi:Rd RR.aD 4 Z w a1 n1 e1 x.ab) (hr:Rd RR.ew 8 Z w a2 n2 e2 x.ah) (R:Rd RR.key 2 Z w P g eg goals) (ht:lA prog Z w) (Qb:gE aa x goals=0) (FP:Good aa x.ab ⟨x,[],[],0⟩) (hk:∀k∈goals,eA aa k) (S:x.ab.length≤1000000)
 (K9:dM aa (valOf aa x.ab) f ⟨x,[],[],0⟩ goals=some s') (zQ:s'.bf.length≤1000000):Calls prog 61 #[.slice ar r cr,.agg (x.row a1 n1 e1 a2 n2 e2).toArray,.slice P g eg] w fun e w'=>∃Zs Zt Zu Zv Zw Zy ag' g' eg' Z',e=.returned (.tuple #[.agg ((s'.base x).row Zs Zt Zu Zv Zw Zy).toArray,.slice ag' g' eg',.int .i64 s'.e])∧bJ w.heap.size Z Z'∧Rd RR.aD 4 Z' w' Zs Zt Zu (s'.base x).ab∧Rd RR.ew 8 Z' w' Zv Zw Zy (s'.base x).ah∧St w M Z' w' [As.os RR.key 41 2 ag' g' eg' s'.list]:=by
 have OD:=R.len;have LY:=R.le
 have h6:x.ah.length≤1000000:=by have:=FP.len;simp only at this;omega
 refine enter func61 rfl ntmps61 rfl<|?_;have aQ:=St.rb gp;have st1:=aQ.fr hu;have st2:=st1.fr hi;have ir:=st2.fr hr;have hJ:=ir.fr R;have iY:=hJ.fact (B:=As.fz (FZ.IH prog)) ht (fun _ hx=>hx);refine(dz) iY fun b4 w1 Fh IY hM=>?_;refine(eT) hM fun b6 w2 Fi KW hh=>?_;refine(aX) aN hh.b1<|?_;have J:=hh;refine(bY) zD (fx J.e0 (As.gr J.g5) (As.gr J.g4) h6 S) ?_;rintro _ w3 ⟨f1,f2,f3,f4,f5,f6,Z1,rfl,nN,T⟩;have iF:=St.lv J T nN;have AZ:=St.bN T;have FQ:=St.bN T.p1;have U:=J.size;have wC:=nN.le U;have FY:=St.fresh iF;have eE:=iF.a8 (by omega);have F0:=St.fresh eE.p1;have di:=eE.p1.a8 (by omega);have mC:=(wC.trans (bJ.dC (F:=fun x=>x∈aJ f1) AZ) U).trans (bJ.dC (F:=fun x=>x∈aJ f4) FQ) U;refine(cI) dP di.p3 fun w4 jW ka E=>?_;refine(aX) aN E.b0<|(bY) Su (ll (As.gr E.g8) (As.gr E.g2) (As.gr E.g1) (As.gr E.g5)) ?_;rintro _ w5 ⟨rfl,s5⟩;rw [Qb];have dm:=E.step s5;refine(aS) (fun g20=>?_) fun g20=>?_
 ·
  exact absurd g20 (by simp)
 refine cm ?_;refine WC.bM (m:=6) [] [2,4] [0,1,2,3,4,5] [(5,.map)] dm (ai.k4 M0 M1 M2 M3<|ai.k4 M4 M5 M6 M7<|ai.cons M8<|ai.nil) mixed (by kernel_rfl) (by kernel_rfl) rfl<|(kW) aN SV.g0<|(fL) (fun w6 OE Ae cW qW=>?_);simp only [CA,NA] at cW;have ed:=cW;refine OX.call Sp rfl rfl ((pH (x:=x) ed.e0).mono ?_);rintro _ w7 ⟨d1,d2,d3,rfl,jB⟩;have fJ:=St.lr ed jB;refine⟨_,rfl,jB.bW.size,_,rfl,_,_,_,fJ,aw.k4<|aw.k4<|aw.k4<|aw.nil,ai.k4 M3 M4 M5 M6<|ai.k4 M7 M8 M9 hP<|ai.cons iJ<|ai.nil,?_⟩;refine(kW) aN SV.g0<|(fL) (fun w8 Tz xc ep mG=>?_);simp only [CA,NA] at ep;have K:=ep;refine OX.call zD rfl rfl ((fx K.e0 (As.gr K.g5) (As.gr K.g4) h6 S).mono ?_);rintro _ w9 ⟨q1,q2,q3,V,q5,q6,Z3,rfl,qO,L⟩;have dH:=St.lv K L qO;have agc:=St.bN L;have agd:=St.bN L.p1;have W:=K.size;have mS:=mC.trans qO W;have age:=St.fresh dH;have dI:=dH.a8 (by omega);have agf:=St.fresh dI.p1;have fb:=dI.p1.a8 (by omega);have qP:=(mS.trans (bJ.dC (F:=fun x=>x∈aJ q1) agc) W).trans (bJ.dC (F:=fun x=>x∈aJ V) agd) W;refine⟨_,rfl,L.bW.size,_,rfl,_,_,_,fb,aw.k4<|aw.k4<|aw.k4<|aw.k2<|aw.nil,ai.k4 M5 M6 M7 M8<|ai.k4 M9 hP iJ kB<|ai.cons oj<|ai.nil,?_⟩;refine DG.side (s:=.map) rfl rfl rfl rfl rfl rfl (fun wx Zx Rx qS oA=>OX.makeMap Key.val rfl fun b wy nw hb=>⟨nw.ext.size,_,rfl,⟨b,rfl⟩,oA.Mx nw hb⟩)<|?_;rintro _ ⟨X,rfl⟩;refine(jm) ?_;intro iP vU dN;simp only [CM,NM,CA,NA,hK.it] at dN;refine WP .r (PV.bC (us:=(EA.cells ⟨q1,V,none,q2,q3,q5,q6,0,0⟩ d1 X ⟨x,[],[],0⟩)) WS rfl rfl rfl)<|(dz) dN fun b30 iW Yr Ys eN=>?_;refine nx ?_;refine WL.nil (EX.np ?_);have o:=eN.p5.p5;have dQ:=o.join (C:=As.jH prog 137 aa x ⟨ar,f1,f4,r,cr,f2,f3,f5,f6,d2,d3,d1⟩) ⟨o.V0,(As.gb o.g0),⟨[],aV.nil,(As.gm o.g1)⟩,⟨(As.gr o.g15),(As.gr o.g9),(As.gr o.g8),(As.gf o.g11)⟩⟩ (fun y h=>h);have eZ:=dQ.dp RR.key 41 2;refine i7 ?_;refine WC.gY (σ:=Nat × ES × EA × (Nat→Prop)) (dn:=fun(j,s1,d,z)=>[(4,.pointer (some ⟨b4,0,none⟩)),(6,.pointer (some ⟨b6,0,none⟩)),(10,.pointer (some ⟨b30,0,none⟩)),(31,.slice P g eg),(32,.int .i64 (g:Int)),(33,.int .i64 (j:Int))]) (F:=fun(j,s1,d,z)=>[As.blk b30 153 (EA.cells d d1 X s1),As.map Key.val X s1.busy,As.os RR.key 41 2 d.a3 d.n3 d.c3 s1.bf,As.ro RR.aD 4 d.a1 d.n1 d.c1 s1.b.ab,As.ro RR.ew 8 d.a2 d.n2 d.c2 s1.b.ah]) (I:=fun(j,s1,d,z)=>(dM aa (valOf aa x.ab) f s1 (goals.drop j)=some s')∧(Good aa x.ab s1)∧(j≤g)∧(bJ w.heap.size Z z)∧True) (μ:=fun(j,s1,d,z)=>g - j) (Zf:=fun(j,s1,d,z)=>z) (0,⟨x,[],[],0⟩,⟨q1,V,none,q2,q3,q5,q6,0,0⟩,_) (eZ.p4.p5.p2.p5.p5) Sub.t (⟨K9,FP,Nat.zero_le _,qP,trivial⟩)<|?_;rintro⟨j,s1,d,z⟩ lB p ⟨A,Y,hj,N,_⟩;simp only [CA,NA] at p A Y hj N ⊢;refine(aS) (fun g34=>?_) fun g34=>?_
 ·
  simp at g34
  have FJ:j<goals.length:=by omega
  rw [List.drop_eq_getElem_cons FJ] at A;simp only [dM] at A;obtain⟨t,P4,FR⟩:=Option.bind_eq_some_iff.1 A;have UM:=hk goals[j] (List.getElem_mem FJ);have Me:=(cA (val:=valOf aa x.ab) Q f).1 _ _ _ P4 Y UM;have YW:=ph Q FR Me.1 (fun k GL=>hk k (List.mem_of_mem_drop GL));refine dd ?_;obtain⟨gJ,kF,jV,cR,gI,fw,ek,eJ⟩:=Rd.at (As.gr p.g12) FJ;have fw:=RR.ba fw;subst fw;have G:=p.fg eJ ek;refine nx ?_;refine WP .r (PV.dV ey cR rfl rfl (by omega))<|(aX) ao (As.kT G.g0)<|(eT) G fun Va oh TQ TS q=>?_;refine(cI) gR q fun sg ry mu u=>?_;refine(aX) ao u.b0<|?_;have i:=u.p4.p4.p7.p5;refine(bY) KG (Tv (D:=⟨ar,f1,f4,r,cr,f2,f3,f5,f6,d2,d3,d1⟩) Q S f _ _ _ _ _ _ _ i.e4 (As.gr i.g6) (As.gr i.g7) Y UM P4 (by have:=YW.2.bf;omega)) ?_;rintro _ pR ⟨E2,Z6,rfl,vV,hi6,Zz,qX⟩;have O:=St.lv i qX vV;have Af:=N.trans vV i.size;have H:=O.fr (hi6);have pM:=H.fr (Zz);have jY:=pM.p8.drop;have jZ:=jY.p8.drop;refine eD ?_;refine ez (j+1,t,E2,Z6) ⟨jZ.p6.drop.p6.drop.p1.p5.p5.p4,⟨FR,Me.1,by omega,Af,trivial⟩⟩
 simp at g34
 rw [List.drop_eq_nil_of_le (by omega)] at A;simp only [dM,Option.some.injEq] at A;subst A;refine(aZ) yi p.b0<|(aS) (fun v=>?_) fun v=>?_
 ·
  simp at v
  have G:=p.dp RR.key 41 2;refine nx ?_;refine WC.bM (m:=7) [] [5] [0,5,1,2,3,4,6] [] G (ai.k4 M0 M1 M2 M3<|ai.k4 M4 M5 M6 M7<|ai.k4 M8 M9 hP kB<|ai.k4 oj xt I1 Mk<|ai.nil) mixed (by kernel_rfl) (by kernel_rfl) rfl<|(kW) aN SV.g8<|?_;refine DG.cs rfl rfl rfl rfl rfl (fun oh IA sr q jM=>?_);simp only [CA,NA] at q;refine OX.mq dP (As.gb q.g11) rfl rfl rfl rfl rfl fun sg zH _ tR=>?_;have u:=q.kE.Bt zH tR;refine⟨zH.size,rfl,_,_,_,u,aw.k4<|aw.k4<|aw.k4<|aw.k4<|aw.cons<|aw.nil,ai.k4 M1 M2 M3 M4<|ai.k4 M5 M6 M7 M8<|ai.k4 M9 hP iJ kB<|ai.k4 oj xt I1 Mk<|ai.nil,?_⟩
  iterate 3 refine DG.a ?_
  refine(oo) yi SV.g1<|(jm) ?_;intro pR CB i;simp only [CM,NM,CA,NA,hK.it] at i;refine nx ?_;refine WL.nil (EX.np ?_);refine cm ?_;refine EX.et rfl (RS.cell aN rfl i.b0 rfl<|RS.tmp rfl<|RS.tmp rfl<|RS.nil) rfl<|?_;have hb:s1.base x=x:=if_neg v;have hl:s1.list=[]:=if_neg v;exact⟨f1,f2,f3,f4,f5,f6,none,0,0,_,by rw [hb],N,by rw [hb];exact(As.gr i.g11),by rw [hb];exact(As.gr i.g10),by rw [hl];exact(St.wk i.p1.k1)⟩
 simp at v
 refine cm ?_;have Tn:=((As.gs p.g2)).len;have TT:=St.fresh p.p2;have G:=p.p2.a8 (by omega);have hZr:=N.trans (bJ.dC (F:=fun x=>x∈aJ d.a3) TT) (Nat.le_refl _);refine WC.bM (m:=9) [] [8] [4,5,6,7,8,0,1,2,3] [] G (ai.k4 M0 M1 M2 M3<|ai.k4 M4 M5 M6 M7<|ai.k4 M8 M9 hP iJ<|ai.k4 kB oj xt I1<|ai.nil) mixed (by kernel_rfl) (by kernel_rfl) rfl<|?_
 iterate 3 refine DG.a ?_
 refine(oo) dK SV.g1<|(fL) (fun oh R8x TU q C4=>?_);simp only [CA,NA] at q;have u:=q;refine OX.call Pw rfl rfl ((qL u.e0 (As.gr u.g0) (fun _ h _=>h) zQ).mono ?_);rintro _ sg ⟨o1,o2,o3,rfl,C5⟩;have i:=St.lr u C5;refine⟨_,rfl,C5.bW.size,_,rfl,_,_,_,i,aw.k4<|aw.k4<|aw.k4<|aw.k4<|aw.cons<|aw.nil,ai.k4 M1 M2 M3 M4<|ai.k4 M5 M6 M7 M8<|ai.k4 M9 hP iJ kB<|ai.k4 oj xt I1 Mk<|ai.nil,?_⟩
 iterate 3 refine DG.a ?_
 refine(yR) aN SV.g1<|(jm)<|?_;intro pR CN O;simp only [CM,NM,CA,NA,hK.it] at O;refine(cI) dP O.kE fun tL L7 L8 H=>?_;refine bO ?_;refine WL.nil (EX.np ?_);refine bO ?_;refine EX.et rfl (RS.cell aN rfl H.b0 rfl<|RS.tmp rfl<|RS.tmp rfl<|RS.nil) rfl<|?_;have hb:s1.base x=s1.b:=if_pos v;have hl:s1.list=kl s1.bf:=if_pos v;exact⟨d.a1,d.n1,d.c1,d.a2,d.n2,d.c2,o1,o2,o3,_,by rw [hb,v];rfl,hZr,by rw [hb];exact(As.gr H.g5),by rw [hb];exact(As.gr H.g6),by rw [hl];exact(St.wk H.p1.k1)⟩
set_option maxHeartbeats 400000
set_option maxHeartbeats 400000
set_option maxHeartbeats 400000
theorem OG(b:aq aa) (q:∀k,(valOf aa x.ab k).size≤1000):∀i:Nat,i<aa.length→P7 aa x D (aI aa (i:Int)):=by
 intro i;have A:=b.len;have low:∀n:Nat,n≤15→P7 aa x D (bX (n:Int)):=fun n hn w M Z ml al d e hm _=>tp d e hm (bd (by omega))
 induction i using Nat.strongRecOn with
 | _ i r=>
  intro hi w M Z ml al d e hm g
  have jo:i≤99:=by omega
  have u:lL aa i al:=by
   have h:=g (cj hi jo);rw [ct hi jo,Int.toNat_natCast] at h;exact h
  refine FW d e hm b hi q u (fun hr w M Z ml al d e hm g=>?_) (fun hr a o=>?_)
  ·
   rw [ct hi jo,Int.toNat_natCast] at g;refine zZ d e hm b q hi hr g fun j s a o hc=>?_;have p:=o.QZ b
   rcases o with⟨n,hn,rfl⟩ | ⟨m,hm,rfl,h1,t,B,v⟩
   ·
    exact low n hn
   have y:aF aa m=false:=by
    rw [hc,eH hm (by omega)] at p
    cases h:aF aa m
    ·
     rfl
    rw [h] at p;simp at p
   have C:bF aa j≤i:=Nat.le_trans (ki b s) (gj aa i)
   have z:m<i:=by
    have:=v y (ja hi hr s).2
    omega
   exact r m z hm
  rcases o with⟨n,hn,rfl⟩ | ⟨m,hm,rfl,_,t,_⟩
  ·
   exact low n hn
  exact r m (t hr) hm
theorem Ll(b:aq aa) (d:∀k,(valOf aa x.ab k).size≤1000) {k:Key}(hk:eA aa k):P7 aa x D k:=by
 cases hk with
 | cell h=>exact fun w M Z ml al e g hm _=>tp e g hm (bd h)
 | eG h _=>exact OG b d _ h
end Go.Rc

