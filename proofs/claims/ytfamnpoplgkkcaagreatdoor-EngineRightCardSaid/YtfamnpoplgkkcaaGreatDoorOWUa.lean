/- Walks over the program, part WUa. Conditions: as each theorem says. -/
import Derived.Test.YtfamnpoplgkkcaaGreatDoorOFacts
import Derived.Test.YtfamnpoplgkkcaaGreatDoorOWU
import Derived.Test.YtfamnpoplgkkcaaGreatDoorOBf
import Derived.Test.YtfamnpoplgkkcaaGreatDoorOBg
import Derived.Test.YtfamnpoplgkkcaaGreatDoorOWB
import Derived.Test.YtfamnpoplgkkcaaGreatDoorOBh
import Derived.Test.YtfamnpoplgkkcaaGreatDoorShelf
import Derived.Test.YtfamnpoplgkkcaaGreatDoorOBi
import Derived.Test.YtfamnpoplgkkcaaGreatDoorOWLibE
import Derived.Test.YtfamnpoplgkkcaaGreatDoorOBd
set_option linter.all false
namespace Go.Rc
open Go Go.Proofs Go.Proofs.Tryz
variable {n c n1 e1 n2 e2:Nat}{w:World}{a a1 a2:Option Addr}{aa:List aG}{k:Key}{l:List Key}{f:FuncId}{Z M:Nat→Prop}{x:cy}{D:SD}
set_option maxHeartbeats 400000
theorem vI{n:Int} :CR prog 173 #[.int .i64 n] w (.bool false):=by
 refine enter func173 rfl ntmps173 rfl<|?_;have aO:=St.s0 w;refine aX ?_;refine(bs) ?_;exact⟨by simp,(St.cg aO)⟩
theorem zS{a b:Int} :CR prog 128 #[.int .i64 a,.int .i64 b] w (.int .i64 (wu a b)):=by
 refine enter func128 rfl ntmps128 rfl<|?_;have aO:=St.s0 w;refine(eS) (vI) aO fun w1 s1 st1=>?_;refine(eS) (vI) st1 fun w2 s2 st2=>?_;refine kI ?_;refine WC.eA rfl<|gL ?_;refine WC.eA rfl<|(aR) (fun g16=>?_) fun g16=>?_
 ·
  simp at g16
  refine(bs) ?_;exact⟨by unfold wu;rw [if_pos g16],(St.cg st2)⟩
 simp at g16
 refine(aR) (fun g19=>?_) fun g19=>?_
 ·
  simp at g19
  refine(bs) ?_;exact⟨by unfold wu;rw [if_neg (by omega),if_pos g19],(St.cg st2)⟩
 simp at g19
 refine(bs) ?_;exact⟨by unfold wu;rw [if_neg (by omega),if_neg (by omega)],(St.cg st2)⟩
theorem zT{l:List Int}{A:Nat→Prop}(hl:Ints A w a n c l):CR prog 127 #[.slice a n c] w (.int .i64 (QI l)):=by
 have hle:=SR.le hl;have hlen:=SR.len hl;refine enter func127 rfl ntmps127 rfl<|?_;have aO:=St.s0 w;refine aX ?_;refine ed ?_;refine WC.bd (σ:=Nat) (dj:=fun i=>[(3,.int .i64 0),(6,.slice a n c),(7,.int .i64 (n:Int)),(8,.int .i64 (i:Int))]) (F:=fun i=>[]) (I:=fun i=>(i≤n)∧(∀j x,j<i→l[j]?=some x→x=0)∧True) (μ:=fun i=>n - i) (0) (aO) Sub.t (⟨by omega,fun j x h=>by omega,trivial⟩)<|?_;rintro i w1 st1 ⟨hi,b,_⟩;simp only [CA,NA] at st1 hi b ⊢;refine(aR) (fun g9=>?_) fun g9=>?_
 ·
  simp at g9
  have d:i<l.length:=by omega
  obtain⟨p,q,s,e,_,rfl,g,_⟩:=(SR.ext hl (St.cg st1)).at (ak d);refine fO ?_;refine WP .r (PV.dI EJ e rfl rfl (by omega))<|WP .r (PV.mf aN g rfl rfl)<|(aR) (fun g14=>?_) fun g14=>?_
  ·
   simp at g14
   refine(bs) ?_;exact⟨by rw [QJ d b g14],(St.cg st1)⟩
  simp at g14
  refine ed ?_;refine ef (i+1) ⟨st1,⟨by omega,cG d b (by simpa using g14),trivial⟩⟩
 simp at g9
 refine(bs) ?_;exact⟨by rw [Mg (fun x m=>by obtain⟨j,o,rfl⟩:=List.mem_iff_getElem.1 m;exact b j _ (by omega) (ak o))],(St.cg st1)⟩
theorem mb{a b:Key} :CR prog 77 #[a.val,b.val] w (.int .i64 (bA a b)):=by
 refine enter func77 rfl ntmps77 rfl<|?_;have aO:=St.s0 w;refine(dq) aO fun b2 w1 p q st1=>?_;refine(dq) st1 fun b3 w2 r s st2=>?_;refine cj ?_;have t:=st2.bL;refine WC.dB (m:=9) (E:=cA [(4,fun v _=>v=.int .i64 (wu a.kind b.kind))]) st2 (bj (⟨fun _ _ _ _ _ _ _ h=>h,trivial⟩)) mixed (by kernel_rfl)<|(il) aN St.g1<|(il) aN St.g0<|?_;refine DW.c0 (fun y z A=>zS)<|(il) fh St.g1<|(il) fh St.g0<|(cP)<|?_;rintro w3 ⟨B,e⟩ ⟨_,_⟩;refine(eS) (oE a.text b.text w3) e fun w4 C g=>?_;refine WL.go rfl (OX.aP (us:=[.int .i64 (wu a.kind b.kind),.int .i64 (Lib.compareBytes a.text.data.toList b.text.data.toList)]) RH rfl rfl rfl rfl fun F w5 i j=>?_);have d:=g.de i j;refine WL.c1 (u:=.int .i64 (bA a b)) (zT (l:=[wu a.kind b.kind,Lib.compareBytes a.text.data.toList b.text.data.toList]) (SR.Qc (rows:=[[.int .i64 (wu a.kind b.kind)],[.int .i64 (Lib.compareBytes a.text.data.toList b.text.data.toList)]]) (As.gb d.g0) rfl (by simp) (by simp [Value.oneCell']) (by simp) (BF rfl rfl))) (by rw [Mh]) d fun w6 G o=>?_;refine(bs) ?_;exact⟨rfl,(St.cg o)⟩
theorem tC(hk:eG aa k):CR prog 203 #[k.val] w (.bool false):=by
 obtain⟨i,jl,b,d⟩:=hk.shape;refine enter func203 rfl ntmps203 rfl<|?_;have aO:=St.s0 w;refine(dq) aO fun b1 w1 e g st1=>?_;refine(aY) ao st1.b0<|(eS) (hM (k:=k) d b jl) st1 fun w2 s2 st2=>?_;refine(bs) ?_;exact⟨rfl,(St.cg st2)⟩
theorem vJ{p:Key→Bool}(m:CF prog f) (hl:Rd RR.key 2 Z w a n c l) (o:∀w1,aS [] w w1→∀x∈l,Calls prog f #[x.val] w1 fun e w'=>e=.returned (.bool (p x))∧aS [] w1 w'):Calls prog 109 #[.slice a n c,.func (.func f) #[] #[]] w fun e w'=>∃j:Int,e=.returned (.int .i64 j)∧uE l p j∧aS [] w w':=by
 have hlen:=hl.len;have hle:=hl.le;refine enter func109 rfl ntmps109 rfl<|?_;have aO:=St.s0 w;refine aX ?_;refine bK ?_;refine WC.bd (σ:=Nat) (dj:=fun i=>[(0,.slice a n c),(1,.func (.func f) #[] #[]),(7,.int .i64 (n:Int)),(8,.int .i64 (i:Int))]) (F:=fun i=>[]) (I:=fun i=>(i≤n)∧(∀j x,j<i→l[j]?=some x→p x=false)∧True) (μ:=fun i=>n - i) (0) (aO) Sub.t (⟨by omega,fun j x h=>by omega,trivial⟩)<|?_;rintro i w1 st1 ⟨hi,b,_⟩;simp only [CA,NA] at st1 hi b ⊢;refine(aR) (fun g9=>?_) fun g9=>?_
 ·
  simp at g9
  have d:i<l.length:=by omega
  refine jT ?_;obtain⟨z,A,B,q,C,g,s,E⟩:=Rd.at hl d;have g:=RR.a8 g;subst g;refine cj ?_;refine WP .r (PV.dI ek q rfl rfl (by omega))<|(aY) ao (aW s (St.cg st1) (by simp))<|?_;refine WL.go rfl (OX.mT m rfl rfl rfl ((Calls.Vu (o _ (St.cg st1) l[i] (List.getElem_mem d))).mono ?_));rintro _ w2 ⟨rfl,s2⟩;refine⟨_,rfl,?_⟩;have st2:=st1.step s2;refine(aR) (fun g16=>?_) fun g16=>?_
  ·
   refine(bs) ?_;exact⟨_,rfl,.inl ⟨i,_,ak d,g16,b,rfl⟩,(St.cg st2)⟩
  have g16:p l[i]=false:=by simpa using g16
  refine ed ?_;refine ef (i+1) ⟨st2,⟨by omega,cG d b (by simpa using g16),trivial⟩⟩
 simp at g9
 have u:∀x∈l,p x=false:=fun x v=>by obtain⟨j,y,rfl⟩:=List.getElem_of_mem v;exact b j _ (by omega) (ak y)
 refine(bs) ?_;exact⟨_,rfl,.inr ⟨u,rfl⟩,(St.cg st1)⟩
theorem qL{p:Key→Bool}(b:CF prog f) (hl:Rd RR.key 2 Z w a n c l) (d:∀w1,aS [] w w1→∀x∈l,Calls prog f #[x.val] w1 fun e w'=>e=.returned (.bool (p x))∧aS [] w1 w'):CR prog 64 #[.slice a n c,.func (.func f) #[] #[]] w (.bool (l.any p)):=by
 refine enter func64 rfl ntmps64 rfl<|?_;have aO:=St.s0 w;refine(bX) Kk (vJ (w:=w) b (hl.ext (St.cg aO)) (fun w1 h1=>d w1 (aS.trans (St.cg aO) h1))) ?_;rintro _ w1 ⟨j,rfl,g,s1⟩;have st1:=aO.step s1;have h:=g.any;refine(bs) ?_;exact⟨by rw [h],(St.cg st1)⟩
set_option maxHeartbeats 1600000 in
theorem vK{x:Rec}(hk:Rd RR.key 2 Z w a n c x.reads) (z:Jp aa x):CR prog 149 #[.agg (x.row a n c).toArray] w (.bool true):=by
 have hlen:=hk.len;obtain⟨h1,A,B,r⟩:=z;obtain⟨i,jl,C,E⟩:=h1.shape;have F:=h1.cX;rw [fw] at r;obtain⟨_,_,_,v4,v5,v6,J,K,v9,v10,v11⟩:=r;refine enter func149 rfl ntmps149 rfl<|?_;have aO:=St.s0 w;refine(dq) aO fun b1 w1 L N st1=>?_;refine db ?_;refine WC.dU (t:=34) (v:=.bool false) st1 ?_<|?_
 ·
  refine(gX) ao st1.b0<|(eS) (hM (k:=x.key) E C jl) st1 fun w2 s2 st2=>?_;refine(gX) ao st2.b0<|?_;refine WL.c1 (u:=.bool false) (cM (k:=x.key)) (by rw [A]) st2 fun w3 G e=>?_;refine(aZ) fh e.b0<|(dc) (fun g19=>?_) (fun g19=>?_)
  ·
   refine aX ?_;exact(cw) (by first | (simp only [g19];done) | (simp [g19];done) | (have g:x.key.kind=32:=qb h1 (by simpa [g19] using v11);simp [g19,g];done) | (simp at g19 ⊢ <;> omega) | (simp [g19] <;> omega)) (e)
  refine(aZ) dC e.b0<|(dc) (fun b=>?_) (fun b=>?_)
  ·
   exact(cw) (by first | (simp only [g19,b];done) | (simp [g19,b];done) | (have g:x.key.kind=32:=qb h1 (by simpa [g19,b] using v11);simp [g19,b,g];done) | (simp at g19 b ⊢ <;> omega) | (simp [g19,b] <;> omega)) (e)
  refine(aZ) dG e.b0<|(dc) (fun d=>?_) (fun d=>?_)
  ·
   refine(gX) ao e.b0<|(eS) (fJ (k:=x.key) F) e fun w4 O H=>?_;exact(cw) (by first | (simp only [g19,b,d];done) | (simp [g19,b,d];done) | (have g:x.key.kind=32:=qb h1 (by simpa [g19,b,d] using v11);simp [g19,b,d,g];done) | (simp at g19 b d ⊢ <;> omega) | (simp [g19,b,d] <;> omega)) (H)
  exact(cw) (by first | (simp only [g19,b,d];done) | (simp [g19,b,d];done) | (have g:x.key.kind=32:=qb h1 (by simpa [g19,b,d] using v11);simp [g19,b,d,g];done) | (simp at g19 b d ⊢ <;> omega) | (simp [g19,b,d] <;> omega)) (e)
 intro w2 st2;refine(aR) (fun s=>?_) fun s=>?_
 ·
  exact dm s
 refine gL ?_;refine WC.kQ (t:=2) (v:=.bool true) st2 ?_<|?_
 ·
  refine(aZ) aN st2.b0<|(dc) (fun h=>?_) (fun h=>?_)
  ·
   refine(aZ) aN st2.b0<|(aZ) aN st2.b0<|(dc) (fun j=>?_) (fun j=>?_)
   ·
    refine(aZ) aN st2.b0<|(dc) (fun m=>?_) (fun m=>?_)
    ·
     refine(aZ) aN st2.b0<|(dc) (fun o=>?_) (fun o=>?_)
     ·
      refine(aZ) aN st2.b0<|(dc) (fun q=>?_) (fun q=>?_)
      ·
       refine(aZ) dC st2.b0<|nx ?_;refine WL.c1 (u:=.bool false) (qL (p:=fun _=>false) XH (hk.ext (St.cg st2)) (fun w1 _ y I=>tC (B y I))) (by rw [List.any_eq_false.2 (fun _ _=>by simp)]) st2 fun w3 G e=>?_;exact(gz) (tG (aj h<|aj j<|aj m<|aj o q)) (e)
      exact(gz) (tG (aj h<|aj j<|aj m<|aj o q)) (st2)
     refine aX ?_;exact(gz) (tG (aj h<|aj j<|aj m o)) (st2)
    refine aX ?_;exact(gz) (tG (aj h<|aj j m)) (st2)
   refine aX ?_;exact(gz) (tG (aj h j)) (st2)
  refine aX ?_;refine aX ?_;exact(gz) (tG h) (st2)
 intro w3 e;refine(bs) ?_;exact⟨rfl,(St.cg e)⟩
theorem qM{l:List Rec}(hl:Rd RR.dV 8 Z w a n c l) (q:∀x∈l,Jp aa x) (s:pG l) (L:l.length≤4000):CR prog 105 #[.slice a n c] w (.bool true):=by
 have hlen:=hl.len;have hle:=hl.le;refine enter func105 rfl ntmps105 rfl<|?_;have aO:=St.s0 w;refine aX ?_;refine bK ?_;refine WC.bd (σ:=Nat) (dj:=fun j=>[(0,.slice a n c),(5,.slice a n c),(6,.int .i64 (n:Int)),(7,.int .i64 (j:Int))]) (F:=fun j=>[]) (I:=fun j=>(j≤n)∧True) (μ:=fun j=>n - j) (0) (aO) Sub.t (⟨by omega,trivial⟩)<|?_;rintro j w1 st1 ⟨u,_⟩;simp only [CA,NA] at st1 u ⊢;refine(aR) (fun g8=>?_) fun g8=>?_
 ·
  simp at g8
  have g:j<l.length:=by omega
  refine db ?_;obtain⟨N,O,P,y,Q,z,A,R⟩:=Rd.at hl g;obtain⟨q1,S,T,rfl,B,U⟩:=z;refine bK ?_;refine WP .r (PV.dI ij y rfl rfl (by omega))<|(aY) cU (aW A (St.cg st1) (by simp))<|(eN) st1 fun b4 w2 V W st2=>?_;refine(cF) fI st2 fun w3 X Y i=>?_;refine bY ?_;refine WC.dU (t:=30) (v:=.bool false) i ?_<|?_
  ·
   have Yw:=i.bL;refine WC.dB (m:=15) (E:=cA [(1,fun v _=>v=.bool true)]) i (bj (⟨fun _ _ _ _ _ _ _ h=>h,trivial⟩)) mixed (by kernel_rfl)<|(gI) cU St.g0<|?_;refine DW.c0 (fun wx e hF=>vK (B.ext (St.cg e.2)) (q _ (List.getElem_mem g)))<|(ob) (fun g18=>?_) (fun g18=>?_)
   ·
    have YU:1≤j:=by have h0:=g18;simp at h0;omega
    have o:j - 1<l.length:=by omega
    have AB:bA l[j - 1].key l[j].key<0:=List.pairwise_iff_getElem.1 s (j - 1) j o g (by simp at g18;omega);obtain⟨rW,Fc,Cl,C,sY,G,H,lK⟩:=Rd.at hl o;obtain⟨p1,p2,p3,rfl,_,_⟩:=G;refine bY ?_;refine DP .r (fun _ e=>PV.DJ ij (j - 1) C rfl rfl (by omega) (by omega))<|nx ?_;refine DP .r (fun _ e=>PV.wa ao (aW H (St.cg e.2) (by simp)) rfl rfl)<|(tr) ao St.g0<|(cP)<|?_;rintro w4 ⟨J,d⟩ ⟨_,_⟩;refine(eS) (mb (a:=l[j - 1].key) (b:=l[j].key)) d fun w5 s5 K=>?_;exact(cw) (tG g18) (K)
   refine(cP) ?_;rintro w4 ⟨J,d⟩ ⟨_,_⟩;exact(cw) (tG g18) (d)
  intro w4 d;refine(aR) (fun p=>?_) fun p=>?_
  ·
   exact dm p
  refine ed ?_;refine ef (j+1) ⟨d.drop,⟨by omega,trivial⟩⟩
 simp at g8
 refine aX ?_;refine(bs) ?_;exact⟨by simp;omega,(St.cg st1)⟩
theorem vL{i:Nat}(jl:i≤99) (hk:k=⟨30,itoa i⟩):CR prog 106 #[k.val] w (.bool true):=by
 subst hk;refine enter func106 rfl ntmps106 rfl<|?_;have aO:=St.s0 w;refine(dq) aO fun b1 w1 d e st1=>?_;refine(aY) ao st1.b0<|(eS) (hM (k:=⟨30,itoa i⟩) ⟨(by decide:(30:Int)≤30),(by decide:(30:Int)≤32)⟩ rfl jl) st1 fun w2 s2 st2=>?_;refine(aY) ao st2.b0<|?_;refine WL.c1 (u:=.bool true) (cM (k:=⟨30,itoa i⟩)) (by rw [show ay ⟨30,itoa i⟩=true from rfl]) st2 fun w3 g b=>?_;refine(bs) ?_;exact⟨rfl,(St.cg b)⟩
set_option maxHeartbeats 1600000 in
set_option maxRecDepth 100000 in
theorem r8(hi:Rd RR.aD 4 Z w a1 n1 e1 x.ab) (hr:Rd RR.dV 8 Z w a2 n2 e2 x.ah) (T:uF aa x):CR prog 63 #[.agg (x.row a1 n1 e1 a2 n2 e2).toArray] w (.bool true):=by
 obtain⟨x0,x1,N,U,x6,V,xs,W,X⟩:=T;have eJ:=hi.len;have H0:=hi.le;have Eo:=hr.len;refine enter func63 rfl ntmps63 rfl<|?_;have aO:=St.s0 w;refine(dq) aO fun b1 w1 X4 E0 st1=>?_;refine db ?_;refine WC.dU (t:=24) (v:=.bool false) st1 ?_<|?_
 ·
  refine(aZ) aN st1.b0<|(dc) (fun g8=>?_) (fun g8=>?_)
  ·
   refine aX ?_;exact(cw) (tG g8) (st1)
  refine(aZ) aN st1.b0<|(dc) (fun g13=>?_) (fun g13=>?_)
  ·
   exact(cw) (tG (aj g8 g13)) (st1)
  refine(aZ) iX st1.b0<|(dc) (fun g19=>?_) (fun g19=>?_)
  ·
   exact(cw) (tG (aj g8<|aj g13 g19)) (st1)
  refine(aZ) dt st1.b0<|(eS) (qM (hr.ext (St.cg st1)) V xs W) st1 fun w2 s2 st2=>?_;exact(cw) (tG (aj g8<|aj g13 g19)) (st2)
 intro w2 st2;refine(aR) (fun g24=>?_) fun g24=>?_
 ·
  exact dm g24
 refine(aZ) iX st2.b0<|db ?_;refine WC.bd (σ:=Nat) (dj:=fun j=>[(1,.pointer (some ⟨b1,0,none⟩)),(26,.slice a1 n1 e1),(27,.int .i64 (n1:Int)),(28,.int .i64 (j:Int))]) (F:=fun j=>[]) (I:=fun j=>(j≤n1)∧True) (μ:=fun j=>n1 - j) (0) (st2) Sub.t (⟨by omega,trivial⟩)<|?_;rintro j w3 o ⟨Y,_⟩;simp only [CA,NA] at o Y ⊢;refine(aR) (fun G=>?_) fun G=>?_
 ·
  simp at G
  have B:j<x.ab.length:=by omega
  obtain⟨y,s⟩:∃y,x.ab[j]=y:=⟨_,rfl⟩;obtain⟨i,jl,hyk⟩:=U _ (s ▸ List.getElem_mem B);obtain⟨_,_,hv,Uv,hc1⟩:=N.2 _ (s ▸ List.getElem_mem B);refine db ?_;obtain⟨gH,kz,jY,cR,gG,H,O,eI⟩:=Rd.at hi B;have H:=RR.a8 H;subst H;rw [s] at O
  have P:j - 1<x.ab.length:=by omega
  obtain⟨z,Q⟩:∃z,x.ab[j - 1]=z:=⟨_,rfl⟩;refine bK ?_;refine WP .r (PV.dI qu cR rfl rfl (by omega))<|(aY) kl (aW O (St.cg o) (by simp))<|(eN) o fun b4 w4 EY Iy J=>?_;refine(cF) zn J fun w5 jO jZ K=>?_;refine bY ?_;refine WC.dU (t:=71) (v:=.bool false) K ?_<|?_
  ·
   have PA:=K.bL;refine WC.dB (m:=37) (E:=cA [(2,fun v _=>v=.bool true),(17,fun v _=>v=.int .i64 (bA z.key y.key))]) K (bj (⟨fun _ _ _ _ _ _ _ h=>h,⟨fun _ _ _ _ _ _ _ h=>h,trivial⟩⟩)) mixed (by kernel_rfl)<|(tr) ao St.g0<|?_;refine DW.c0 (fun wx C hF=>vL jl hyk)<|(ob) (fun e=>?_) (fun e=>?_)
   ·
    have YU:1≤j:=by have h0:=e;simp at h0;omega
    have AB:bA z.key y.key<0:=by rw [← s,← Q];exact List.pairwise_iff_getElem.1 N.1 (j - 1) j P B (by omega)
    obtain⟨rW,Fc,Cl,jP,sY,L,R,lK⟩:=Rd.at hi P;have L:=RR.a8 L;subst L;rw [Q] at R;refine(il) iX St.g1<|bK ?_;refine DP .r (fun _ C=>PV.DJ qu (j - 1) jP rfl rfl (by omega) (by omega))<|nx ?_;refine DP .r (fun _ C=>PV.wa ao (aW R (St.cg C.2) (by simp)) rfl rfl)<|(tr) ao St.g0<|?_;refine DW.c0 (fun wx C hF=>mb (a:=z.key) (b:=y.key))<|(ob) (fun A=>?_) (fun A=>?_)
    ·
     refine aX ?_;refine(cP) ?_;rintro w6 ⟨u,d⟩ ⟨_,⟨_,_⟩⟩;exact(cw) (tG (aj e A)) (d)
    refine(il) fh St.g0<|(ob) (fun g=>?_) (fun g=>?_)
    ·
     refine(cP) ?_;rintro w6 ⟨u,d⟩ ⟨_,⟨_,_⟩⟩;exact(cw) (tG (aj e<|aj A g)) (d)
    refine(il) aN St.g0<|(ob) (fun q=>?_) (fun q=>?_)
    ·
     refine(cP) ?_;rintro w6 ⟨u,d⟩ ⟨_,⟨_,_⟩⟩;exact(cw) (tG (aj e<|aj A<|aj g q)) (d)
    refine(il) aN St.g0<|(il) aN St.g1<|(cP)<|?_;rintro w6 ⟨u,d⟩ ⟨_,⟨_,_⟩⟩;exact(cw) (tG (aj e<|aj A<|aj g q)) (d)
   refine aX ?_;refine(il) fh St.g0<|(ob) (fun g=>?_) (fun g=>?_)
   ·
    refine(cP) ?_;rintro w6 ⟨u,d⟩ ⟨_,_⟩;exact(cw) (tG (aj e g)) (d)
   refine(il) aN St.g0<|(ob) (fun q=>?_) (fun q=>?_)
   ·
    refine(cP) ?_;rintro w6 ⟨u,d⟩ ⟨_,_⟩;exact(cw) (tG (aj e<|aj g q)) (d)
   refine(il) aN St.g0<|(il) aN St.g1<|(cP)<|?_;rintro w6 ⟨u,d⟩ ⟨_,_⟩;exact(cw) (tG (aj e<|aj g q)) (d)
  intro w6 d;refine(aR) (fun S=>?_) fun S=>?_
  ·
   exact dm S
  refine ed ?_;refine ef (j+1) ⟨d.drop,⟨by omega,trivial⟩⟩
 simp at G
 refine(aZ) dt o.b0<|?_;refine WP .r (PV.func (us:=[]) (vs:=[.pointer (some ⟨b1,0,none⟩)]) rfl rfl)<|(eS) (r5 (p:=fun r=>decide (x.ad<r.av)) WS (hr.ext (St.cg o)) (fun wq hq y _ a n c _=>r7 ((As.gb o.g0).ext hq)) (fun y s=>by have:=X y s;simp;omega)) o fun w4 s4 J=>?_;refine(bs) ?_;exact⟨by simp,(St.cg J)⟩
theorem ti(g:St w M Z w [As.os RR.key 41 2 a n c l]) (h0:l≠[]) (hn:l.length≤1000000):Calls prog 79 #[.slice a n c,.func (.func 77) #[] #[]] w fun e w'=>e=.returned (.tuple #[])∧∃l',l'.Perm l∧(l'.Pairwise fun x y=>¬bA y x<0)∧St w M Z w' [As.os RR.key 41 2 a n c l']:=
 xU (row:=Key.cells) (key:=fun x=>x) (fun _=>rfl) (fun x v b=>by(simp [Key.cells] at b;rcases b with rfl | rfl <;> rfl)) (fun blk cap d w hc hH hb h=>slices_SortFunc 2 isAgg41 sizeOf41 Key.cells (fun _=>rfl) (fun x v b=>by(simp [Key.cells] at b;rcases b with rfl | rfl <;> rfl)) _ Gr 77 #[] blk 0 cap d w Wt hc hH hb h) (fun x y w=>mb) g h0 hn
set_option maxHeartbeats 400000
theorem zU{x y:Rec × RL} :CR prog 76 #[.agg (Rec.y7 x).toArray,.agg (Rec.y7 y).toArray] w (.int .i64 (bA x.1.key y.1.key)):=by
 refine enter func76 rfl ntmps76 rfl<|?_;have aO:=St.s0 w;refine(dq) aO fun b2 w1 e g st1=>?_;refine(dq) st1 fun b3 w2 h i st2=>?_;refine(gX) ao st2.b1<|(gX) ao st2.b0<|(eS) (mb (a:=x.1.key) (b:=y.1.key)) st2 fun w3 j d=>?_;refine(bs) ?_;exact⟨rfl,(St.cg d)⟩
instance:Inhabited (Rec × RL):=⟨(mW,⟨0,none,0,0⟩)⟩
theorem zV{l:List (Rec × RL)}(b:St w M Z w [As.os RR.Ex 47 8 a n c l]) (h0:l≠[]) (hn:l.length≤1000000):Calls prog 75 #[.slice a n c,.func (.func 76) #[] #[]] w fun e w'=>e=.returned (.tuple #[])∧∃l',l'.Perm l∧(l'.Pairwise fun x y=>¬bA y.1.key x.1.key<0)∧St w M Z w' [As.os RR.Ex 47 8 a n c l']:=
 xU (row:=Rec.y7) (key:=fun x=>x.1.key) (fun _=>rfl) Rec.Q6 (fun blk cap d w hc hH hb g=>slices_SortFuncR 8 isAgg47 sizeOf47 Rec.y7 (fun _=>rfl) Rec.Q6 _ Gr 76 #[] blk 0 cap d w call76 hc hH hb g) (fun x y w=>zU) b h0 hn
set_option maxHeartbeats 400000
set_option maxHeartbeats 1600000 in
theorem wS{goals:List Key}{ar P:Option Addr}{r cr g eg f:Nat}{s':ES}(Q:aq aa) (gk:St w M Z w []) (hu:Rd RR.eT 4 Z w ar r cr aa) (hi:Rd RR.aD 4 Z w a1 n1 e1 x.ab) (hr:Rd RR.dV 8 Z w a2 n2 e2 x.ah) (R:Rd RR.key 2 Z w P g eg goals) (ht:lq prog Z w) (PJ:gB aa x goals=0) (Fs:Good aa x.ab ⟨x,[],[],0⟩) (hk:∀k∈goals,eG aa k) (S:x.ab.length≤1000000)
 (KF:dK aa (valOf aa x.ab) f ⟨x,[],[],0⟩ goals=some s') (zI:s'.bf.length≤1000000):Calls prog 61 #[.slice ar r cr,.agg (x.row a1 n1 e1 a2 n2 e2).toArray,.slice P g eg] w fun e w'=>∃YV YW YX YY YZ Y0 ag' g' eg' Z',e=.returned (.tuple #[.agg ((s'.base x).row YV YW YX YY YZ Y0).toArray,.slice ag' g' eg',.int .i64 s'.e])∧bH w.heap.size Z Z'∧Rd RR.aD 4 Z' w' YV YW YX (s'.base x).ab∧Rd RR.dV 8 Z' w' YY YZ Y0 (s'.base x).ah∧St w M Z' w' [As.os RR.key 41 2 ag' g' eg' s'.list]:=by
 have N9:=R.len;have Lo:=R.le
 have h6:x.ah.length≤1000000:=by have:=Fs.len;simp only at this;omega
 refine enter func61 rfl ntmps61 rfl<|?_;have aO:=St.rb gk;have st1:=aO.fr hu;have st2:=st1.fr hi;have iT:=st2.fr hr;have ik:=iT.fr R;have iY:=ik.fact (B:=As.fz (FZ.Ij prog)) ht (fun _ hx=>hx);refine(dq) iY fun b4 w1 EY Iy iC=>?_;refine(eN) iC fun b6 w2 Dx Is gW=>?_;refine(aY) aL gW.b1<|?_;have J:=gW;refine(bX) zv (fA J.e0 (As.gr J.g5) (As.gr J.g4) h6 S) ?_;rintro _ w3 ⟨f1,f2,f3,f4,f5,f6,Z1,rfl,nK,T⟩;have iE:=St.lv J T nK;have Ft:=St.bM T;have Fu:=St.bM T.p1;have U:=J.size;have wg:=nK.le U;have Fz:=St.fresh iE;have eD:=iE.ba (by omega);have FB:=St.fresh eD.p1;have dh:=eD.p1.ba (by omega);have mx:=(wg.trans (bH.dA (F:=fun x=>x∈aI f1) Ft) U).trans (bH.dA (F:=fun x=>x∈aI f4) Fu) U;refine(cF) dR dh.p3 fun w4 jO jZ E=>?_;refine(aY) aL E.b0<|(bX) R7 (k8 (As.gr E.g8) (As.gr E.g2) (As.gr E.g1) (As.gr E.g5)) ?_;rintro _ w5 ⟨rfl,s5⟩;rw [PJ];have di:=E.step s5;refine(aR) (fun g20=>?_) fun g20=>?_
 ·
  exact absurd g20 (by simp)
 refine bY ?_;refine WC.bN (m:=6) [] [2,4] [0,1,2,3,4,5] [(5,.map)] di (ai.k4 M0 M1 M2 M3<|ai.k4 M4 M5 M6 M7<|ai.cons M8<|ai.nil) mixed (by kernel_rfl) (by kernel_rfl) rfl<|(lx) aL SV.g0<|(fV) (fun w6 PK CL da tj=>?_);simp only [CA,NA] at da;have eb:=da;refine OX.call R3 rfl rfl ((pw (x:=x) eb.e0).mono ?_);rintro _ w7 ⟨d1,d2,d3,rfl,jB⟩;have fX:=St.lr eb jB;refine⟨_,rfl,jB.bV.size,_,rfl,_,_,_,fX,aw.k4<|aw.k4<|aw.k4<|aw.nil,ai.k4 M3 M4 M5 M6<|ai.k4 M7 M8 M9 hU<|ai.cons iP<|ai.nil,?_⟩;refine(lx) aL SV.g0<|(fV) (fun w8 Tb wR eu my=>?_);simp only [CA,NA] at eu;have K:=eu;refine OX.call zv rfl rfl ((fA K.e0 (As.gr K.g5) (As.gr K.g4) h6 S).mono ?_);rintro _ w9 ⟨q1,q2,q3,V,q5,q6,Z3,rfl,qF,L⟩;have dE:=St.lv K L qF;have afR:=St.bM L;have afS:=St.bM L.p1;have W:=K.size;have mN:=mx.trans qF W;have afT:=St.fresh dE;have dF:=dE.ba (by omega);have afU:=St.fresh dF.p1;have e7:=dF.p1.ba (by omega);have qH:=(mN.trans (bH.dA (F:=fun x=>x∈aI q1) afR) W).trans (bH.dA (F:=fun x=>x∈aI V) afS) W;refine⟨_,rfl,L.bV.size,_,rfl,_,_,_,e7,aw.k4<|aw.k4<|aw.k4<|aw.k2<|aw.nil,ai.k4 M5 M6 M7 M8<|ai.k4 M9 hU iP kC<|ai.cons oa<|ai.nil,?_⟩;refine DG.side (s:=.map) rfl rfl rfl rfl rfl rfl (fun wx Zx Rx qW pB=>OX.makeMap Key.val rfl fun b wy nw hb=>⟨nw.ext.size,_,rfl,⟨b,rfl⟩,pB.LZ nw hb⟩)<|?_;rintro _ ⟨X,rfl⟩;refine(jv) ?_;intro iN vM dL;simp only [CM,NM,CA,NA,hI.it] at dL;refine WP .r (PV.bz (us:=(EA.cells ⟨q1,V,none,q2,q3,q5,q6,0,0⟩ d1 X ⟨x,[],[],0⟩)) Wf rfl rfl rfl)<|(dq) dL fun b30 iV X0 X1 fb=>?_;refine nx ?_;refine WL.nil (EX.np ?_);have o:=fb.p5.p5;have ez:=o.join (C:=As.jH prog 137 aa x ⟨ar,f1,f4,r,cr,f2,f3,f5,f6,d2,d3,d1⟩) ⟨o.Vz,(As.gb o.g0),⟨[],aU.nil,(As.gm o.g1)⟩,⟨(As.gr o.g15),(As.gr o.g9),(As.gr o.g8),(As.gf o.g11)⟩⟩ (fun y h=>h);have fj:=ez.dp RR.key 41 2;refine ju ?_;refine WC.hh (σ:=Nat × ES × EA × (Nat→Prop)) (dj:=fun(j,s1,d,z)=>[(4,.pointer (some ⟨b4,0,none⟩)),(6,.pointer (some ⟨b6,0,none⟩)),(10,.pointer (some ⟨b30,0,none⟩)),(31,.slice P g eg),(32,.int .i64 (g:Int)),(33,.int .i64 (j:Int))]) (F:=fun(j,s1,d,z)=>[As.blk b30 153 (EA.cells d d1 X s1),As.map Key.val X s1.busy,As.os RR.key 41 2 d.a3 d.n3 d.c3 s1.bf,As.ro RR.aD 4 d.a1 d.n1 d.c1 s1.b.ab,As.ro RR.dV 8 d.a2 d.n2 d.c2 s1.b.ah]) (I:=fun(j,s1,d,z)=>(dK aa (valOf aa x.ab) f s1 (goals.drop j)=some s')∧(Good aa x.ab s1)∧(j≤g)∧(bH w.heap.size Z z)∧True) (μ:=fun(j,s1,d,z)=>g - j) (Zf:=fun(j,s1,d,z)=>z) (0,⟨x,[],[],0⟩,⟨q1,V,none,q2,q3,q5,q6,0,0⟩,_) (fj.p4.p5.p2.p5.p5) Sub.t (⟨KF,Fs,Nat.zero_le _,qH,trivial⟩)<|?_;rintro⟨j,s1,d,z⟩ k9 p ⟨A,Y,hj,N,_⟩;simp only [CA,NA] at p A Y hj N ⊢;refine(aR) (fun g34=>?_) fun g34=>?_
 ·
  simp at g34
  have AK:j<goals.length:=by omega
  rw [List.drop_eq_getElem_cons AK] at A;simp only [dK] at A;obtain⟨t,PE,Fv⟩:=Option.bind_eq_some_iff.1 A;have Uo:=hk goals[j] (List.getElem_mem AK);have LF:=(ct (val:=valOf aa x.ab) Q f).1 _ _ _ PE Y Uo;have Yr:=o7 Q Fv LF.1 (fun k Gn=>hk k (List.mem_of_mem_drop Gn));refine db ?_;obtain⟨gH,kz,jY,cR,gG,eZ,et,eI⟩:=Rd.at (As.gr p.g12) AK;have eZ:=RR.a8 eZ;subst eZ;have G:=p.fg eI et;refine nx ?_;refine WP .r (PV.dI ek cR rfl rfl (by omega))<|(aY) ao (As.kH G.g0)<|(eN) G fun b12 mM Y1 Y2 q=>?_;refine(cF) gQ q fun pH qV mi u=>?_;refine(aY) ao u.b0<|?_;have i:=u.p4.p4.p7.p5;refine(bX) Kj (S7 (D:=⟨ar,f1,f4,r,cr,f2,f3,f5,f6,d2,d3,d1⟩) Q S f _ _ _ _ _ _ _ i.e4 (As.gr i.g6) (As.gr i.g7) Y Uo PE (by have:=Yr.2.bf;omega)) ?_;rintro _ og ⟨E2,Z6,rfl,vN,hi6,Y3,nL⟩;have O:=St.lv i nL vN;have zW:=N.trans vN i.size;have H:=O.fr (hi6);have pC:=H.fr (Y3);have kB:=pC.p8.drop;have ll:=kB.p8.drop;refine ed ?_;refine ef (j+1,t,E2,Z6) ⟨ll.p6.drop.p6.drop.p1.p5.p5.p4,⟨Fv,LF.1,by omega,zW,trivial⟩⟩
 simp at g34
 rw [List.drop_eq_nil_of_le (by omega)] at A;simp only [dK,Option.some.injEq] at A;subst A;refine(aZ) x5 p.b0<|(aR) (fun v=>?_) fun v=>?_
 ·
  simp at v
  have G:=p.dp RR.key 41 2;refine nx ?_;refine WC.bN (m:=7) [] [5] [0,5,1,2,3,4,6] [] G (ai.k4 M0 M1 M2 M3<|ai.k4 M4 M5 M6 M7<|ai.k4 M8 M9 hU kC<|ai.k4 oa xg IA LK<|ai.nil) mixed (by kernel_rfl) (by kernel_rfl) rfl<|(lx) aL SV.g8<|?_;refine DG.cs rfl rfl rfl rfl rfl (fun mM Ia r9 q jQ=>?_);simp only [CA,NA] at q;refine OX.mg dR (As.gb q.g11) rfl rfl rfl rfl rfl fun pH zy _ tK=>?_;have u:=q.ky.Bj zy tK;refine⟨zy.size,rfl,_,_,_,u,aw.k4<|aw.k4<|aw.k4<|aw.k4<|aw.cons<|aw.nil,ai.k4 M1 M2 M3 M4<|ai.k4 M5 M6 M7 M8<|ai.k4 M9 hU iP kC<|ai.k4 oa xg IA LK<|ai.nil,?_⟩
  iterate 3 refine DG.a ?_
  refine(oc) x5 SV.g1<|(jv) ?_;intro og GJ i;simp only [CM,NM,CA,NA,hI.it] at i;refine nx ?_;refine WL.nil (EX.np ?_);refine bY ?_;refine EX.ew rfl (RS.cell aL rfl i.b0 rfl<|RS.tmp rfl<|RS.tmp rfl<|RS.nil) rfl<|?_;have hb:s1.base x=x:=if_neg v;have hl:s1.list=[]:=if_neg v;exact⟨f1,f2,f3,f4,f5,f6,none,0,0,_,by rw [hb],N,by rw [hb];exact(As.gr i.g11),by rw [hb];exact(As.gr i.g10),by rw [hl];exact(St.wk i.p1.k1)⟩
 simp at v
 refine bY ?_;have SZ:=((As.gs p.g2)).len;have Tr:=St.fresh p.p2;have G:=p.p2.ba (by omega);have hZr:=N.trans (bH.dA (F:=fun x=>x∈aI d.a3) Tr) (Nat.le_refl _);refine WC.bN (m:=9) [] [8] [4,5,6,7,8,0,1,2,3] [] G (ai.k4 M0 M1 M2 M3<|ai.k4 M4 M5 M6 M7<|ai.k4 M8 M9 hU iP<|ai.k4 kC oa xg IA<|ai.nil) mixed (by kernel_rfl) (by kernel_rfl) rfl<|?_
 iterate 3 refine DG.a ?_
 refine(oc) dC SV.g1<|(fV) (fun mM R8x Ts q CN=>?_);simp only [CA,NA] at q;have u:=q;refine OX.call O2 rfl rfl ((qC u.e0 (As.gr u.g0) (fun _ h _=>h) zI).mono ?_);rintro _ pH ⟨o1,o2,o3,rfl,qN⟩;have i:=St.lr u qN;refine⟨_,rfl,qN.bV.size,_,rfl,_,_,_,i,aw.k4<|aw.k4<|aw.k4<|aw.k4<|aw.cons<|aw.nil,ai.k4 M1 M2 M3 M4<|ai.k4 M5 M6 M7 M8<|ai.k4 M9 hU iP kC<|ai.k4 oa xg IA LK<|ai.nil,?_⟩
 iterate 3 refine DG.a ?_
 refine(yF) aL SV.g1<|(jv)<|?_;intro og Cv O;simp only [CM,NM,CA,NA,hI.it] at O;refine(cF) dR O.ky fun sZ Lv Lx H=>?_;refine bK ?_;refine WL.nil (EX.np ?_);refine bK ?_;refine EX.ew rfl (RS.cell aL rfl H.b0 rfl<|RS.tmp rfl<|RS.tmp rfl<|RS.nil) rfl<|?_;have hb:s1.base x=s1.b:=if_pos v;have hl:s1.list=kf s1.bf:=if_pos v;exact⟨d.a1,d.n1,d.c1,d.a2,d.n2,d.c2,o1,o2,o3,_,by rw [hb,v];rfl,hZr,by rw [hb];exact(As.gr H.g5),by rw [hb];exact(As.gr H.g6),by rw [hl];exact(St.wk H.p1.k1)⟩
set_option maxHeartbeats 400000
set_option maxHeartbeats 400000
set_option maxHeartbeats 400000
theorem Oa(b:aq aa) (q:∀k,(valOf aa x.ab k).size≤1000):∀i:Nat,i<aa.length→PH aa x D (aM aa (i:Int)):=by
 intro i;have A:=b.len;have low:∀n:Nat,n≤15→PH aa x D (cD (n:Int)):=fun n hn w M Z ml al d e hm _=>th d e hm (bB (by omega))
 induction i using Nat.strongRecOn with
 | _ i r=>
  intro hi w M Z ml al d e hm g
  have jl:i≤99:=by omega
  have u:lH aa i al:=by
   have h:=g (dr hi jl);rw [cz hi jl,Int.toNat_natCast] at h;exact h
  refine Fx d e hm b hi q u (fun hr w M Z ml al d e hm g=>?_) (fun hr a o=>?_)
  ·
   rw [cz hi jl,Int.toNat_natCast] at g;refine zR d e hm b q hi hr g fun j s a o hc=>?_;have p:=o.QG b
   rcases o with⟨n,hn,rfl⟩ | ⟨m,hm,rfl,h1,t,B,v⟩
   ·
    exact low n hn
   have y:aF aa m=false:=by
    rw [hc,eF hm (by omega)] at p
    cases h:aF aa m
    ·
     rfl
    rw [h] at p;simp at p
   have C:bD aa j≤i:=Nat.le_trans (kc b s) (gi aa i)
   have z:m<i:=by
    have:=v y (i7 hi hr s).2
    omega
   exact r m z hm
  rcases o with⟨n,hn,rfl⟩ | ⟨m,hm,rfl,_,t,_⟩
  ·
   exact low n hn
  exact r m (t hr) hm
theorem KT(b:aq aa) (d:∀k,(valOf aa x.ab k).size≤1000) {k:Key}(hk:eG aa k):PH aa x D k:=by
 cases hk with
 | cell h=>exact fun w M Z ml al e g hm _=>th e g hm (bB h)
 | eT h _=>exact Oa b d _ h
end Go.Rc

