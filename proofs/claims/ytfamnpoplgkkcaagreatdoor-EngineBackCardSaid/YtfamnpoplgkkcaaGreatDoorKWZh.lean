/- Walks over the program, part WZh. Conditions: as each theorem says. -/
import Derived.Test.YtfamnpoplgkkcaaGreatDoorKFacts
import Derived.Test.YtfamnpoplgkkcaaGreatDoorKWU
import Derived.Test.YtfamnpoplgkkcaaGreatDoorKBe
import Derived.Test.YtfamnpoplgkkcaaGreatDoorKBf
import Derived.Test.YtfamnpoplgkkcaaGreatDoorKWE
import Derived.Test.YtfamnpoplgkkcaaGreatDoorKBg
import Derived.Test.YtfamnpoplgkkcaaGreatDoorShelf
import Derived.Test.YtfamnpoplgkkcaaGreatDoorKWLibE
import Derived.Test.YtfamnpoplgkkcaaGreatDoorKBc
import Derived.Test.YtfamnpoplgkkcaaGreatDoorKBd
set_option linter.all false
namespace Go.Rc
open Go Go.Proofs Go.Proofs.Tryz
variable {n c d:Nat}{w:World}{a:Option Addr}{aa:List aF}{k:Key}{l:List Key}{f:FuncId}{Z M:Nat→Prop}{x:bZ}{D:SD}{m:Int}{cap:Value}
set_option maxHeartbeats 400000
theorem qk{n:Int} :CR prog 173 #[.int .i64 n] w (.bool false):=by
 refine enter func173 rfl ntmps173 rfl<|?_;have aM:=St.s0 w;refine ba ?_;refine(bJ) ?_;exact⟨by simp,(St.cg aM)⟩
theorem ud{a b:Int} :CR prog 128 #[.int .i64 a,.int .i64 b] w (.int .i64 (qD a b)):=by
 refine enter func128 rfl ntmps128 rfl<|?_;have aM:=St.s0 w;refine(eO) (qk) aM fun w1 s1 st1=>?_;refine(eO) (qk) st1 fun w2 s2 st2=>?_;refine oa ?_;refine WC.dw rfl<|ho ?_;refine WC.dw rfl<|(bl) (fun g16=>?_) fun g16=>?_
 ·
  simp at g16
  refine(bJ) ?_;exact⟨by unfold qD;rw [if_pos g16],(St.cg st2)⟩
 simp at g16
 refine(bl) (fun g19=>?_) fun g19=>?_
 ·
  simp at g19
  refine(bJ) ?_;exact⟨by unfold qD;rw [if_neg (by omega),if_pos g19],(St.cg st2)⟩
 simp at g19
 refine(bJ) ?_;exact⟨by unfold qD;rw [if_neg (by omega),if_neg (by omega)],(St.cg st2)⟩
theorem ue{l:List Int}{A:Nat→Prop}(hl:Ints A w a n c l):CR prog 127 #[.slice a n c] w (.int .i64 (HK l)):=by
 have hle:=SR.le hl;have hlen:=SR.len hl;refine enter func127 rfl ntmps127 rfl<|?_;have aM:=St.s0 w;refine ba ?_;refine eE ?_;refine WC.bq (σ:=Nat) (cX:=fun i=>[(3,.int .i64 0),(6,.slice a n c),(7,.int .i64 (n:Int)),(8,.int .i64 (i:Int))]) (F:=fun i=>[]) (I:=fun i=>(i≤n)∧(∀j x,j<i→l[j]?=some x→x=0)∧True) (μ:=fun i=>n - i) (0) (aM) Sub.t (⟨by omega,fun j x h=>by omega,trivial⟩)<|?_;rintro i w1 st1 ⟨hi,b,_⟩;simp only [CA,NA] at st1 hi b ⊢;refine(bl) (fun g9=>?_) fun g9=>?_
 ·
  simp at g9
  have e:i<l.length:=by omega
  obtain⟨s,u,v,g,_,rfl,o,_⟩:=(SR.ext hl (St.cg st1)).at (ah e);refine fE ?_;refine WP .r (PV.ef x8 g rfl rfl (by omega))<|WP .r (PV.j1 aT o rfl rfl)<|(bl) (fun g14=>?_) fun g14=>?_
  ·
   simp at g14
   refine(bJ) ?_;exact⟨by rw [HL e b g14],(St.cg st1)⟩
  simp at g14
  refine eE ?_;refine fJ (i+1) ⟨st1,⟨by omega,cL e b (by simpa using g14),trivial⟩⟩
 simp at g9
 refine(bJ) ?_;exact⟨by rw [Ed (fun x p=>by obtain⟨j,q,rfl⟩:=List.mem_iff_getElem.1 p;exact b j _ (by omega) (ah q))],(St.cg st1)⟩
theorem jf{a b:Key} :CR prog 77 #[a.val,b.val] w (.int .i64 (bj a b)):=by
 refine enter func77 rfl ntmps77 rfl<|?_;have aM:=St.s0 w;refine(dt) aM fun b2 w1 q r st1=>?_;refine(dt) st1 fun b3 w2 s t st2=>?_;refine cv ?_;have y:=st2.cu;refine WC.dN (m:=9) (E:=cO [(4,fun v _=>v=.int .i64 (qD a.kind b.kind))]) st2 (ca (⟨fun _ _ _ _ _ _ _ h=>h,trivial⟩)) mixed (by kernel_rfl)<|(kf) aT St.g1<|(kf) aT St.g0<|?_;refine DW.c0 (fun z A B=>ud)<|(kf) e4 St.g1<|(kf) e4 St.g0<|(da)<|?_;rintro w3 ⟨C,g⟩ ⟨_,_⟩;refine(eO) (kB a.text b.text w3) g fun w4 F i=>?_;refine WL.go rfl (OX.bf (us:=[.int .i64 (qD a.kind b.kind),.int .i64 (Lib.compareBytes a.text.data.toList b.text.data.toList)]) IM rfl rfl rfl rfl fun G w5 j o=>?_);have e:=i.dG j o;refine WL.c1 (u:=.int .i64 (bj a b)) (ue (l:=[qD a.kind b.kind,Lib.compareBytes a.text.data.toList b.text.data.toList]) (SR.Ha (rows:=[[.int .i64 (qD a.kind b.kind)],[.int .i64 (Lib.compareBytes a.text.data.toList b.text.data.toList)]]) (As.gb e.g0) rfl (by simp) (by simp [Value.oneCell']) (by simp) (vb rfl rfl))) (by rw [Ee]) e fun w6 H p=>?_;refine(bJ) ?_;exact⟨rfl,(St.cg p)⟩
theorem ov(hk:eV aa k):CR prog 203 #[k.val] w (.bool false):=by
 obtain⟨i,gT,b,e⟩:=hk.shape;refine enter func203 rfl ntmps203 rfl<|?_;have aM:=St.s0 w;refine(dt) aM fun b1 w1 g h st1=>?_;refine(bS) aq st1.b0<|(eO) (eN (k:=k) e b gT) st1 fun w2 s2 st2=>?_;refine(bJ) ?_;exact⟨rfl,(St.cg st2)⟩
theorem ql{p:Key→Bool}(q:CF prog f) (hl:Rd RR.key 2 Z w a n c l) (s:∀w1,aQ [] w w1→∀x∈l,Calls prog f #[x.val] w1 fun e w'=>e=.returned (.bool (p x))∧aQ [] w1 w'):Calls prog 109 #[.slice a n c,.func (.func f) #[] #[]] w fun e w'=>∃j:Int,e=.returned (.int .i64 j)∧pn l p j∧aQ [] w w':=by
 have hlen:=hl.len;have hle:=hl.le;refine enter func109 rfl ntmps109 rfl<|?_;have aM:=St.s0 w;refine ba ?_;refine cm ?_;refine WC.bq (σ:=Nat) (cX:=fun i=>[(0,.slice a n c),(1,.func (.func f) #[] #[]),(7,.int .i64 (n:Int)),(8,.int .i64 (i:Int))]) (F:=fun i=>[]) (I:=fun i=>(i≤n)∧(∀j x,j<i→l[j]?=some x→p x=false)∧True) (μ:=fun i=>n - i) (0) (aM) Sub.t (⟨by omega,fun j x h=>by omega,trivial⟩)<|?_;rintro i w1 st1 ⟨hi,b,_⟩;simp only [CA,NA] at st1 hi b ⊢;refine(bl) (fun g9=>?_) fun g9=>?_
 ·
  simp at g9
  have g:i<l.length:=by omega
  refine hY ?_;obtain⟨B,C,E,u,G,o,v,H⟩:=Rd.at hl g;have o:=RR.bp o;subst o;refine cv ?_;refine WP .r (PV.ef fR u rfl rfl (by omega))<|(bS) aq (aS v (St.cg st1) (by simp))<|?_;refine WL.go rfl (OX.jz q rfl rfl rfl ((Calls.LL (s _ (St.cg st1) l[i] (List.getElem_mem g))).mono ?_));rintro _ w2 ⟨rfl,s2⟩;refine⟨_,rfl,?_⟩;have st2:=st1.step s2;refine(bl) (fun g16=>?_) fun g16=>?_
  ·
   refine(bJ) ?_;exact⟨_,rfl,.inl ⟨i,_,ah g,g16,b,rfl⟩,(St.cg st2)⟩
  have g16:p l[i]=false:=by simpa using g16
  refine eE ?_;refine fJ (i+1) ⟨st2,⟨by omega,cL g b (by simpa using g16),trivial⟩⟩
 simp at g9
 have y:∀x∈l,p x=false:=fun x z=>by obtain⟨j,A,rfl⟩:=List.getElem_of_mem z;exact b j _ (by omega) (ah A)
 refine(bJ) ?_;exact⟨_,rfl,.inr ⟨y,rfl⟩,(St.cg st1)⟩
theorem mx{p:Key→Bool}(b:CF prog f) (hl:Rd RR.key 2 Z w a n c l) (g:∀w1,aQ [] w w1→∀x∈l,Calls prog f #[x.val] w1 fun e w'=>e=.returned (.bool (p x))∧aQ [] w1 w'):CR prog 64 #[.slice a n c,.func (.func f) #[] #[]] w (.bool (l.any p)):=by
 refine enter func64 rfl ntmps64 rfl<|?_;have aM:=St.s0 w;refine(c6) CO (ql (w:=w) b (hl.ext (St.cg aM)) (fun w1 h1=>g w1 (aQ.trans (St.cg aM) h1))) ?_;rintro _ w1 ⟨j,rfl,h,s1⟩;have st1:=aM.step s1;have i:=h.any;refine(bJ) ?_;exact⟨by rw [i],(St.cg st1)⟩
set_option maxHeartbeats 1600000 in
theorem qm{x:Rec}(hk:Rd RR.key 2 Z w a n c x.reads) (B:BJ aa x):CR prog 149 #[.agg (x.row a n c).toArray] w (.bool true):=by
 have hlen:=hk.len;obtain⟨h1,C,E,z⟩:=B;obtain⟨i,gT,F,G⟩:=h1.shape;have H:=h1.cn;rw [dP] at z;obtain⟨_,_,_,v4,v5,v6,L,N,v9,v10,v11⟩:=z;refine enter func149 rfl ntmps149 rfl<|?_;have aM:=St.s0 w;refine(dt) aM fun b1 w1 O P st1=>?_;refine dz ?_;refine WC.eC (t:=34) (v:=.bool false) st1 ?_<|?_
 ·
  refine(lj) aq st1.b0<|(eO) (eN (k:=x.key) G F gT) st1 fun w2 s2 st2=>?_;refine(lj) aq st2.b0<|?_;refine WL.c1 (u:=.bool false) (bM (k:=x.key)) (by rw [C]) st2 fun w3 I g=>?_;refine(bF) e4 g.b0<|(c7) (fun g19=>?_) (fun g19=>?_)
  ·
   refine ba ?_;exact(cP) (by first | (simp only [g19];done) | (simp [g19];done) | (have h:x.key.kind=32:=lT h1 (by simpa [g19] using v11);simp [g19,h];done) | (simp at g19 ⊢ <;> omega) | (simp [g19] <;> omega)) (g)
  refine(bF) eD g.b0<|(c7) (fun b=>?_) (fun b=>?_)
  ·
   exact(cP) (by first | (simp only [g19,b];done) | (simp [g19,b];done) | (have h:x.key.kind=32:=lT h1 (by simpa [g19,b] using v11);simp [g19,b,h];done) | (simp at g19 b ⊢ <;> omega) | (simp [g19,b] <;> omega)) (g)
  refine(bF) ed g.b0<|(c7) (fun e=>?_) (fun e=>?_)
  ·
   refine(lj) aq g.b0<|(eO) (dq (k:=x.key) H) g fun w4 Q J=>?_;exact(cP) (by first | (simp only [g19,b,e];done) | (simp [g19,b,e];done) | (have h:x.key.kind=32:=lT h1 (by simpa [g19,b,e] using v11);simp [g19,b,e,h];done) | (simp at g19 b e ⊢ <;> omega) | (simp [g19,b,e] <;> omega)) (J)
  exact(cP) (by first | (simp only [g19,b,e];done) | (simp [g19,b,e];done) | (have h:x.key.kind=32:=lT h1 (by simpa [g19,b,e] using v11);simp [g19,b,e,h];done) | (simp at g19 b e ⊢ <;> omega) | (simp [g19,b,e] <;> omega)) (g)
 intro w2 st2;refine(bl) (fun A=>?_) fun A=>?_
 ·
  exact cI A
 refine ho ?_;refine WC.iT (t:=2) (v:=.bool true) st2 ?_<|?_
 ·
  refine(bF) aT st2.b0<|(c7) (fun j=>?_) (fun j=>?_)
  ·
   refine(bF) aT st2.b0<|(bF) aT st2.b0<|(c7) (fun o=>?_) (fun o=>?_)
   ·
    refine(bF) aT st2.b0<|(c7) (fun q=>?_) (fun q=>?_)
    ·
     refine(bF) aT st2.b0<|(c7) (fun r=>?_) (fun r=>?_)
     ·
      refine(bF) aT st2.b0<|(c7) (fun s=>?_) (fun s=>?_)
      ·
       refine(bF) eD st2.b0<|nx ?_;refine WL.c1 (u:=.bool false) (mx (p:=fun _=>false) N0 (hk.ext (St.cg st2)) (fun w1 _ y K=>ov (E y K))) (by rw [List.any_eq_false.2 (fun _ _=>by simp)]) st2 fun w3 I g=>?_;exact(fB) (tG (aj j<|aj o<|aj q<|aj r s)) (g)
      exact(fB) (tG (aj j<|aj o<|aj q<|aj r s)) (st2)
     refine ba ?_;exact(fB) (tG (aj j<|aj o<|aj q r)) (st2)
    refine ba ?_;exact(fB) (tG (aj j<|aj o q)) (st2)
   refine ba ?_;exact(fB) (tG (aj j o)) (st2)
  refine ba ?_;refine ba ?_;exact(fB) (tG j) (st2)
 intro w3 g;refine(bJ) ?_;exact⟨rfl,(St.cg g)⟩
theorem my{l:List Rec}(hl:Rd RR.iz 8 Z w a n c l) (s:∀x∈l,BJ aa x) (u:lk l) (N:l.length≤4000):CR prog 105 #[.slice a n c] w (.bool true):=by
 have hlen:=hl.len;have hle:=hl.le;refine enter func105 rfl ntmps105 rfl<|?_;have aM:=St.s0 w;refine ba ?_;refine cm ?_;refine WC.bq (σ:=Nat) (cX:=fun j=>[(0,.slice a n c),(5,.slice a n c),(6,.int .i64 (n:Int)),(7,.int .i64 (j:Int))]) (F:=fun j=>[]) (I:=fun j=>(j≤n)∧True) (μ:=fun j=>n - j) (0) (aM) Sub.t (⟨by omega,trivial⟩)<|?_;rintro j w1 st1 ⟨y,_⟩;simp only [CA,NA] at st1 y ⊢;refine(bl) (fun g8=>?_) fun g8=>?_
 ·
  simp at g8
  have i:j<l.length:=by omega
  refine dz ?_;obtain⟨O,P,Q,z,R,A,B,S⟩:=Rd.at hl i;obtain⟨q1,T,U,rfl,C,V⟩:=A;refine cm ?_;refine WP .r (PV.ef jQ z rfl rfl (by omega))<|(bS) dV (aS B (St.cg st1) (by simp))<|(fF) st1 fun b4 w2 W X st2=>?_;refine(dH) iK st2 fun w3 Y qx o=>?_;refine cM ?_;refine WC.eC (t:=30) (v:=.bool false) o ?_<|?_
  ·
   have hN4:=o.cu;refine WC.dN (m:=15) (E:=cO [(1,fun v _=>v=.bool true)]) o (ca (⟨fun _ _ _ _ _ _ _ h=>h,trivial⟩)) mixed (by kernel_rfl)<|(iN) dV St.g0<|?_;refine DW.c0 (fun wx g hF=>qm (C.ext (St.cg g.2)) (s _ (List.getElem_mem i)))<|(uv) (fun g18=>?_) (fun g18=>?_)
   ·
    have PX:1≤j:=by have h0:=g18;simp at h0;omega
    have p:j - 1<l.length:=by omega
    have rD:bj l[j - 1].key l[j].key<0:=List.pairwise_iff_getElem.1 u (j - 1) j p i (by simp at g18;omega);obtain⟨Dn,Dp,Dq,G,wK,H,J,mr⟩:=Rd.at hl p;obtain⟨p1,p2,p3,rfl,_,_⟩:=H;refine cM ?_;refine DP .r (fun _ g=>PV.Bb jQ (j - 1) G rfl rfl (by omega) (by omega))<|nx ?_;refine DP .r (fun _ g=>PV.uD aq (aS J (St.cg g.2) (by simp)) rfl rfl)<|(Bo) aq St.g0<|(da)<|?_;rintro w4 ⟨K,e⟩ ⟨_,_⟩;refine(eO) (jf (a:=l[j - 1].key) (b:=l[j].key)) e fun w5 s5 L=>?_;exact(cP) (tG g18) (L)
   refine(da) ?_;rintro w4 ⟨K,e⟩ ⟨_,_⟩;exact(cP) (tG g18) (e)
  intro w4 e;refine(bl) (fun q=>?_) fun q=>?_
  ·
   exact cI q
  refine eE ?_;refine fJ (j+1) ⟨e.drop,⟨by omega,trivial⟩⟩
 simp at g8
 refine ba ?_;refine(bJ) ?_;exact⟨by simp;omega,(St.cg st1)⟩
theorem qn{i:Nat}(gT:i≤99) (hk:k=⟨30,itoa i⟩):CR prog 106 #[k.val] w (.bool true):=by
 subst hk;refine enter func106 rfl ntmps106 rfl<|?_;have aM:=St.s0 w;refine(dt) aM fun b1 w1 e g st1=>?_;refine(bS) aq st1.b0<|(eO) (eN (k:=⟨30,itoa i⟩) ⟨(by decide:(30:Int)≤30),(by decide:(30:Int)≤32)⟩ rfl gT) st1 fun w2 s2 st2=>?_;refine(bS) aq st2.b0<|?_;refine WL.c1 (u:=.bool true) (bM (k:=⟨30,itoa i⟩)) (by rw [show ax ⟨30,itoa i⟩=true from rfl]) st2 fun w3 h b=>?_;refine(bJ) ?_;exact⟨rfl,(St.cg b)⟩
set_option maxHeartbeats 1600000 in
set_option maxRecDepth 100000 in
theorem nn{a1 a2:Option Addr}{n1 e1 n2 e2:Nat}(hi:Rd RR.aC 4 Z w a1 n1 e1 x.ab) (hr:Rd RR.iz 8 Z w a2 n2 e2 x.ai) (U:po aa x):CR prog 63 #[.agg (x.row a1 n1 e1 a2 n2 e2).toArray] w (.bool true):=by
 obtain⟨x0,x1,O,V,x6,W,xs,X,Y⟩:=U;have dF:=hi.len;have Rk:=hi.le;have zN:=hr.len;refine enter func63 rfl ntmps63 rfl<|?_;have aM:=St.s0 w;refine(dt) aM fun b1 w1 TQ WT st1=>?_;refine dz ?_;refine WC.eC (t:=24) (v:=.bool false) st1 ?_<|?_
 ·
  refine(bF) aT st1.b0<|(c7) (fun g8=>?_) (fun g8=>?_)
  ·
   refine ba ?_;exact(cP) (tG g8) (st1)
  refine(bF) aT st1.b0<|(c7) (fun g13=>?_) (fun g13=>?_)
  ·
   exact(cP) (tG (aj g8 g13)) (st1)
  refine(bF) hV st1.b0<|(c7) (fun g19=>?_) (fun g19=>?_)
  ·
   exact(cP) (tG (aj g8<|aj g13 g19)) (st1)
  refine(bF) iH st1.b0<|(eO) (my (hr.ext (St.cg st1)) W xs X) st1 fun w2 s2 st2=>?_;exact(cP) (tG (aj g8<|aj g13 g19)) (st2)
 intro w2 st2;refine(bl) (fun g24=>?_) fun g24=>?_
 ·
  exact cI g24
 refine(bF) hV st2.b0<|dz ?_;refine WC.bq (σ:=Nat) (cX:=fun j=>[(1,.pointer (some ⟨b1,0,none⟩)),(26,.slice a1 n1 e1),(27,.int .i64 (n1:Int)),(28,.int .i64 (j:Int))]) (F:=fun j=>[]) (I:=fun j=>(j≤n1)∧True) (μ:=fun j=>n1 - j) (0) (st2) Sub.t (⟨by omega,trivial⟩)<|?_;rintro j w3 q ⟨hj,_⟩;simp only [CA,NA] at q hj ⊢;refine(bl) (fun H=>?_) fun H=>?_
 ·
  simp at H
  have C:j<x.ab.length:=by omega
  obtain⟨y,u⟩:∃y,x.ab[j]=y:=⟨_,rfl⟩;obtain⟨i,gT,XT⟩:=V _ (u ▸ List.getElem_mem C);obtain⟨_,_,hv,hc0,hc1⟩:=O.2 _ (u ▸ List.getElem_mem C);refine dz ?_;obtain⟨jq,tw,pS,fy,jT,J,P,iM⟩:=Rd.at hi C;have J:=RR.bp J;subst J;rw [u] at P
  have Q:j - 1<x.ab.length:=by omega
  obtain⟨z,R⟩:∃z,x.ab[j - 1]=z:=⟨_,rfl⟩;refine cm ?_;refine WP .r (PV.ef oj fy rfl rfl (by omega))<|(bS) jk (aS P (St.cg q) (by simp))<|(fF) q fun b4 w4 FK FL K=>?_;refine(dH) vF K fun w5 oB qx L=>?_;refine cM ?_;refine WC.eC (t:=71) (v:=.bool false) L ?_<|?_
  ·
   have hN6:=L.cu;refine WC.dN (m:=37) (E:=cO [(2,fun v _=>v=.bool true),(17,fun v _=>v=.int .i64 (bj z.key y.key))]) L (ca (⟨fun _ _ _ _ _ _ _ h=>h,⟨fun _ _ _ _ _ _ _ h=>h,trivial⟩⟩)) mixed (by kernel_rfl)<|(Bo) aq St.g0<|?_;refine DW.c0 (fun wx G hF=>qn gT XT)<|(uv) (fun g=>?_) (fun g=>?_)
   ·
    have PX:1≤j:=by have h0:=g;simp at h0;omega
    have rD:bj z.key y.key<0:=by rw [← u,← R];exact List.pairwise_iff_getElem.1 O.1 (j - 1) j Q C (by omega)
    obtain⟨Dn,Dp,Dq,mo,wK,N,S,mr⟩:=Rd.at hi Q;have N:=RR.bp N;subst N;rw [R] at S;refine(kf) hV St.g1<|cm ?_;refine DP .r (fun _ G=>PV.Bb oj (j - 1) mo rfl rfl (by omega) (by omega))<|nx ?_;refine DP .r (fun _ G=>PV.uD aq (aS S (St.cg G.2) (by simp)) rfl rfl)<|(Bo) aq St.g0<|?_;refine DW.c0 (fun wx G hF=>jf (a:=z.key) (b:=y.key))<|(uv) (fun B=>?_) (fun B=>?_)
    ·
     refine ba ?_;refine(da) ?_;rintro w6 ⟨A,e⟩ ⟨_,⟨_,_⟩⟩;exact(cP) (tG (aj g B)) (e)
    refine(kf) e4 St.g0<|(uv) (fun o=>?_) (fun o=>?_)
    ·
     refine(da) ?_;rintro w6 ⟨A,e⟩ ⟨_,⟨_,_⟩⟩;exact(cP) (tG (aj g<|aj B o)) (e)
    refine(kf) aT St.g0<|(uv) (fun s=>?_) (fun s=>?_)
    ·
     refine(da) ?_;rintro w6 ⟨A,e⟩ ⟨_,⟨_,_⟩⟩;exact(cP) (tG (aj g<|aj B<|aj o s)) (e)
    refine(kf) aT St.g0<|(kf) aT St.g1<|(da)<|?_;rintro w6 ⟨A,e⟩ ⟨_,⟨_,_⟩⟩;exact(cP) (tG (aj g<|aj B<|aj o s)) (e)
   refine ba ?_;refine(kf) e4 St.g0<|(uv) (fun o=>?_) (fun o=>?_)
   ·
    refine(da) ?_;rintro w6 ⟨A,e⟩ ⟨_,_⟩;exact(cP) (tG (aj g o)) (e)
   refine(kf) aT St.g0<|(uv) (fun s=>?_) (fun s=>?_)
   ·
    refine(da) ?_;rintro w6 ⟨A,e⟩ ⟨_,_⟩;exact(cP) (tG (aj g<|aj o s)) (e)
   refine(kf) aT St.g0<|(kf) aT St.g1<|(da)<|?_;rintro w6 ⟨A,e⟩ ⟨_,_⟩;exact(cP) (tG (aj g<|aj o s)) (e)
  intro w6 e;refine(bl) (fun T=>?_) fun T=>?_
  ·
   exact cI T
  refine eE ?_;refine fJ (j+1) ⟨e.drop,⟨by omega,trivial⟩⟩
 simp at H
 refine(bF) iH q.b0<|?_;refine WP .r (PV.func (us:=[]) (vs:=[.pointer (some ⟨b1,0,none⟩)]) rfl rfl)<|(eO) (nf (p:=fun r=>decide (x.ad<r.ak)) Na (hr.ext (St.cg q)) (fun wq hq y _ a n c _=>ni ((As.gb q.g0).ext hq)) (fun y u=>by have:=Y y u;simp;omega)) q fun w4 s4 K=>?_;refine(bJ) ?_;exact⟨by simp,(St.cg K)⟩
theorem nU(g:St w M Z w [As.os RR.key 41 2 a n c l]) (h0:l≠[]) (hn:l.length≤1000000):Calls prog 79 #[.slice a n c,.func (.func 77) #[] #[]] w fun e w'=>e=.returned (.tuple #[])∧∃l',l'.Perm l∧(l'.Pairwise fun x y=>¬bj y x<0)∧St w M Z w' [As.os RR.key 41 2 a n c l']:=
 r5 (row:=Key.cells) (key:=fun x=>x) (fun _=>rfl) (fun x v b=>by(simp [Key.cells] at b;rcases b with rfl | rfl <;> rfl)) (fun blk cap d w hc hH hb h=>slices_SortFunc 2 isAgg41 sizeOf41 Key.cells (fun _=>rfl) (fun x v b=>by(simp [Key.cells] at b;rcases b with rfl | rfl <;> rfl)) _ yW 77 #[] blk 0 cap d w MS hc hH hb h) (fun x y w=>jf) g h0 hn
set_option maxHeartbeats 400000
theorem uf{x y:Rec × RL} :CR prog 76 #[.agg (Rec.tf x).toArray,.agg (Rec.tf y).toArray] w (.int .i64 (bj x.1.key y.1.key)):=by
 refine enter func76 rfl ntmps76 rfl<|?_;have aM:=St.s0 w;refine(dt) aM fun b2 w1 g h st1=>?_;refine(dt) st1 fun b3 w2 i j st2=>?_;refine(lj) aq st2.b1<|(lj) aq st2.b0<|(eO) (jf (a:=x.1.key) (b:=y.1.key)) st2 fun w3 o e=>?_;refine(bJ) ?_;exact⟨rfl,(St.cg e)⟩
instance:Inhabited (Rec × RL):=⟨(jB,⟨0,none,0,0⟩)⟩
theorem tV{l:List (Rec × RL)}(b:St w M Z w [As.os RR.xW 47 8 a n c l]) (h0:l≠[]) (hn:l.length≤1000000):Calls prog 75 #[.slice a n c,.func (.func 76) #[] #[]] w fun e w'=>e=.returned (.tuple #[])∧∃l',l'.Perm l∧(l'.Pairwise fun x y=>¬bj y.1.key x.1.key<0)∧St w M Z w' [As.os RR.xW 47 8 a n c l']:=
 r5 (row:=Rec.tf) (key:=fun x=>x.1.key) (fun _=>rfl) Rec.Ia (fun blk cap d w hc hH hb g=>slices_SortFuncR 8 isAgg47 sizeOf47 Rec.tf (fun _=>rfl) Rec.Ia _ yW 76 #[] blk 0 cap d w call76 hc hH hb g) (fun x y w=>uf) b h0 hn
set_option maxHeartbeats 400000
set_option maxHeartbeats 400000
set_option maxHeartbeats 400000
set_option maxHeartbeats 400000
theorem Gc(b:ao aa) (r:∀k,(valOf aa x.ab k).size≤1000):∀i:Nat,i<aa.length→GQ aa x D (aK aa (i:Int)):=by
 intro i;have B:=b.len;have low:∀n:Nat,n≤15→GQ aa x D (bd (n:Int)):=fun n hn w M Z ml al e g hm _=>nT e g hm (aY (by omega))
 induction i using Nat.strongRecOn with
 | _ i s=>
  intro hi w M Z ml al e g hm o
  have gT:i≤99:=by omega
  have v:iE aa i al:=by
   have h:=o (bQ hi gT);rw [br hi gT,Int.toNat_natCast] at h;exact h
  refine ym e g hm b hi r v (fun hr w M Z ml al e g hm o=>?_) (fun hr a p=>?_)
  ·
   rw [br hi gT,Int.toNat_natCast] at o;refine tJ e g hm b r hi hr o fun j t a p hc=>?_;have q:=p.KD b
   rcases p with⟨n,hn,rfl⟩ | ⟨m,hm,rfl,h1,u,C,y⟩
   ·
    exact low n hn
   have z:az aa m=false:=by
    rw [hc,cY hm (by omega)] at q
    cases h:az aa m
    ·
     rfl
    rw [h] at q;simp at q
   have E:aZ aa j≤i:=Nat.le_trans (gM b t) (dO aa i)
   have A:m<i:=by
    have:=y z (eW hi hr t).2
    omega
   exact s m A hm
  rcases p with⟨n,hn,rfl⟩ | ⟨m,hm,rfl,_,u,_⟩
  ·
   exact low n hn
  exact s m (u hr) hm
theorem De(b:ao aa) (e:∀k,(valOf aa x.ab k).size≤1000) {k:Key}(hk:eV aa k):GQ aa x D k:=by
 cases hk with
 | cell h=>exact fun w M Z ml al g i hm _=>nT g i hm (aY h)
 | eU h _=>exact Gc b e _ h
set_option maxHeartbeats 400000
theorem wQ{l:List Int}(g:St w M Z w []) (hl:Rd RR.int 1 Z w a n c l) (h:n≤400):Calls prog 8 #[.slice a n c] w fun e w'=>∃d,e=.returned (.pointer (some ⟨d,0,none⟩))∧St w M Z w' [As.gP 70 d]:=
 (yj (A:=Z) (l:=l) hl h).mono fun e w' ⟨d,h1,i,j,hc⟩=>⟨d,h1,g.new hc j fun x b=>by have b:x=d:=b;subst b;exact i⟩
theorem bR(b:St w M Z w [As.gP 70 d]) (hm:m≤4611686018427387904):Calls prog 23 #[.pointer (some ⟨d,0,none⟩),.int .i64 m] w fun e w'=>∃z:Int,e=.returned (.int .i64 z)∧0≤z∧(1≤m→z<m)∧St w M Z w' [As.gP 70 d]:=
 (yk (A:=Z) (As.gd b.g0) (b.ks (As.gP 70 d) (by simp) d rfl) hm).mono fun e w' ⟨z,h1,h,i,hc,j⟩=>⟨z,h1,h,i,b.gS (hc.p.mono fun x _ g=>show x=d from by simpa using g) j fun x g=>.inl g⟩
theorem wR{l:List ByteArray}{r:Nat}(b:St w M Z w [As.gP 70 d,As.os RR.str 9 1 a r c l]) (h0:0<r) (h1:r≤1000):Calls prog 94 #[.pointer (some ⟨d,0,none⟩),.slice a r c] w fun e w'=>∃s:ByteArray,e=.returned (.string s)∧s∈l∧St w M Z w' [As.gP 70 d,As.os RR.str 9 1 a r c l]:=by
 have hlen:=(As.gs b.g1).len;refine enter func94 rfl ntmps94 rfl<|?_;have aM:=b;refine hY ?_;have st1:=aM;refine(c6) kh (bR st1.e1 (m:=(r:Int)) (by omega)) ?_;rintro _ w1 ⟨z,rfl,o,g,j⟩;have st2:=St.lr st1 j;have g:=g (by omega);obtain⟨i,rfl⟩:∃i:Nat,z=i:=⟨z.toNat,by omega⟩
 have hi:i<l.length:=by omega
 obtain⟨p,h⟩:=Ow.addr (As.gs st2.g1) (ah hi);refine WP .r (PV.ef vE h rfl rfl (by omega))<|WP .r (PV.j1 e4 (Ow.n5 (As.gs st2.g1) (by omega) h (ah hi)) rfl rfl)<|(bJ) ?_;exact⟨_,rfl,List.getElem_mem hi,st2⟩
theorem q7(p:St w M Z w [As.gP 70 d]):Calls prog 52 #[.pointer (some ⟨d,0,none⟩)] w fun e w'=>∃x:Change,e=.returned (.agg x.cells.toArray)∧(x.small∧x.value.size≤50)∧St w M Z w' [As.gP 70 d]:=by
 refine enter func52 rfl ntmps52 rfl<|?_;have aM:=p;refine(fF) aM fun b2 w1 F G st1=>?_;refine dz ?_;have st2:=st1.p1;refine(c6) kh (bR st2.e1 (m:=4) (by omega)) ?_;rintro _ w2 ⟨z4,rfl,q,b,t⟩;have u:=St.lr st2 t;have b:=b (by omega);refine(eO) (jd (n:=z4)) u fun w3 H v=>?_;refine nx ?_;refine WL.go rfl (OX.bf (us:=words.map Value.string) Cy rfl rfl rfl rfl fun y w4 g z=>?_);have A:=St.n0 (R:=RR.str) (E:=9) (k:=1) (a:=some ⟨y,0,none⟩) (n:=10) (c:=10) (xs:=words) v g.ext (Ow.flat z rfl (by simp) (by simp [words,Value.oneCell']) rfl (by decide)) (fun x h=>by simp [bN] at h;subst h;exact g.ge);have i:=A.p1;refine(c6) TF (wR i.e2 (by decide) (by decide)) ?_;rintro _ w5 ⟨s,rfl,j,B⟩;have C:=St.lr i B;refine WP .r (PV.bA (us:=(Change.mk (bd z4) s).cells) Cz rfl rfl rfl)<|(dH) CD C.p2 fun w6 I J o=>?_;refine(nC) vz o.b0<|?_;exact⟨⟨bd z4,s⟩,rfl,⟨⟨⟨z4,q,by omega,rfl⟩,CW s j⟩,(show ∀s∈words,s.size≤50 by decide) s j⟩,o.drop.p1.drop⟩
theorem qj(C:St w M Z w [As.gP 70 d]) (hm:0≤m) (R:m≤1000):Calls prog 19 #[.pointer (some ⟨d,0,none⟩),.int .i64 m] w fun e w'=>∃a n c,∃l:List Change,e=.returned (.slice a n c)∧((l.length:Int)≤m∧∀x∈l,x.value.size≤50)∧(∀x∈l,x.small)∧St w M Z w' [As.gP 70 d,As.os RR.cH 65 3 a n c l]:=by
 refine enter func19 rfl ntmps19 rfl<|?_;have aM:=C;have st1:=aM.gx RR.cH 65 3;refine ba ?_;refine cv ?_;have st2:=st1.p1;refine(c6) kh (bR st2.e1 (m:=m+1) (by omega)) ?_;rintro _ w1 ⟨z0,rfl,S,s,E⟩;have G:=St.lr st2 E;have s:=s (by omega);obtain⟨z,rfl⟩:∃z:Nat,z0=z:=⟨z0.toNat,by omega⟩;refine cv ?_;refine WC.bq (σ:=Nat × (List Change) × (Option Addr) × Nat × Nat) (cX:=fun(i,l,g,b,j)=>[(0,.pointer (some ⟨d,0,none⟩)),(5,.slice g b j),(6,.int .i64 (i:Int))]) (F:=fun(i,l,g,b,j)=>[As.os RR.cH 65 3 g b j (l),As.gP 70 d]) (I:=fun(i,l,g,b,j)=>(l.length+i≤z)∧(∀x∈l,x.small)∧(∀x∈l,x.value.size≤50)∧True) (μ:=fun(i,l,g,b,j)=>i) (z,[],none,0,0) (G.p1) Sub.t (⟨by simp,by simp,by simp,trivial⟩)<|?_;rintro⟨i,l,g,b,j⟩ w2 o ⟨H,p,q,_⟩;simp only [CA,NA] at o H p q ⊢;have T:=((As.gs o.g0)).len;refine(bl) (fun g12=>?_) fun g12=>?_
 ·
  simp at g12
  refine eE ?_;have u:=o.p1;refine(c6) Th (q7 u.e1) ?_;rintro _ w3 ⟨x,rfl,v,J⟩;have K:=St.lr u J;refine WL.go rfl (OX.bf (us:=x.cells) pK rfl rfl rfl rfl fun U w4 L N=>?_);have B:=K.dG L N;refine WL.ap rfl rfl B.p2 (SR.dU (A:=fun _=>True) (x:=x) (As.gb B.g0) trivial rfl (by simp [Change.cells,Value.oneCell']) rfl) fun O P w5 V W Q=>?_;refine oa ?_;refine fJ (i - 1,l++[x],O,(b+1),P) ⟨Q.p1.drop,⟨by simp;omega,fun y r=>by rcases List.mem_append.1 r with h | h;exact p y h;simp at h;subst h;exact v.1,fun y r=>by rcases List.mem_append.1 r with h | h;exact q y h;simp at h;subst h;exact v.2,trivial⟩⟩
 simp at g12
 refine(bJ) ?_;exact⟨_,_,_,l,rfl,⟨by omega,q⟩,p,o.p1⟩
set_option maxHeartbeats 4000000 in
theorem ub(gV:St w M Z w [As.gP 70 d]):Calls prog 21 #[.pointer (some ⟨d,0,none⟩)] w fun e w'=>∃a n c,∃l:List aF,∃Z',e=.returned (.slice a n c)∧ao l∧2≤l.length∧l.length≤8∧eI w.heap.size Z Z'∧St w M Z' w' [As.gP 70 d,As.os RR.eU 58 4 a n c l]:=by
 refine enter func21 rfl ntmps21 rfl<|?_;have aM:=gV;have st1:=aM.gx RR.eU 58 4;refine ba ?_;refine cm ?_;have st2:=st1.p1;refine(c6) kh (bR st2.e1 (m:=7) (by omega)) ?_;rintro _ w1 ⟨z0,rfl,ZJ,G0,Kh⟩;have ka:=St.lr st2 Kh;have G0:=G0 (by omega);obtain⟨z,rfl⟩:∃z:Nat,z0=z:=⟨z0.toNat,by omega⟩;refine dz ?_;refine WC.bq (σ:=Nat × (List aF) × (Option Addr) × Nat × Nat) (cX:=fun(i,l,C,q,G)=>[(0,.pointer (some ⟨d,0,none⟩)),(3,.slice C q G),(4,.int .i64 (i:Int))]) (F:=fun(i,l,C,q,G)=>[As.os RR.eU 58 4 C q G (l),As.gP 70 d]) (I:=fun(i,l,C,q,G)=>(l.length+i=z+2)∧True) (μ:=fun(i,l,C,q,G)=>i) (z+2,[],none,0,0) (ka.p1) Sub.t (⟨by simp,trivial⟩)<|?_;rintro⟨i,l,C,q,G⟩ w2 jW ⟨hlz,_⟩;simp only [CA,NA] at jW hlz ⊢;have hol:=((As.gs jW.g0)).len;refine(bl) (fun g16=>?_) fun g16=>?_
 ·
  simp at g16
  refine eE ?_;have S:=jW.p1;refine(c6) kh (bR S.e1 (m:=3) (by omega)) ?_;rintro _ w3 ⟨z1,rfl,ZK,G1,tM⟩;have jt:=St.lr S tM;have G1:=G1 (by omega);obtain⟨g,hg⟩:∃g:Bool,g=decide (z1=1):=⟨_,rfl⟩;refine nx ?_;refine WP .r (PV.bA (us:=[.bool (decide (z1=1)),.slice none 0 0,.int .i64 0,.int .i64 0]) EU rfl rfl rfl)<|?_;refine WL.go rfl (OX.bf (us:=[.bool (decide (z1=1)),.slice none 0 0,.int .i64 0,.int .i64 0]) IK rfl rfl rfl rfl fun b24 w4 PT PU=>?_);have mi:=jt.dG PT PU;refine WL.ap rfl rfl mi.p2 (SR.dU (A:=fun _=>True) (x:=begun g) (As.gb mi.g0) trivial rfl (by simp [Value.oneCell']) ⟨none,0,0,by rw [hg];rfl,SR.nil _ _ _ _⟩) fun a25 WV w5 aeD Wk kF=>?_;refine oa ?_;refine fJ (i - 1,l++[begun g],a25,(q+1),WV) ⟨kF.p1.drop,⟨by simp;omega,trivial⟩⟩
 simp at g16
 refine ba ?_;refine cm ?_;refine WC.lG (σ:=Nat × (List aF) × (Nat→Prop)) (cX:=fun(i,l1,W)=>[(0,.pointer (some ⟨d,0,none⟩)),(3,.slice C q G),(27,.int .i64 (q:Int)),(28,.int .i64 (i:Int))]) (F:=fun(i,l1,W)=>[As.gP 70 d,As.os RR.eU 58 4 C q G l1]) (I:=fun(i,l1,W)=>(i≤q)∧(ia l1 i)∧(eI w.heap.size Z W)∧True) (μ:=fun(i,l1,W)=>q - i) (Zf:=fun(i,l1,W)=>W) (0,l,Z) (jW.p1) Sub.t (⟨Nat.zero_le _,ia.start (by omega),eI.refl _ _,trivial⟩)<|?_;rintro⟨i,l1,W⟩ w3 S ⟨hi,Rl,hZ,_⟩;simp only [CA,NA] at S hi Rl hZ ⊢;have DE:=((As.gs S.g1)).len;have hP8:=Rl.1;refine(bl) (fun DJ=>?_) fun DJ=>?_
 ·
  simp at DJ
  have T:i<l1.length:=by omega
  have ZL:=bm T;have Y3:=qE T;refine ba ?_;refine(eO) (vI (n:=(i:Int)) (Ow.rd (As.gs S.g1) (by omega))) S fun w4 s4 jt=>?_;refine oa ?_;obtain⟨bx,vV⟩:=Ow.addr (As.gs jt.g1) (ah T);refine cM ?_;refine WP .r (PV.ef iI vV rfl rfl (by omega))<|nx ?_;refine WP .r (PV.j1 ed (Ow.ring (As.gs jt.g1) vV (by omega) T) rfl rfl)<|cM ?_;have mi:=jt;refine WC.hI (σ:=Int) [] (fun most=>[(0,.pointer (some ⟨d,0,none⟩)),(3,.slice C q G),(5,.int .i64 (i:Int)),(7,.int .i64 most),(27,.int .i64 (q:Int)),(28,.int .i64 (i:Int))]) (fun most=>[]) (fun most=>(most=eR l1 i)∧True) mi ?_ ?_
  ·
   refine(bl) (fun X=>?_) fun X=>?_
   ·
    have X:l1[i].ring=false:=by simpa using X
    refine cv ?_;exact lK ((block l1 (i:Int)).1) ⟨mi,⟨by unfold eR;rw [ZL,X];rfl,trivial⟩⟩
   have X:l1[i].ring=true:=by simpa using X
   refine nx ?_;exact lK ((block l1 (i:Int)).2) ⟨mi,⟨by unfold eR;rw [ZL,X];rfl,trivial⟩⟩
  rintro most w5 kF ⟨G2,_⟩;simp only [CA,NA] at kF G2 ⊢;refine cm ?_;refine WC.cz (m:=12) [] [6,9] [5,6,8,9,0,1,2,3,4,7,10,11] [(11,.blk 58 [.bool false,.slice none 0 0,.int .i64 0,.int .i64 0])] kF (av.cons M1<|av.nil) mixed (by kernel_rfl) (by kernel_rfl) rfl<|(gR) (fun w6 Uy JM oo Dc=>?_);simp only [CA,NA] at oo;have gj:=oo;refine OX.call kh rfl rfl ((bR gj.e1 (m:=4) (by omega)).mono ?_);rintro _ w7 ⟨z2,rfl,ZM,G3,Dl⟩;have e7:=St.lr gj Dl;have G3:=G3 (by omega);refine⟨_,rfl,Dl.cH.size,_,rfl,_,_,_,e7,aG.k2<|aG.nil,av.cons M1<|av.nil,?_⟩;refine(gR) (fun w8 Ot C3 eF pY=>?_);simp only [CA,NA] at eF;have gk:=eF;refine OX.call kh rfl rfl ((bR gk.e1 (m:=6) (by omega)).mono ?_);rintro _ w9 ⟨z3,rfl,ZN,G4,tQ⟩;have gi:=St.lr gk tQ;have G4:=G4 (by omega);refine⟨_,rfl,tQ.cH.size,_,rfl,_,_,_,gi,aG.k2<|aG.nil,av.cons M1<|av.nil,?_⟩
  iterate 2 refine DG.a ?_
  refine DQ .r (fun K Zx Rx _ nj sn=>PV.ef iI vV rfl rfl (by omega))<|?_;refine DG.a<|?_;refine DQ .r (fun K Zx Rx _ nj sn=>PV.j1 ed (Ow.ring (As.gs (nj.sv sn).g0) vV (by omega) T) rfl rfl)<|?_;refine DG.a<|?_;refine DQ .r (fun K Zx Rx _ nj sn=>PV.bA (us:=[.bool l1[i].ring,.slice none 0 0,.int .i64 (1+z2),.int .i64 z3]) EU rfl rfl rfl)<|?_;refine DG.side (s:=.blk 58 [.bool false,.slice none 0 0,.int .i64 0,.int .i64 0]) rfl rfl rfl rfl rfl rfl (fun K Zx Rx ux nj=>OX.alloc MF rfl fun b wy Y hb=>⟨Y.ext.size,_,rfl,⟨b,rfl⟩,nj.dG Y hb⟩)<|?_;rintro _ ⟨y,rfl⟩;refine(lJ) ?_;intro oC OI ee;simp only [CM,NM,CA,NA,iv.it] at ee;refine(dH) EY ee fun qy oB qx gB=>?_;refine WL.nil (EX.np ?_);refine(bF) ed gB.b0<|cm ?_;have fx:=gB;refine WC.hI (σ:=Int × Int) [_] (fun(f0,c0)=>[(0,.pointer (some ⟨d,0,none⟩)),(3,.slice C q G),(5,.int .i64 (i:Int)),(7,.int .i64 most),(8,.pointer (some ⟨y,0,none⟩)),(27,.int .i64 (q:Int)),(28,.int .i64 (i:Int))]) (fun(f0,c0)=>[As.blk y 58 [.bool l1[i].ring,.slice none 0 0,.int .i64 f0,.int .i64 c0]]) (fun(f0,c0)=>(∀xs:List Ask,oT ⟨l1[i].ring,xs,f0,c0⟩=true)∧True) fx ?_ ?_
  ·
   refine(bl) (fun Ar=>?_) fun Ar=>?_
   ·
    have WW:d<qy.heap.size:=(As.gP 70 d).lt (fx.g1) d rfl;have F2:y<qy.heap.size:=((As.gb fx.g0)).lt;have eG:=fx;have fw:=eG.conv (B:=As.R3 (ι:=Int) y 58 fun f=>[.bool l1[i].ring,.slice none 0 0,.int .i64 f,.int .i64 z3]) ⟨_,(As.gb eG.g0)⟩ (fun _ h=>h);have WX:=fw.cu;have PY:=fw.kc;have PZ:=fw.size;refine WC.Hr (m:=8) (fun j w w'=>match j with | 2=>fD (fun x=>x=d) w w' | 6=>fD (fun x=>x=y) w w' | _=>fD (fun _=>False) w w') (E:=cO [(0,PS qy.heap.size 3 6 [.int .i64 0,.int .i64 1,.int .i64 2,.int .i64 4,.int .i64 8,.int .i64 16]),(2,fun v _=>∃z:Nat,v=.int .i64 (z:Int)∧z<6),(3,fun v K=>∃b k:Nat,v=.pointer (some ⟨b,0+k*1,none⟩)∧k<6∧qy.heap.size≤b∧bC K b 3 [.int .i64 0,.int .i64 1,.int .i64 2,.int .i64 4,.int .i64 8,.int .i64 16]),(4,fun v _=>∃z:Int,v=.int .i64 z∧0≤z∧z≤65535),(6,fun _ K=>K.cell? ⟨y,2,none⟩=some (.int .i64 5))]) fw (ru (⟨⟨trivial,fun _ _ _ _ _ c h=>PS.st (fun x u=>by subst u;exact WW) c h,fun _ _ _ _ _ c h=>PS.st (fun x u=>u.elim) c h,fun _ _ _ _ _ c h=>PS.st (fun x u=>u.elim) c h,fun _ _ _ _ _ c h=>PS.st (fun x u=>by subst u;exact F2) c h,trivial⟩,⟨⟨fun _ _ _ _ _ _ h=>h,trivial,fun _ _ _ _ _ _ h=>h,fun _ _ _ _ _ _ h=>h,fun _ _ _ _ _ _ h=>h,trivial⟩,⟨⟨trivial,trivial,trivial,fun _ _ _ _ _ c ⟨b,k,h1,h2,h3,h4⟩=>⟨b,k,h1,h2,h3,(PB.get (PB.st (fun x u=>u.elim) c (v:=.pointer (some ⟨b,0,none⟩)) ⟨b,rfl,h3,h4⟩)).2⟩,fun _ _ _ _ _ c ⟨b,k,h1,h2,h3,h4⟩=>⟨b,k,h1,h2,h3,(PB.get (PB.st (fun x u=>by subst u;exact F2) c (v:=.pointer (some ⟨b,0,none⟩)) ⟨b,rfl,h3,h4⟩)).2⟩,trivial⟩,⟨⟨fun _ _ _ _ _ _ h=>h,fun _ _ _ _ _ _ h=>h,trivial,trivial,fun _ _ _ _ _ _ h=>h,trivial⟩,⟨⟨fun _ _ _ _ _ c h=>by rw [← h];exact World.cell?_of_block (c.block y (by omega) (fun u=>u.elim)),trivial,fun _ _ _ _ _ c h=>by rw [← h];exact World.cell?_of_block (c.block y (by omega) (fun u=>u.elim)),fun _ _ _ _ _ c h=>by rw [← h];exact World.cell?_of_block (c.block y (by omega) (fun u=>u.elim)),trivial,trivial⟩,trivial⟩⟩⟩⟩⟩)) mixed (by kernel_rfl)<|?_;refine DW.e rfl rfl rfl rfl rfl (fun K J hF=>OX.bf (us:=[.int .i64 0,.int .i64 1,.int .i64 2,.int .i64 4,.int .i64 8,.int .i64 16]) IU rfl rfl rfl rfl fun b wy Y hb=>⟨⟨Nat.le_trans J.1 Y.ext.size,J.2.step Y.ext⟩,Y.ext.p0,_,rfl,_,rfl,Nat.le_trans J.1 Y.ge,hb⟩)<|?_;rintro _ wz _ ⟨b57,rfl,_,_⟩;refine nx ?_;refine DW.e rfl rfl rfl rfl rfl (fun K J hF=>OX.call kh rfl rfl ((bR (J.2.one (.tail _ (.head _))) (m:=6) (by omega)).mono ?_))<|?_
    ·
     rintro _ wy ⟨z,rfl,h0,h1,hy⟩;exact⟨_,rfl,⟨Nat.le_trans J.1 hy.cH.size,J.2.LS M1 hy⟩,hy.cH.mono (fun x _ u=>by obtain⟨A,hA,u⟩:=u;simp at hA;subst hA;exact u),_,rfl,⟨z.toNat,by congr 1;omega,by have:=h1 (by omega);omega⟩⟩
    rintro _ wz _ ⟨ZO,rfl,z131⟩
    refine DW.e rfl rfl rfl rfl rfl (fun K J hF=>by
     obtain⟨_,⟨b1_,WT,Da,KP⟩,_⟩:=hF;simp only [Value.slice.injEq,Option.some.injEq,Addr.mk.injEq,and_true,true_and] at WT;subst WT;exact OX.pv (PV.ix (i:=ZO) x8 rfl rfl z131) rfl ⟨J,fD.refl _ _,_,rfl,_,ZO,rfl,z131,Da,KP⟩) ?_
    rintro _ wz _ ⟨b3,k3,rfl,L4,C2,KP⟩
    refine DW.e rfl rfl rfl rfl rfl (fun K J hF=>by
     obtain⟨⟨b1_,k1_,DF,HV,_,Og⟩,_⟩:=hF;simp only [Value.pointer.injEq,Option.some.injEq,Addr.mk.injEq,and_true] at DF;obtain⟨rfl,hkk⟩:=DF
     obtain⟨z,hz,h0,h1⟩:∃z:Int,nth [.int .i64 0,.int .i64 1,.int .i64 2,.int .i64 4,.int .i64 8,.int .i64 16] (k3*1)=some (.int .i64 z)∧0≤z∧z≤65535:=by
      have h6:k3=0∨k3=1∨k3=2∨k3=3∨k3=4∨k3=5:=by omega
      rcases h6 with rfl | rfl | rfl | rfl | rfl | rfl <;> exact⟨_,rfl,by decide,by decide⟩
     exact OX.pv (PV.ld1 (o:=0) (j:=k3*1) aT (bC.range Og) rfl hz) rfl ⟨J,fD.refl _ _,_,rfl,z,rfl,h0,h1⟩) ?_
    rintro _ wz _ ⟨z5,rfl,h5a,h5b⟩;refine nx ?_
    refine DW.e0 rfl rfl rfl rfl (fun K J hF=>by
     obtain⟨f,hb⟩:∃f:Int,bC K y 58 [.bool l1[i].ring,.slice none 0 0,.int .i64 f,.int .i64 z3]:=J.2.ok _ M0;exact OX.st (j:=2) GF hb rfl rfl (by simp [nth]) rfl rfl fun wy s hsz Da=>⟨⟨Nat.le_trans J.1 s.size,J.2.same M0 (s.p.mono fun x _ u=>show x=y from by simpa using u) ⟨5,Da⟩⟩,s.p.mono (fun x _ u=>by simpa using u),fun _=>bC.range Da 2 _ rfl⟩) ?_
    rintro _ wz _ h6c;refine(da) ?_;rintro uy ⟨OW,gQ⟩ ⟨UE,⟨_,⟨_,⟨_,⟨hF0,_⟩⟩⟩⟩⟩;have gl:=gQ.Hs (PS.pb hF0) WX PY PZ;have ig:=gl.p1
    have Q:=ig.conv (B:=As.blk y 58 [.bool l1[i].ring,.slice none 0 0,.int .i64 5,.int .i64 z3]) (by
     obtain⟨f,hb⟩:∃f:Int,bC uy y 58 [.bool l1[i].ring,.slice none 0 0,.int .i64 f,.int .i64 z3]:=ig.ok _ M0;have h1:=(bC.range hb 2 _ rfl).symm.trans UE
     have h2:f=5:=by simpa using h1
     subst h2;exact hb) (fun _ h=>h)
    refine WL.s1 Q fun wY _ O=>?_;refine nx ?_;exact lK (5,z5) ⟨O.p1.drop,⟨fun _=>by unfold oT;simp [Ar,h5a,h5b],trivial⟩⟩
   have Ar:l1[i].ring=false:=by simpa using Ar
   refine nx ?_;exact lK (1+z2,z3) ⟨fx,⟨fun _=>by unfold oT;simp [Ar];omega,trivial⟩⟩
  rintro⟨f0,c0⟩ uy eG ⟨Gd,_⟩;simp only [CA,NA] at eG Gd ⊢;refine dz ?_;have fw:=eG.p1;refine(c6) kh (bR fw.e1 (m:=4) (by omega)) ?_;rintro _ wY ⟨z6,rfl,ZP,G5,P0⟩;have gQ:=St.lr fw P0;have G5:=G5 (by omega);obtain⟨z,hz6⟩:∃z:Nat,z6=z:=⟨z6.toNat,by omega⟩;subst hz6;refine cv ?_;have gl:=gQ.gx RR.ask 102 4;refine WC.bq (σ:=Nat × (List Ask) × (Option Addr) × Nat × Nat) (cX:=fun(k,xs,R,U,yx)=>[(0,.pointer (some ⟨d,0,none⟩)),(3,.slice C q G),(5,.int .i64 (i:Int)),(7,.int .i64 most),(8,.pointer (some ⟨y,0,none⟩)),(9,.int .i64 (k:Int)),(27,.int .i64 (q:Int)),(28,.int .i64 (i:Int))]) (F:=fun(k,xs,R,U,yx)=>[As.os RR.ask 102 4 R U yx (xs),As.blk y 58 [.bool l1[i].ring,.slice R U yx,.int .i64 f0,.int .i64 c0],As.gP 70 d]) (I:=fun(k,xs,R,U,yx)=>(∀x∈bN R,w.heap.size≤x)∧(xs.length+k≤3)∧(∀(k:Nat) x,xs[k]?=some x→fG l1 i l1[i].ring k x=true)∧True) (μ:=fun(k,xs,R,U,yx)=>k) (z,[],none,0,0) (gl.p1.p2.p2) Sub.t (⟨by simp [bN],by simp;omega,by simp,trivial⟩)<|?_;rintro⟨k,xs,R,U,yx⟩ C6 ig ⟨WY,hxk,Hv,_⟩;simp only [CA,NA] at ig WY hxk Hv ⊢;have hxl:=((As.gs ig.g0)).len;refine(bl) (fun K5=>?_) fun K5=>?_
  ·
   simp at K5
   refine dz ?_;have Q:=ig.p2;refine WC.hI (σ:=Nat × Bool) [_] (fun(H,cell)=>[(0,.pointer (some ⟨d,0,none⟩)),(3,.slice C q G),(5,.int .i64 (i:Int)),(7,.int .i64 most),(8,.pointer (some ⟨y,0,none⟩)),(9,.int .i64 (k:Int)),(10,.pointer (some ⟨H,0,none⟩)),(27,.int .i64 (q:Int)),(28,.int .i64 (i:Int))]) (fun(H,cell)=>[As.blk H 102 [.bool cell,.bool false,.int .i64 0,.int .i64 0],As.gP 70 d]) (fun(H,cell)=>(cell=false→most≠0)∧True) Q ?_ ?_
   ·
    refine cm ?_;have O:=Q;refine(c6) kh (bR O.e1 (m:=3) (by omega)) ?_;rintro _ C9 ⟨z7,rfl,ZQ,G6,P1⟩;have fb:=St.lr O P1;have G6:=G6 (by omega);refine(c7) (fun Pa=>?_) (fun Pa=>?_)
    ·
     refine cM ?_;refine WP .r (PV.bA (us:=_) vB rfl rfl rfl)<|(fF) fb fun H Aw FM FN eH=>?_;refine(dH) vG eH fun DH Ap uV gC=>?_;refine nx ?_;exact lK (H,true) ⟨gC,⟨(fun h=>by cases h),trivial⟩⟩
    refine cM ?_;refine WP .r (PV.bA (us:=_) vB rfl rfl rfl)<|(fF) fb fun H Aw FM FN eH=>?_;refine(dH) vG eH fun DH Jj zt gC=>?_;refine nx ?_;exact lK (H,decide (most=0)) ⟨gC,⟨fun h=>by simpa using h,trivial⟩⟩
   rintro⟨H,cell⟩ C9 O ⟨jK,_⟩;simp only [CA,NA] at O jK ⊢;refine(bF) ed O.b0<|cm ?_;have fb:=O;refine WC.hI (σ:=Int) [] (fun m2=>[(0,.pointer (some ⟨d,0,none⟩)),(3,.slice C q G),(5,.int .i64 (i:Int)),(7,.int .i64 most),(8,.pointer (some ⟨y,0,none⟩)),(9,.int .i64 (k:Int)),(10,.pointer (some ⟨H,0,none⟩)),(11,.int .i64 m2),(27,.int .i64 (q:Int)),(28,.int .i64 (i:Int))]) (fun m2=>[]) (fun m2=>(m2=if cell then 4 else eR l1 i)∧True) fb ?_ ?_
   ·
    refine(bl) (fun P2=>?_) fun P2=>?_
    ·
     refine cM ?_;exact lK (4) ⟨fb,⟨by rw [P2];rfl,trivial⟩⟩
    have P2:cell=false:=by simpa using P2
    refine nx ?_;exact lK (most) ⟨fb,⟨by rw [P2,G2];rfl,trivial⟩⟩
   rintro m2 Aw eH ⟨Rm,_⟩;simp only [CA,NA] at eH Rm ⊢
   have FU:1≤m2∧m2≤24:=by
    cases cell
    ·
     simp at Rm;have:=jK rfl;omega
    simp at Rm;omega
   refine dz ?_;have gC:=eH.p1;refine(c6) kh (bR gC.e1 (m:=m2) (by omega)) ?_;rintro _ DH ⟨z8,rfl,ZR,G7,Dt⟩;have jr:=St.lr gC Dt;have G7:=G7 (by omega);refine nx ?_;refine WL.s1 jr.p1 fun DI _ nq=>?_;refine cv ?_;have k9:=nq.p1;refine WC.hI (σ:=Bool) [_] (fun Rn=>[(0,.pointer (some ⟨d,0,none⟩)),(3,.slice C q G),(5,.int .i64 (i:Int)),(7,.int .i64 most),(8,.pointer (some ⟨y,0,none⟩)),(9,.int .i64 (k:Int)),(10,.pointer (some ⟨H,0,none⟩)),(11,.int .i64 m2),(27,.int .i64 (q:Int)),(28,.int .i64 (i:Int)),(92,.bool Rn)]) (fun Rn=>[As.gP 70 d]) (fun Rn=>True) k9 ?_ ?_
   ·
    refine(bF) ed k9.b1<|(c7) (fun Oh=>?_) (fun Oh=>?_)
    ·
     refine nx ?_;have ou:=k9;refine(c6) kh (bR ou.e1 (m:=2) (by omega)) ?_;rintro _ FY ⟨z9,rfl,ZS,G8,P3⟩;have qi:=St.lr ou P3;have G8:=G8 (by omega);refine cM ?_;exact lK (decide (z9=0)) ⟨qi,trivial⟩
    refine dz ?_;exact lK (false) ⟨k9,trivial⟩
   rintro Rn FY ou _;simp only [CA,NA] at ou ⊢;refine nx ?_;have qi:=ou.p1;refine WC.hI (σ:=Int) [_,_] (fun L=>[(0,.pointer (some ⟨d,0,none⟩)),(3,.slice C q G),(5,.int .i64 (i:Int)),(7,.int .i64 most),(8,.pointer (some ⟨y,0,none⟩)),(9,.int .i64 (k:Int)),(10,.pointer (some ⟨H,0,none⟩)),(11,.int .i64 m2),(27,.int .i64 (q:Int)),(28,.int .i64 (i:Int))]) (fun L=>[As.blk H 102 [.bool cell,.bool false,.int .i64 L,.int .i64 0],As.gP 70 d]) (fun L=>(0≤L)∧(L<m2)∧True) qi ?_ ?_
   ·
    refine(bl) (fun g92=>?_) fun g92=>?_
    ·
     refine fE ?_;have js:=qi.p1;refine(c6) kh (bR js.e1 (m:=(min m2 3)) (by omega)) ?_;rintro _ JN ⟨z10,rfl,WZ,Dv,qa⟩;have V:=St.lr js qa;have Dv:=Dv (by omega);refine cm ?_;refine WL.s1 V.p1 fun GU _ mu=>?_;refine nx ?_;exact lK (m2 - 1 - z10) ⟨mu,⟨by omega,by omega,trivial⟩⟩
    refine nx ?_;exact lK (z8) ⟨qi,⟨by omega,by omega,trivial⟩⟩
   rintro L JN js ⟨ZT,ZU,_⟩;simp only [CA,NA] at js ZT ZU ⊢;refine cM ?_;have V:=js.p1;refine WC.hI (σ:=Bool) [_] (fun Dw=>[(0,.pointer (some ⟨d,0,none⟩)),(3,.slice C q G),(5,.int .i64 (i:Int)),(7,.int .i64 most),(8,.pointer (some ⟨y,0,none⟩)),(9,.int .i64 (k:Int)),(10,.pointer (some ⟨H,0,none⟩)),(11,.int .i64 m2),(27,.int .i64 (q:Int)),(28,.int .i64 (i:Int)),(114,.bool Dw)]) (fun Dw=>[As.gP 70 d]) (fun Dw=>(Dw=true→l1[i].ring=false∧xs.length≠0)∧True) V ?_ ?_
   ·
    refine(bF) ed V.b3<|(c7) (fun P4=>?_) (fun P4=>?_)
    ·
     refine(bF) ma V.b3<|(c7) (fun AA=>?_) (fun AA=>?_)
     ·
      refine nx ?_;have mu:=V;refine(c6) kh (bR mu.e1 (m:=3) (by omega)) ?_;rintro _ GU ⟨z11,rfl,W0,Dx,Du⟩;have ik:=St.lr mu Du;have Dx:=Dx (by omega);refine cM ?_;exact lK (decide (z11=1)) ⟨ik,⟨fun _=>⟨by simpa using P4,by have h0:=AA;simp at h0;omega⟩,trivial⟩⟩
     refine dz ?_;exact lK (false) ⟨V,⟨(fun h=>by cases h),trivial⟩⟩
    refine hY ?_;exact lK (false) ⟨V,⟨(fun h=>by cases h),trivial⟩⟩
   rintro Dw GU mu ⟨hb,_⟩;simp only [CA,NA] at mu hb ⊢;refine nx ?_;have ik:=mu.p1;refine WC.hI (σ:=Bool × Int) [_,_] (fun(P,N)=>[(0,.pointer (some ⟨d,0,none⟩)),(3,.slice C q G),(5,.int .i64 (i:Int)),(7,.int .i64 most),(8,.pointer (some ⟨y,0,none⟩)),(9,.int .i64 (k:Int)),(10,.pointer (some ⟨H,0,none⟩)),(27,.int .i64 (q:Int)),(28,.int .i64 (i:Int))]) (fun(P,N)=>[As.blk H 102 [.bool cell,.bool P,.int .i64 L,.int .i64 N],As.gP 70 d]) (fun(P,N)=>(P=true→l1[i].ring=false∧xs.length≠0∧0≤N∧N<m2)∧(P=false→N=0)∧True) ik ?_ ?_
   ·
    refine(bl) (fun yy=>?_) fun yy=>?_
    ·
     refine cM ?_;have uc:=ik.p1;refine(c6) kh (bR uc.e1 (m:=m2) (by omega)) ?_;rintro _ JP ⟨z12,rfl,W1,Dy,P5⟩;have mw:=St.lr uc P5;have Dy:=Dy (by omega);refine nx ?_;refine WL.s1 mw.p1 fun KT _ tZ=>?_;refine nx ?_;refine WL.s1 tZ fun OK _ yu=>?_;refine nx ?_;exact lK (true,z12) ⟨yu,⟨fun _=>⟨(hb yy).1,(hb yy).2,by omega,by omega⟩,(fun h=>by cases h),trivial⟩⟩
    refine nx ?_;exact lK (false,0) ⟨ik,⟨(fun h=>by cases h),fun _=>rfl,trivial⟩⟩
   rintro⟨P,N⟩ JP uc ⟨ZW,LJ,_⟩;simp only [CA,NA] at uc ZW LJ ⊢;refine(bF) ma uc.b3<|(bS) mS uc.b0<|?_;refine WL.go rfl (OX.bf (us:=(Ask.mk cell P L N).cells) Cx rfl rfl rfl rfl fun AB KT P6 P7=>?_);have mw:=uc.dG P6 P7;have hzs:=mw.size;refine WL.ap rfl rfl mw.p3 (SR.dU (A:=fun _=>True) (x:=Ask.mk cell P L N) (As.gb mw.g0) trivial rfl (by simp [Ask.cells,Value.oneCell']) rfl) fun a124 P8 OK P9 ZX tZ=>?_;refine nx ?_;refine WL.s1 tZ.p4 fun UI _ yu=>?_;refine ho ?_;refine fJ (k - 1,xs++[⟨cell,P,L,N⟩],a124,(U+1),P8) ⟨yu.p2.drop.p2.drop.p1,⟨fun x u=>(P9 x u).elim (WY x) (Nat.le_trans hzs),by simp;omega,zF Hv (HM (x:=⟨cell,P,L,N⟩) Rm ZT ZU ZW LJ),trivial⟩⟩
  simp at K5
  refine dz ?_;have Gd:=Gd xs;have Q:=ig.dM (by omega);have qz:=hZ.trans (eI.uS (F:=fun x=>x∈bN R) WY) (Nat.le_refl _);refine(bS) Cs Q.b1<|?_;refine WP .r (PV.ef iI vV rfl rfl (by omega))<|?_;refine WL.go rfl (OX.Lt (i:=i) EY (As.gs Q.g3) vV T rfl rfl rfl (by simp [Value.oneCell']) ⟨l1[i].ring,xs,f0,c0⟩ ⟨R,U,yx,rfl,(As.gr Q.g0)⟩ fun C9 s8 h8=>?_);have O:=Q.p3.gK s8 h8 (fun x h=>.inl h);refine eE ?_;refine fJ (i+1,l1.set i ⟨l1[i].ring,xs,f0,c0⟩,_) ⟨O.p1.drop.p1.drop.p1,⟨by omega,ia.set Rl T (bm T).symm ⟨show xs.length≤6 by omega,Hv,Gd⟩,qz,trivial⟩⟩
 simp at DJ
 have Rk:i=l1.length:=by omega
 subst Rk;have hRk:=Rl.ok;refine(bJ) ?_;exact⟨_,_,_,l1,_,rfl,hRk,by omega,by omega,hZ,S⟩
set_option maxHeartbeats 400000
theorem qo{p:Key→Bool}(q:CF prog f) (hl:Rd RR.key 2 Z w a n c l) (s:∀w1,aQ [] w w1→∀x∈l,Calls prog f #[x.val,cap] w1 fun e w'=>e=.returned (.bool (p x))∧aQ [] w1 w'):Calls prog 109 #[.slice a n c,.func (.func f) #[] #[cap]] w fun e w'=>∃j:Int,e=.returned (.int .i64 j)∧pn l p j∧aQ [] w w':=by
 have hlen:=hl.len;have hle:=hl.le;refine enter func109 rfl ntmps109 rfl<|?_;have aM:=St.s0 w;refine ba ?_;refine cm ?_;refine WC.bq (σ:=Nat) (cX:=fun i=>[(0,.slice a n c),(1,.func (.func f) #[] #[cap]),(7,.int .i64 (n:Int)),(8,.int .i64 (i:Int))]) (F:=fun i=>[]) (I:=fun i=>(i≤n)∧(∀j x,j<i→l[j]?=some x→p x=false)∧True) (μ:=fun i=>n - i) (0) (aM) Sub.t (⟨by omega,fun j x h=>by omega,trivial⟩)<|?_;rintro i w1 st1 ⟨hi,b,_⟩;simp only [CA,NA] at st1 hi b ⊢;refine(bl) (fun g9=>?_) fun g9=>?_
 ·
  simp at g9
  have g:i<l.length:=by omega
  refine hY ?_;obtain⟨B,C,E,u,G,o,v,H⟩:=Rd.at hl g;have o:=RR.bp o;subst o;refine cv ?_;refine WP .r (PV.ef fR u rfl rfl (by omega))<|(bS) aq (aS v (St.cg st1) (by simp))<|?_;refine WL.go rfl (OX.jz q rfl rfl rfl ((Calls.cap (s _ (St.cg st1) l[i] (List.getElem_mem g))).mono ?_));rintro _ w2 ⟨rfl,s2⟩;refine⟨_,rfl,?_⟩;have st2:=st1.step s2;refine(bl) (fun g16=>?_) fun g16=>?_
  ·
   refine(bJ) ?_;exact⟨_,rfl,.inl ⟨i,_,ah g,g16,b,rfl⟩,(St.cg st2)⟩
  have g16:p l[i]=false:=by simpa using g16
  refine eE ?_;refine fJ (i+1) ⟨st2,⟨by omega,cL g b (by simpa using g16),trivial⟩⟩
 simp at g9
 have y:∀x∈l,p x=false:=fun x z=>by obtain⟨j,A,rfl⟩:=List.getElem_of_mem z;exact b j _ (by omega) (ah A)
 refine(bJ) ?_;exact⟨_,rfl,.inr ⟨y,rfl⟩,(St.cg st1)⟩
theorem mj{p:Key→Bool}(b:CF prog f) (hl:Rd RR.key 2 Z w a n c l) (g:∀w1,aQ [] w w1→∀x∈l,Calls prog f #[x.val,cap] w1 fun e w'=>e=.returned (.bool (p x))∧aQ [] w1 w'):CR prog 64 #[.slice a n c,.func (.func f) #[] #[cap]] w (.bool (l.any p)):=by
 refine enter func64 rfl ntmps64 rfl<|?_;have aM:=St.s0 w;refine(c6) CO (qo (w:=w) b (hl.ext (St.cg aM)) (fun w1 h1=>g w1 (aQ.trans (St.cg aM) h1))) ?_;rintro _ w1 ⟨j,rfl,h,s1⟩;have st1:=aM.step s1;have i:=h.any;refine(bJ) ?_;exact⟨by rw [i],(St.cg st1)⟩
set_option maxHeartbeats 400000
set_option maxHeartbeats 400000
set_option maxHeartbeats 400000
set_option maxHeartbeats 400000
end Go.Rc

