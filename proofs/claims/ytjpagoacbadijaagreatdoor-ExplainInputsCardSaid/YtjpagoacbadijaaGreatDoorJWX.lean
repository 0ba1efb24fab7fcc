/- Walks over the program, part WX. Conditions: as each theorem says. -/
import Derived.Test.YtjpagoacbadijaaGreatDoorJFacts
import Derived.Test.YtjpagoacbadijaaGreatDoorJWU
import Derived.Test.YtjpagoacbadijaaGreatDoorJBf
import Derived.Test.YtjpagoacbadijaaGreatDoorJWB
import Derived.Test.YtjpagoacbadijaaGreatDoorJBh
import Derived.Test.YtjpagoacbadijaaGreatDoorShelf
import Derived.Test.YtjpagoacbadijaaGreatDoorJWLibE
import Derived.Test.YtjpagoacbadijaaGreatDoorJBd
import Derived.Test.YtjpagoacbadijaaGreatDoorJWP
import Derived.Test.YtjpagoacbadijaaGreatDoorJWD
set_option linter.all false
namespace Go.Rc
open Go Go.Proofs Go.Proofs.Tryz
variable {n c n1 e1 n2 e2 r d:Nat}{w:World}{a a1 a2:Option Addr}{aa:List az}{k:Key}{l:List Key}{f:FuncId}{Z M:Nat→Prop}{x:cI}{D:SD}{m:Int}
set_option maxHeartbeats 400000
theorem rU{n:Int} :CR prog 201 #[.int .i64 n] w (.bool false):=by
 refine enter func201 rfl ntmps201 rfl<|?_;have aO:=St.s0 w;refine aN ?_;refine(bF) ?_;exact⟨by simp,(St.cg aO)⟩
theorem vF{a b:Int} :CR prog 150 #[.int .i64 a,.int .i64 b] w (.int .i64 (sn a b)):=by
 refine enter func150 rfl ntmps150 rfl<|?_;have aO:=St.s0 w;refine(eZ) (rU) aO fun w1 s1 st1=>?_;refine(eZ) (rU) st1 fun w2 s2 st2=>?_;refine px ?_;refine WC.fP rfl<|jx ?_;refine WC.fP rfl<|(aP) (fun g16=>?_) fun g16=>?_
 ·
  simp at g16
  refine(bF) ?_;exact⟨by unfold sn;rw [if_pos g16],(St.cg st2)⟩
 simp at g16
 refine(aP) (fun g19=>?_) fun g19=>?_
 ·
  simp at g19
  refine(bF) ?_;exact⟨by unfold sn;rw [if_neg (by omega),if_pos g19],(St.cg st2)⟩
 simp at g19
 refine(bF) ?_;exact⟨by unfold sn;rw [if_neg (by omega),if_neg (by omega)],(St.cg st2)⟩
theorem vG{l:List Int}{A:Nat→Prop}(hl:Ints A w a n c l):CR prog 149 #[.slice a n c] w (.int .i64 (JP l)):=by
 have hle:=SR.le hl;have hlen:=SR.len hl;refine enter func149 rfl ntmps149 rfl<|?_;have aO:=St.s0 w;refine aN ?_;refine eL ?_;refine WC.br (σ:=Nat) (cT:=fun i=>[(3,.int .i64 0),(6,.slice a n c),(7,.int .i64 (n:Int)),(8,.int .i64 (i:Int))]) (F:=fun i=>[]) (I:=fun i=>(i≤n)∧(∀j x,j<i→l[j]?=some x→x=0)∧True) (μ:=fun i=>n - i) (0) (aO) Sub.t (⟨by omega,fun j x h=>by omega,trivial⟩)<|?_;rintro i w1 st1 ⟨hi,b,_⟩;simp only [CA,NA] at st1 hi b ⊢;refine(aP) (fun g9=>?_) fun g9=>?_
 ·
  simp at g9
  have e:i<l.length:=by omega
  obtain⟨s,u,v,g,_,rfl,o,_⟩:=(SR.ext hl (St.cg st1)).at (ae e);refine fZ ?_;refine WP .r (PV.dM zI g rfl rfl (by omega))<|WP .r (PV.kc aK o rfl rfl)<|(aP) (fun g14=>?_) fun g14=>?_
  ·
   simp at g14
   refine(bF) ?_;exact⟨by rw [JQ e b g14],(St.cg st1)⟩
  simp at g14
  refine eL ?_;refine dX (i+1) ⟨st1,⟨by omega,cn e b (by simpa using g14),trivial⟩⟩
 simp at g9
 refine(bF) ?_;exact⟨by rw [GF (fun x p=>by obtain⟨j,q,rfl⟩:=List.mem_iff_getElem.1 p;exact b j _ (by omega) (ae q))],(St.cg st1)⟩
theorem mH{a b:Key} :CR prog 120 #[a.val,b.val] w (.int .i64 (bm a b)):=by
 refine enter func120 rfl ntmps120 rfl<|?_;have aO:=St.s0 w;refine(dr) aO fun b2 w1 q s st1=>?_;refine(dr) st1 fun b3 w2 t y st2=>?_;refine cB ?_;have z:=st2.bG;refine WC.cJ (m:=9) (E:=bS [(4,fun v _=>v=.int .i64 (sn a.kind b.kind))]) st2 (aU (⟨fun _ _ _ _ _ _ _ h=>h,trivial⟩)) mixed (by kernel_rfl)<|(gP) aK St.g1<|(gP) aK St.g0<|?_;refine DW.c0 (fun A B C=>vF)<|(gP) eV St.g1<|(gP) eV St.g0<|(cy)<|?_;rintro w3 ⟨F,g⟩ ⟨_,_⟩;refine(eZ) (lZ a.text b.text w3) g fun w4 G i=>?_;refine WL.go rfl (OX.aL (us:=[.int .i64 (sn a.kind b.kind),.int .i64 (Lib.compareBytes a.text.data.toList b.text.data.toList)]) KP rfl rfl rfl rfl fun H w5 j o=>?_);have e:=i.dD j o;refine WL.c1 (u:=.int .i64 (bm a b)) (vG (l:=[sn a.kind b.kind,Lib.compareBytes a.text.data.toList b.text.data.toList]) (SR.Gf (rows:=[[.int .i64 (sn a.kind b.kind)],[.int .i64 (Lib.compareBytes a.text.data.toList b.text.data.toList)]]) (As.gb e.g0) rfl (by simp) (by simp [Value.oneCell']) (by simp) (xe rfl rfl))) (by rw [GG]) e fun w6 I p=>?_;refine(bF) ?_;exact⟨rfl,(St.cg p)⟩
theorem pM(hk:eU aa k):CR prog 200 #[k.val] w (.bool false):=by
 obtain⟨i,gR,b,e⟩:=hk.shape;refine enter func200 rfl ntmps200 rfl<|?_;have aO:=St.s0 w;refine(dr) aO fun b1 w1 g h st1=>?_;refine(bj) ak st1.b0<|(eZ) (fD (k:=k) e b gR) st1 fun w2 s2 st2=>?_;refine(bF) ?_;exact⟨rfl,(St.cg st2)⟩
theorem rV{p:Key→Bool}(q:CF prog f) (hl:Rd RR.key 2 Z w a n c l) (s:∀w1,aJ [] w w1→∀x∈l,Calls prog f #[x.val] w1 fun e w'=>e=.returned (.bool (p x))∧aJ [] w1 w'):Calls prog 123 #[.slice a n c,.func (.func f) #[] #[]] w fun e w'=>∃j:Int,e=.returned (.int .i64 j)∧tH l p j∧aJ [] w w':=by
 have hlen:=hl.len;have hle:=hl.le;refine enter func123 rfl ntmps123 rfl<|?_;have aO:=St.s0 w;refine aN ?_;refine bP ?_;refine WC.br (σ:=Nat) (cT:=fun i=>[(0,.slice a n c),(1,.func (.func f) #[] #[]),(7,.int .i64 (n:Int)),(8,.int .i64 (i:Int))]) (F:=fun i=>[]) (I:=fun i=>(i≤n)∧(∀j x,j<i→l[j]?=some x→p x=false)∧True) (μ:=fun i=>n - i) (0) (aO) Sub.t (⟨by omega,fun j x h=>by omega,trivial⟩)<|?_;rintro i w1 st1 ⟨hi,b,_⟩;simp only [CA,NA] at st1 hi b ⊢;refine(aP) (fun g9=>?_) fun g9=>?_
 ·
  simp at g9
  have g:i<l.length:=by omega
  refine na ?_;obtain⟨B,C,E,u,G,o,v,H⟩:=Rd.at hl g;have o:=RR.bX o;subst o;refine cB ?_;refine WP .r (PV.dM dL u rfl rfl (by omega))<|(bj) ak (aR v (St.cg st1) (by simp))<|?_;refine WL.go rfl (OX.mS q rfl rfl rfl ((Calls.Uk (s _ (St.cg st1) l[i] (List.getElem_mem g))).mono ?_));rintro _ w2 ⟨rfl,s2⟩;refine⟨_,rfl,?_⟩;have st2:=st1.step s2;refine(aP) (fun g16=>?_) fun g16=>?_
  ·
   refine(bF) ?_;exact⟨_,rfl,.inl ⟨i,_,ae g,g16,b,rfl⟩,(St.cg st2)⟩
  have g16:p l[i]=false:=by simpa using g16
  refine eL ?_;refine dX (i+1) ⟨st2,⟨by omega,cn g b (by simpa using g16),trivial⟩⟩
 simp at g9
 have y:∀x∈l,p x=false:=fun x z=>by obtain⟨j,A,rfl⟩:=List.getElem_of_mem z;exact b j _ (by omega) (ae A)
 refine(bF) ?_;exact⟨_,rfl,.inr ⟨y,rfl⟩,(St.cg st1)⟩
theorem nM{p:Key→Bool}(b:CF prog f) (hl:Rd RR.key 2 Z w a n c l) (g:∀w1,aJ [] w w1→∀x∈l,Calls prog f #[x.val] w1 fun e w'=>e=.returned (.bool (p x))∧aJ [] w1 w'):CR prog 84 #[.slice a n c,.func (.func f) #[] #[]] w (.bool (l.any p)):=by
 refine enter func84 rfl ntmps84 rfl<|?_;have aO:=St.s0 w;refine(cA) EO (rV (w:=w) b (hl.ext (St.cg aO)) (fun w1 h1=>g w1 (aJ.trans (St.cg aO) h1))) ?_;rintro _ w1 ⟨j,rfl,h,s1⟩;have st1:=aO.step s1;have i:=h.any;refine(bF) ?_;exact⟨by rw [i],(St.cg st1)⟩
set_option maxHeartbeats 1600000 in
theorem rW{x:Rec}(hk:Rd RR.key 2 Z w a n c x.reads) (C:D0 aa x):CR prog 148 #[.agg (x.row a n c).toArray] w (.bool true):=by
 have hlen:=hk.len;obtain⟨h1,E,F,A⟩:=C;obtain⟨i,gR,G,H⟩:=h1.shape;have I:=h1.eC;rw [eG] at A;obtain⟨_,_,_,v4,v5,v6,L,N,v9,v10,v11⟩:=A;refine enter func148 rfl ntmps148 rfl<|?_;have aO:=St.s0 w;refine(dr) aO fun b1 w1 O P st1=>?_;refine cW ?_;refine WC.dA (t:=34) (v:=.bool false) st1 ?_<|?_
 ·
  refine(jJ) ak st1.b0<|(eZ) (fD (k:=x.key) H G gR) st1 fun w2 s2 st2=>?_;refine(jJ) ak st2.b0<|?_;refine WL.c1 (u:=.bool false) (cM (k:=x.key)) (by rw [E]) st2 fun w3 J g=>?_;refine(bp) eV g.b0<|(cz) (fun g19=>?_) (fun g19=>?_)
  ·
   refine aN ?_;exact(bW) (by first | (simp only [g19];done) | (simp [g19];done) | (have h:x.key.kind=32:=nk h1 (by simpa [g19] using v11);simp [g19,h];done) | (simp at g19 ⊢ <;> omega) | (simp [g19] <;> omega)) (g)
  refine(bp) gw g.b0<|(cz) (fun b=>?_) (fun b=>?_)
  ·
   exact(bW) (by first | (simp only [g19,b];done) | (simp [g19,b];done) | (have h:x.key.kind=32:=nk h1 (by simpa [g19,b] using v11);simp [g19,b,h];done) | (simp at g19 b ⊢ <;> omega) | (simp [g19,b] <;> omega)) (g)
  refine(bp) di g.b0<|(cz) (fun e=>?_) (fun e=>?_)
  ·
   refine(jJ) ak g.b0<|(eZ) (jk (k:=x.key) I) g fun w4 Q K=>?_;exact(bW) (by first | (simp only [g19,b,e];done) | (simp [g19,b,e];done) | (have h:x.key.kind=32:=nk h1 (by simpa [g19,b,e] using v11);simp [g19,b,e,h];done) | (simp at g19 b e ⊢ <;> omega) | (simp [g19,b,e] <;> omega)) (K)
  exact(bW) (by first | (simp only [g19,b,e];done) | (simp [g19,b,e];done) | (have h:x.key.kind=32:=nk h1 (by simpa [g19,b,e] using v11);simp [g19,b,e,h];done) | (simp at g19 b e ⊢ <;> omega) | (simp [g19,b,e] <;> omega)) (g)
 intro w2 st2;refine(aP) (fun B=>?_) fun B=>?_
 ·
  exact ep B
 refine jx ?_;refine WC.ja (t:=2) (v:=.bool true) st2 ?_<|?_
 ·
  refine(bp) aK st2.b0<|(cz) (fun j=>?_) (fun j=>?_)
  ·
   refine(bp) aK st2.b0<|(bp) aK st2.b0<|(cz) (fun o=>?_) (fun o=>?_)
   ·
    refine(bp) aK st2.b0<|(cz) (fun q=>?_) (fun q=>?_)
    ·
     refine(bp) aK st2.b0<|(cz) (fun s=>?_) (fun s=>?_)
     ·
      refine(bp) aK st2.b0<|(cz) (fun z=>?_) (fun z=>?_)
      ·
       refine(bp) gw st2.b0<|nx ?_;refine WL.c1 (u:=.bool false) (nM (p:=fun _=>false) Qp (hk.ext (St.cg st2)) (fun w1 _ y hy=>pM (F y hy))) (by rw [List.any_eq_false.2 (fun _ _=>by simp)]) st2 fun w3 J g=>?_;exact(eT) (tG (aj j<|aj o<|aj q<|aj s z)) (g)
      exact(eT) (tG (aj j<|aj o<|aj q<|aj s z)) (st2)
     refine aN ?_;exact(eT) (tG (aj j<|aj o<|aj q s)) (st2)
    refine aN ?_;exact(eT) (tG (aj j<|aj o q)) (st2)
   refine aN ?_;exact(eT) (tG (aj j o)) (st2)
  refine aN ?_;refine aN ?_;exact(eT) (tG j) (st2)
 intro w3 g;refine(bF) ?_;exact⟨rfl,(St.cg g)⟩
theorem nN{l:List Rec}(hl:Rd RR.e8 8 Z w a n c l) (s:∀x∈l,D0 aa x) (u:pA l) (N:l.length≤4000):CR prog 118 #[.slice a n c] w (.bool true):=by
 have hlen:=hl.len;have hle:=hl.le;refine enter func118 rfl ntmps118 rfl<|?_;have aO:=St.s0 w;refine aN ?_;refine bP ?_;refine WC.br (σ:=Nat) (cT:=fun j=>[(0,.slice a n c),(5,.slice a n c),(6,.int .i64 (n:Int)),(7,.int .i64 (j:Int))]) (F:=fun j=>[]) (I:=fun j=>(j≤n)∧True) (μ:=fun j=>n - j) (0) (aO) Sub.t (⟨by omega,trivial⟩)<|?_;rintro j w1 st1 ⟨y,_⟩;simp only [CA,NA] at st1 y ⊢;refine(aP) (fun g8=>?_) fun g8=>?_
 ·
  simp at g8
  have i:j<l.length:=by omega
  refine cW ?_;obtain⟨O,P,Q,z,R,A,B,S⟩:=Rd.at hl i;obtain⟨q1,T,U,rfl,C,V⟩:=A;refine bP ?_;refine WP .r (PV.dM iG z rfl rfl (by omega))<|(bj) dC (aR B (St.cg st1) (by simp))<|(ft) st1 fun b4 w2 W X st2=>?_;refine(dh) fA st2 fun w3 Y mK o=>?_;refine ct ?_;refine WC.dA (t:=30) (v:=.bool false) o ?_<|?_
  ·
   have Tx:=o.bG;refine WC.cJ (m:=15) (E:=bS [(1,fun v _=>v=.bool true)]) o (aU (⟨fun _ _ _ _ _ _ _ h=>h,trivial⟩)) mixed (by kernel_rfl)<|(fk) dC St.g0<|?_;refine DW.c0 (fun wx g hF=>rW (C.ext (St.cg g.2)) (s _ (List.getElem_mem i)))<|(lP) (fun g18=>?_) (fun g18=>?_)
   ·
    have RM:1≤j:=by have h0:=g18;simp at h0;omega
    have p:j - 1<l.length:=by omega
    have vY:bm l[j - 1].key l[j].key<0:=List.pairwise_iff_getElem.1 u (j - 1) j p i (by simp at g18;omega);obtain⟨oz,Ae,xN,G,pc,H,J,jG⟩:=Rd.at hl p;obtain⟨p1,p2,p3,rfl,_,_⟩:=H;refine ct ?_;refine DP .r (fun _ g=>PV.CZ iG (j - 1) G rfl rfl (by omega) (by omega))<|nx ?_;refine DP .r (fun _ g=>PV.CY ak (aR J (St.cg g.2) (by simp)) rfl rfl)<|(tu) ak St.g0<|(cy)<|?_;rintro w4 ⟨K,e⟩ ⟨_,_⟩;refine(eZ) (mH (a:=l[j - 1].key) (b:=l[j].key)) e fun w5 s5 L=>?_;exact(bW) (tG g18) (L)
   refine(cy) ?_;rintro w4 ⟨K,e⟩ ⟨_,_⟩;exact(bW) (tG g18) (e)
  intro w4 e;refine(aP) (fun q=>?_) fun q=>?_
  ·
   exact ep q
  refine eL ?_;refine dX (j+1) ⟨e.drop,⟨by omega,trivial⟩⟩
 simp at g8
 refine aN ?_;refine(bF) ?_;exact⟨by simp;omega,(St.cg st1)⟩
theorem rX{i:Nat}(gR:i≤99) (hk:k=⟨30,itoa i⟩):CR prog 119 #[k.val] w (.bool true):=by
 subst hk;refine enter func119 rfl ntmps119 rfl<|?_;have aO:=St.s0 w;refine(dr) aO fun b1 w1 e g st1=>?_;refine(bj) ak st1.b0<|(eZ) (fD (k:=⟨30,itoa i⟩) ⟨(by decide:(30:Int)≤30),(by decide:(30:Int)≤32)⟩ rfl gR) st1 fun w2 s2 st2=>?_;refine(bj) ak st2.b0<|?_;refine WL.c1 (u:=.bool true) (cM (k:=⟨30,itoa i⟩)) (by rw [show aw ⟨30,itoa i⟩=true from rfl]) st2 fun w3 h b=>?_;refine(bF) ?_;exact⟨rfl,(St.cg b)⟩
set_option maxHeartbeats 1600000 in
set_option maxRecDepth 100000 in
theorem oC(hi:Rd RR.aC 4 Z w a1 n1 e1 x.ab) (hr:Rd RR.e8 8 Z w a2 n2 e2 x.ah) (T:kQ aa x):CR prog 83 #[.agg (x.row a1 n1 e1 a2 n2 e2).toArray] w (.bool true):=by
 obtain⟨x0,x1,N,U,x6,V,xs,W,X⟩:=T;have eS:=hi.len;have HX:=hi.le;have Ma:=hr.len;refine enter func83 rfl ntmps83 rfl<|?_;have aO:=St.s0 w;refine(dr) aO fun b1 w1 V9 F3 st1=>?_;refine cW ?_;refine WC.dA (t:=24) (v:=.bool false) st1 ?_<|?_
 ·
  refine(bp) aK st1.b0<|(cz) (fun g8=>?_) (fun g8=>?_)
  ·
   refine aN ?_;exact(bW) (tG g8) (st1)
  refine(bp) aK st1.b0<|(cz) (fun g13=>?_) (fun g13=>?_)
  ·
   exact(bW) (tG (aj g8 g13)) (st1)
  refine(bp) jD st1.b0<|(cz) (fun g19=>?_) (fun g19=>?_)
  ·
   exact(bW) (tG (aj g8<|aj g13 g19)) (st1)
  refine(bp) el st1.b0<|(eZ) (nN (hr.ext (St.cg st1)) V xs W) st1 fun w2 s2 st2=>?_;exact(bW) (tG (aj g8<|aj g13 g19)) (st2)
 intro w2 st2;refine(aP) (fun g24=>?_) fun g24=>?_
 ·
  exact ep g24
 refine(bp) jD st2.b0<|cW ?_;refine WC.br (σ:=Nat) (cT:=fun j=>[(1,.pointer (some ⟨b1,0,none⟩)),(26,.slice a1 n1 e1),(27,.int .i64 (n1:Int)),(28,.int .i64 (j:Int))]) (F:=fun j=>[]) (I:=fun j=>(j≤n1)∧True) (μ:=fun j=>n1 - j) (0) (st2) Sub.t (⟨by omega,trivial⟩)<|?_;rintro j w3 q ⟨Y,_⟩;simp only [CA,NA] at q Y ⊢;refine(aP) (fun G=>?_) fun G=>?_
 ·
  simp at G
  have B:j<x.ab.length:=by omega
  obtain⟨y,hy⟩:∃y,x.ab[j]=y:=⟨_,rfl⟩;obtain⟨i,gR,hyk⟩:=U _ (hy ▸ List.getElem_mem B);obtain⟨_,_,hv,S7,hc1⟩:=N.2 _ (hy ▸ List.getElem_mem B);refine cW ?_;obtain⟨jf,pG,mF,cx,iB,H,O,fB⟩:=Rd.at hi B;have H:=RR.bX H;subst H;rw [hy] at O
  have P:j - 1<x.ab.length:=by omega
  obtain⟨z,Q⟩:∃z,x.ab[j - 1]=z:=⟨_,rfl⟩;refine bP ?_;refine WP .r (PV.dM pF cx rfl rfl (by omega))<|(bj) hI (aR O (St.cg q) (by simp))<|(ft) q fun b4 w4 E0 I3 J=>?_;refine(dh) oZ J fun w5 l4 mK K=>?_;refine ct ?_;refine WC.dA (t:=71) (v:=.bool false) K ?_<|?_
  ·
   have LY:=K.bG;refine WC.cJ (m:=37) (E:=bS [(2,fun v _=>v=.bool true),(17,fun v _=>v=.int .i64 (bm z.key y.key))]) K (aU (⟨fun _ _ _ _ _ _ _ h=>h,⟨fun _ _ _ _ _ _ _ h=>h,trivial⟩⟩)) mixed (by kernel_rfl)<|(tu) ak St.g0<|?_;refine DW.c0 (fun wx C hF=>rX gR hyk)<|(lP) (fun g=>?_) (fun g=>?_)
   ·
    have RM:1≤j:=by have h0:=g;simp at h0;omega
    have vY:bm z.key y.key<0:=by rw [← hy,← Q];exact List.pairwise_iff_getElem.1 N.1 (j - 1) j P B (by omega)
    obtain⟨oz,Ae,xN,hU,pc,L,R,jG⟩:=Rd.at hi P;have L:=RR.bX L;subst L;rw [Q] at R;refine(gP) jD St.g1<|bP ?_;refine DP .r (fun _ C=>PV.CZ pF (j - 1) hU rfl rfl (by omega) (by omega))<|nx ?_;refine DP .r (fun _ C=>PV.CY ak (aR R (St.cg C.2) (by simp)) rfl rfl)<|(tu) ak St.g0<|?_;refine DW.c0 (fun wx C hF=>mH (a:=z.key) (b:=y.key))<|(lP) (fun A=>?_) (fun A=>?_)
    ·
     refine aN ?_;refine(cy) ?_;rintro w6 ⟨u,e⟩ ⟨_,⟨_,_⟩⟩;exact(bW) (tG (aj g A)) (e)
    refine(gP) eV St.g0<|(lP) (fun o=>?_) (fun o=>?_)
    ·
     refine(cy) ?_;rintro w6 ⟨u,e⟩ ⟨_,⟨_,_⟩⟩;exact(bW) (tG (aj g<|aj A o)) (e)
    refine(gP) aK St.g0<|(lP) (fun s=>?_) (fun s=>?_)
    ·
     refine(cy) ?_;rintro w6 ⟨u,e⟩ ⟨_,⟨_,_⟩⟩;exact(bW) (tG (aj g<|aj A<|aj o s)) (e)
    refine(gP) aK St.g0<|(gP) aK St.g1<|(cy)<|?_;rintro w6 ⟨u,e⟩ ⟨_,⟨_,_⟩⟩;exact(bW) (tG (aj g<|aj A<|aj o s)) (e)
   refine aN ?_;refine(gP) eV St.g0<|(lP) (fun o=>?_) (fun o=>?_)
   ·
    refine(cy) ?_;rintro w6 ⟨u,e⟩ ⟨_,_⟩;exact(bW) (tG (aj g o)) (e)
   refine(gP) aK St.g0<|(lP) (fun s=>?_) (fun s=>?_)
   ·
    refine(cy) ?_;rintro w6 ⟨u,e⟩ ⟨_,_⟩;exact(bW) (tG (aj g<|aj o s)) (e)
   refine(gP) aK St.g0<|(gP) aK St.g1<|(cy)<|?_;rintro w6 ⟨u,e⟩ ⟨_,_⟩;exact(bW) (tG (aj g<|aj o s)) (e)
  intro w6 e;refine(aP) (fun S=>?_) fun S=>?_
  ·
   exact ep S
  refine eL ?_;refine dX (j+1) ⟨e.drop,⟨by omega,trivial⟩⟩
 simp at G
 refine(bp) el q.b0<|?_;refine WP .r (PV.func (us:=[]) (vs:=[.pointer (some ⟨b1,0,none⟩)]) rfl rfl)<|(eZ) (oA (p:=fun r=>decide (x.ad<r.aq)) PX (hr.ext (St.cg q)) (fun wq hq y _ a n c _=>oB ((As.gb q.g0).ext hq)) (fun y hy=>by have:=X y hy;simp;omega)) q fun w4 s4 J=>?_;refine(bF) ?_;exact⟨by simp,(St.cg J)⟩
theorem yq(g:St w M Z w [As.os RR.key 39 2 a n c l]) (h0:l≠[]) (hn:l.length≤1000000):Calls prog 158 #[.slice a n c,.func (.func 120) #[] #[]] w fun e w'=>e=.returned (.tuple #[])∧∃l',l'.Perm l∧(l'.Pairwise fun x y=>¬bm y x<0)∧St w M Z w' [As.os RR.key 39 2 a n c l']:=
 Co (row:=Key.cells) (key:=fun x=>x) (fun _=>rfl) (fun x v b=>by(simp [Key.cells] at b;rcases b with rfl | rfl <;> rfl)) (fun blk cap d w hc hH hb h=>slices_SortFunc 2 isAgg39 sizeOf39 Key.cells (fun _=>rfl) (fun x v b=>by(simp [Key.cells] at b;rcases b with rfl | rfl <;> rfl)) _ GW 120 #[] blk 0 cap d w ID hc hH hb h) (fun x y w=>mH) g h0 hn
set_option maxHeartbeats 400000
set_option maxHeartbeats 1600000 in
theorem ma{goals:List Key}{ar Q:Option Addr}{cr g eg f:Nat}{s':ES}(R:ao aa) (gq:St w M Z w []) (hu:Rd RR.fl 4 Z w ar r cr aa) (hi:Rd RR.aC 4 Z w a1 n1 e1 x.ab) (hr:Rd RR.e8 8 Z w a2 n2 e2 x.ah) (S:Rd RR.key 2 Z w Q g eg goals) (ht:jM prog Z w) (Yg:e7 aa x goals=0) (Gb:Good aa x.ab ⟨x,[],[],0⟩) (hk:∀k∈goals,eU aa k) (T:x.ab.length≤1000000)
 (Fp:cD aa (valOf aa x.ab) f ⟨x,[],[],0⟩ goals=some s') (x8:s'.cw.length≤1000000):Calls prog 13 #[.slice ar r cr,.agg (x.row a1 n1 e1 a2 n2 e2).toArray,.slice Q g eg] w fun e w'=>∃a1' n1' e1' a2' n2' e2' ag' g' eg' Z',e=.returned (.tuple #[.agg ((s'.base x).row a1' n1' e1' a2' n2' e2').toArray,.slice ag' g' eg',.int .i64 s'.e])∧dV w.heap.size Z Z'∧Rd RR.aC 4 Z' w' a1' n1' e1' (s'.base x).ab∧Rd RR.e8 8 Z' w' a2' n2' e2' (s'.base x).ah∧St w M Z' w' [As.os RR.key 39 2 ag' g' eg' s'.list]:=by
 have hgn:=S.len;have Nu:=S.le
 have h6:x.ah.length≤1000000:=by have:=Gb.len;simp only at this;omega
 refine enter func13 rfl ntmps13 rfl<|?_;have aO:=St.rb gq;have st1:=aO.fr hu;have st2:=st1.fr hi;have jg:=st2.fr hr;have iH:=jg.fr S;have l5:=iH.fact (B:=As.fz (FZ.F0 prog)) ht (fun _ hx=>hx);refine(dr) l5 fun b4 w1 E0 I3 ks=>?_;refine(ft) ks fun b6 w2 BA F6 jn=>?_;refine(bj) bz jn.b1<|?_;have K:=jn;refine(cA) EJ (gV K.e0 (As.gr K.g5) (As.gr K.g4) h6 T) ?_;rintro _ w3 ⟨f1,f2,f3,f4,f5,f6,Z1,rfl,FD,U⟩;have kz:=St.lv K U FD;have Mb:=St.dw U;have Mc:=St.dw U.p1;have V:=K.size;have Dd:=FD.le V;have Yh:=St.fresh kz;have dY:=kz.dZ (by omega);have Yi:=St.fresh dY.p1;have eu:=dY.p1.dZ (by omega);have uh:=(Dd.trans (dV.nR (F:=fun x=>x∈bl f1) Mb) V).trans (dV.nR (F:=fun x=>x∈bl f4) Mc) V;refine(dh) jE eu.p3 fun w4 l4 mK G=>?_;refine(bj) bz G.b0<|(cA) Vk (sA (As.gr G.g8) (As.gr G.g2) (As.gr G.g1) (As.gr G.g5)) ?_;rintro _ w5 ⟨rfl,s5⟩;rw [Yg];have df:=G.step s5;refine(aP) (fun g20=>?_) fun g20=>?_
 ·
  exact absurd g20 (by simp)
 refine ct ?_;refine WC.dx (m:=6) [] [2,4] [0,1,2,3,4,5] [(5,.map)] df (av.k4 M0 M1 M2 M3<|av.k4 M4 M5 M6 M7<|av.cons M8<|av.nil) mixed (by kernel_rfl) (by kernel_rfl) rfl<|(py) bz SV.g0<|(iF) (fun w6 R2x RN de I8=>?_);simp only [CA,NA] at de;have gp:=de;refine OX.call Pr rfl rfl ((rH (x:=x) gp.e0).mono ?_);rintro _ w7 ⟨d1,d2,d3,rfl,sy⟩;have iI:=St.lr gp sy;refine⟨_,rfl,sy.bR.size,_,rfl,_,_,_,iI,aG.k4<|aG.k4<|aG.k4<|aG.nil,av.k4 M3 M4 M5 M6<|av.k4 M7 M8 M9 lI<|av.cons nQ<|av.nil,?_⟩;refine(py) bz SV.g0<|(iF) (fun w8 Mn Aw fy nL=>?_);simp only [CA,NA] at fy;have L:=fy;refine OX.call EJ rfl rfl ((gV L.e0 (As.gr L.g5) (As.gr L.g4) h6 T).mono ?_);rintro _ w9 ⟨q1,q2,q3,W,q5,q6,Z3,rfl,ya,N⟩;have dU:=St.lv L N ya;have Yj:=St.dw N;have Yk:=St.dw N.p1;have X:=L.size;have BE:=uh.trans ya X;have Yl:=St.fresh dU;have ew:=dU.dZ (by omega);have Ym:=St.fresh ew.p1;have jj:=ew.p1.dZ (by omega);have Ft:=(BE.trans (dV.nR (F:=fun x=>x∈bl q1) Yj) X).trans (dV.nR (F:=fun x=>x∈bl W) Yk) X;refine⟨_,rfl,N.bR.size,_,rfl,_,_,_,jj,aG.k4<|aG.k4<|aG.k4<|aG.k2<|aG.nil,av.k4 M5 M6 M7 M8<|av.k4 M9 lI nQ uv<|av.cons wa<|av.nil,?_⟩;refine DG.side (s:=.map) rfl rfl rfl rfl rfl rfl (fun wx Zx Rx BF ur=>OX.makeMap Key.val rfl fun b wy nw hb=>⟨nw.ext.size,_,rfl,⟨b,rfl⟩,ur.Gs nw hb⟩)<|?_;rintro _ ⟨Y,rfl⟩;refine(pS) ?_;intro kl Mx dE;simp only [CM,NM,CA,NA,ky.it] at dE;refine WP .r (PV.aY (us:=(EA.cells ⟨q1,W,none,q2,q3,q5,q6,0,0⟩ d1 Y ⟨x,[],[],0⟩)) U0 rfl rfl rfl)<|(dr) dE fun V4 lB QL QM jH=>?_;refine nx ?_;refine WL.nil (EX.np ?_);have p:=jH.p5.p5;have fh:=p.join (C:=As.kM prog 134 aa x ⟨ar,f1,f4,r,cr,f2,f3,f5,f6,d2,d3,d1⟩) ⟨p.Up,(As.gb p.g0),⟨[],aM.nil,(As.gm p.g1)⟩,⟨(As.gr p.g15),(As.gr p.g9),(As.gr p.g8),(As.gf p.g11)⟩⟩ (fun y h=>h);have fO:=fh.fY RR.key 39 2;refine mo ?_;refine WC.jv (σ:=Nat × ES × EA × (Nat→Prop)) (cT:=fun(j,s1,i,A)=>[(4,.pointer (some ⟨b4,0,none⟩)),(6,.pointer (some ⟨b6,0,none⟩)),(10,.pointer (some ⟨V4,0,none⟩)),(31,.slice Q g eg),(32,.int .i64 (g:Int)),(33,.int .i64 (j:Int))]) (F:=fun(j,s1,i,A)=>[As.blk V4 88 (EA.cells i d1 Y s1),As.map Key.val Y s1.busy,As.os RR.key 39 2 i.a3 i.n3 i.c3 s1.cw,As.ro RR.aC 4 i.a1 i.n1 i.c1 s1.b.ab,As.ro RR.e8 8 i.a2 i.n2 i.c2 s1.b.ah]) (I:=fun(j,s1,i,A)=>(cD aa (valOf aa x.ab) f s1 (goals.drop j)=some s')∧(Good aa x.ab s1)∧(j≤g)∧(dV w.heap.size Z A)∧True) (μ:=fun(j,s1,i,A)=>g - j) (Zf:=fun(j,s1,i,A)=>A) (0,⟨x,[],[],0⟩,⟨q1,W,none,q2,q3,q5,q6,0,0⟩,_) (fO.p4.p5.p2.p5.p5) Sub.t (⟨Fp,Gb,Nat.zero_le _,Ft,trivial⟩)<|?_;rintro⟨j,s1,i,A⟩ pJ q ⟨E,C5,hj,O,_⟩;simp only [CA,NA] at q E C5 hj O ⊢;refine(aP) (fun Yn=>?_) fun Yn=>?_
 ·
  simp at Yn
  have uk:j<goals.length:=by omega
  rw [List.drop_eq_getElem_cons uk] at E;simp only [cD] at E;obtain⟨t,I0,Au⟩:=Option.bind_eq_some_iff.1 E;have SQ:=hk goals[j] (List.getElem_mem uk);have Gd:=(bM (val:=valOf aa x.ab) R f).1 _ _ _ I0 C5 SQ;have Xq:=mz R Au Gd.1 (fun k LD=>hk k (List.mem_of_mem_drop LD));refine cW ?_;obtain⟨jf,pG,mF,cx,iB,gk,eK,fB⟩:=Rd.at (As.gr q.g12) uk;have gk:=RR.bX gk;subst gk;have H:=q.fg fB eK;refine nx ?_;refine WP .r (PV.dM dL cx rfl rfl (by omega))<|(bj) ak (As.ll H.g0)<|(ft) H fun TF rJ afh RO u=>?_;refine(dh) gi u fun yH v7 nZ v=>?_;refine(bj) ak v.b0<|?_;have o:=v.p4.p4.p7.p5;refine(cA) Lb (Mj (D:=⟨ar,f1,f4,r,cr,f2,f3,f5,f6,d2,d3,d1⟩) R T f _ _ _ _ _ _ _ o.e4 (As.gr o.g6) (As.gr o.g7) C5 SQ I0 (by have:=Xq.2.cw;omega)) ?_;rintro _ v8 ⟨E2,Z6,rfl,RP,hi6,hr6,uu⟩;have P:=St.lv o uu RP;have hZ6:=O.trans RP o.size;have J:=P.fr (hi6);have ku:=J.fr (hr6);have nO:=ku.p8.drop;have kx:=nO.p8.drop;refine eL ?_;refine dX (j+1,t,E2,Z6) ⟨kx.p6.drop.p6.drop.p1.p5.p5.p4,⟨Au,Gd.1,by omega,hZ6,trivial⟩⟩
 simp at Yn
 rw [List.drop_eq_nil_of_le (by omega)] at E;simp only [cD,Option.some.injEq] at E;subst E;refine(bp) ub q.b0<|(aP) (fun z=>?_) fun z=>?_
 ·
  simp at z
  have H:=q.fY RR.key 39 2;refine nx ?_;refine WC.dx (m:=7) [] [5] [0,5,1,2,3,4,6] [] H (av.k4 M0 M1 M2 M3<|av.k4 M4 M5 M6 M7<|av.k4 M8 M9 lI uv<|av.k4 wa CX Jj TQ<|av.nil) mixed (by kernel_rfl) (by kernel_rfl) rfl<|(py) bz SV.g8<|?_;refine DG.cs rfl rfl rfl rfl rfl (fun rJ Yo My u uq=>?_);simp only [CA,NA] at u;refine OX.kB jE (As.gb u.g11) rfl rfl rfl rfl rfl fun yH CC _ yG=>?_;have v:=u.pQ.BZ CC yG;refine⟨CC.size,rfl,_,_,_,v,aG.k4<|aG.k4<|aG.k4<|aG.k4<|aG.cons<|aG.nil,av.k4 M1 M2 M3 M4<|av.k4 M5 M6 M7 M8<|av.k4 M9 lI nQ uv<|av.k4 wa CX Jj TQ<|av.nil,?_⟩
  iterate 3 refine DG.a ?_
  refine(JK) ub SV.g1<|(pS) ?_;intro v8 BC o;simp only [CM,NM,CA,NA,ky.it] at o;refine nx ?_;refine WL.nil (EX.np ?_);refine ct ?_;refine EX.uE rfl (RS.cell bz rfl o.b0 rfl<|RS.tmp rfl<|RS.tmp rfl<|RS.nil) rfl<|?_;have hb:s1.base x=x:=if_neg z;have hl:s1.list=[]:=if_neg z;exact⟨f1,f2,f3,f4,f5,f6,none,0,0,_,by rw [hb],O,by rw [hb];exact(As.gr o.g11),by rw [hb];exact(As.gr o.g10),by rw [hl];exact(St.wk o.p1.k1)⟩
 simp at z
 refine ct ?_;have C7:=((As.gs q.g2)).len;have Mz:=St.fresh q.p2;have H:=q.p2.dZ (by omega);have hZr:=O.trans (dV.nR (F:=fun x=>x∈bl i.a3) Mz) (Nat.le_refl _);refine WC.dx (m:=9) [] [8] [4,5,6,7,8,0,1,2,3] [] H (av.k4 M0 M1 M2 M3<|av.k4 M4 M5 M6 M7<|av.k4 M8 M9 lI nQ<|av.k4 uv wa CX Jj<|av.nil) mixed (by kernel_rfl) (by kernel_rfl) rfl<|?_
 iterate 3 refine DG.a ?_
 refine(JK) gw SV.g1<|(iF) (fun rJ R8x afm u abj=>?_);simp only [CA,NA] at u;have v:=u;refine OX.call Pu rfl rfl ((nG v.e0 (As.gr v.g0) (fun _ h _=>h) x8).mono ?_);rintro _ yH ⟨o1,o2,o3,rfl,yr⟩;have o:=St.lr v yr;refine⟨_,rfl,yr.bR.size,_,rfl,_,_,_,o,aG.k4<|aG.k4<|aG.k4<|aG.k4<|aG.cons<|aG.nil,av.k4 M1 M2 M3 M4<|av.k4 M5 M6 M7 M8<|av.k4 M9 lI nQ uv<|av.k4 wa CX Jj TQ<|av.nil,?_⟩
 iterate 3 refine DG.a ?_
 refine(JL) bz SV.g1<|(pS)<|?_;intro v8 Fw P;simp only [CM,NM,CA,NA,ky.it] at P;refine(dh) jE P.pQ fun xW Nl Nn J=>?_;refine bP ?_;refine WL.nil (EX.np ?_);refine bP ?_;refine EX.uE rfl (RS.cell bz rfl J.b0 rfl<|RS.tmp rfl<|RS.tmp rfl<|RS.nil) rfl<|?_;have hb:s1.base x=s1.b:=if_pos z;have hl:s1.list=iv s1.cw:=if_pos z;exact⟨i.a1,i.n1,i.c1,i.a2,i.n2,i.c2,o1,o2,o3,_,by rw [hb,z];rfl,hZr,by rw [hb];exact(As.gr J.g5),by rw [hb];exact(As.gr J.g6),by rw [hl];exact(St.wk J.p1.k1)⟩
set_option maxHeartbeats 400000
set_option maxHeartbeats 400000
set_option maxHeartbeats 400000
theorem H6(b:ao aa) (s:∀k,(valOf aa x.ab k).size≤1000):∀i:Nat,i<aa.length→I4 aa x D (aH aa (i:Int)):=by
 intro i;have C:=b.len;have low:∀n:Nat,n≤15→I4 aa x D (bB (n:Int)):=fun n hn w M Z ml al e g hm _=>pk e g hm (aZ (by omega))
 induction i using Nat.strongRecOn with
 | _ i t=>
  intro hi w M Z ml al e g hm o
  have gR:i≤99:=by omega
  have y:jX aa i al:=by
   have h:=o (bT hi gR);rw [bE hi gR,Int.toNat_natCast] at h;exact h
  refine Ax e g hm b hi s y (fun hr w M Z ml al e g hm o=>?_) (fun hr a p=>?_)
  ·
   rw [bE hi gR,Int.toNat_natCast] at o;refine vE e g hm b s hi hr o fun j u a p hc=>?_;have q:=p.cyc b
   rcases p with⟨n,hn,rfl⟩ | ⟨m,hm,rfl,h1,v,E,z⟩
   ·
    exact low n hn
   have A:ax aa m=false:=by
    rw [hc,dn hm (by omega)] at q
    cases h:ax aa m
    ·
     rfl
    rw [h] at q;simp at q
   have F:bd aa j≤i:=Nat.le_trans (ir b u) (eD aa i)
   have B:m<i:=by
    have:=z A (gA hi hr u).2
    omega
   exact t m B hm
  rcases p with⟨n,hn,rfl⟩ | ⟨m,hm,rfl,_,v,_⟩
  ·
   exact low n hn
  exact t m (v hr) hm
theorem MA(b:ao aa) (e:∀k,(valOf aa x.ab k).size≤1000) {k:Key}(hk:eU aa k):I4 aa x D k:=by
 cases hk with
 | cell h=>exact fun w M Z ml al g i hm _=>pk g i hm (aZ h)
 | fl h _=>exact H6 b e _ h
set_option maxHeartbeats 400000
theorem yt{l:List Int}(g:St w M Z w []) (hl:Rd RR.int 1 Z w a n c l) (h:n≤400):Calls prog 8 #[.slice a n c] w fun e w'=>∃d,e=.returned (.pointer (some ⟨d,0,none⟩))∧St w M Z w' [As.iy 74 d]:=
 (zY (A:=Z) (l:=l) hl h).mono fun e w' ⟨d,h1,i,j,hc⟩=>⟨d,h1,g.new hc j fun x b=>by have b:x=d:=b;subst b;exact i⟩
theorem cv(b:St w M Z w [As.iy 74 d]) (hm:m≤4611686018427387904):Calls prog 38 #[.pointer (some ⟨d,0,none⟩),.int .i64 m] w fun e w'=>∃z:Int,e=.returned (.int .i64 z)∧0≤z∧(1≤m→z<m)∧St w M Z w' [As.iy 74 d]:=
 (zZ (A:=Z) (As.gd b.g0) (b.jS (As.iy 74 d) (by simp) d rfl) hm).mono fun e w' ⟨z,h1,h,i,hc,j⟩=>⟨z,h1,h,i,b.i1 (hc.p.mono fun x _ g=>show x=d from by simpa using g) j fun x g=>.inl g⟩
theorem yu{l:List ByteArray}(b:St w M Z w [As.iy 74 d,As.os RR.str 9 1 a r c l]) (h0:0<r) (h1:r≤1000):Calls prog 73 #[.pointer (some ⟨d,0,none⟩),.slice a r c] w fun e w'=>∃s:ByteArray,e=.returned (.string s)∧s∈l∧St w M Z w' [As.iy 74 d,As.os RR.str 9 1 a r c l]:=by
 have hlen:=(As.gs b.g1).len;refine enter func73 rfl ntmps73 rfl<|?_;have aO:=b;refine na ?_;have st1:=aO;refine(cA) mE (cv st1.e1 (m:=(r:Int)) (by omega)) ?_;rintro _ w1 ⟨z,rfl,o,g,j⟩;have st2:=St.lr st1 j;have g:=g (by omega);obtain⟨i,rfl⟩:∃i:Nat,z=i:=⟨z.toNat,by omega⟩
 have hi:i<l.length:=by omega
 obtain⟨p,h⟩:=Ow.addr (As.gs st2.g1) (ae hi);refine WP .r (PV.dM lY h rfl rfl (by omega))<|WP .r (PV.kc eV (Ow.tt (As.gs st2.g1) (by omega) h (ae hi)) rfl rfl)<|(bF) ?_;exact⟨_,rfl,List.getElem_mem hi,st2⟩
theorem sT(o:St w M Z w [As.iy 74 d]):Calls prog 47 #[.pointer (some ⟨d,0,none⟩)] w fun e w'=>∃x:Change,e=.returned (.agg x.cells.toArray)∧x.small∧St w M Z w' [As.iy 74 d]:=by
 refine enter func47 rfl ntmps47 rfl<|?_;have aO:=o;refine(ft) aO fun b2 w1 F G st1=>?_;refine cW ?_;have st2:=st1.p1;refine(cA) mE (cv st2.e1 (m:=4) (by omega)) ?_;rintro _ w2 ⟨z4,rfl,p,b,q⟩;have t:=St.lr st2 q;have b:=b (by omega);refine(eZ) (gI (n:=z4)) t fun w3 H u=>?_;refine nx ?_;refine WL.go rfl (OX.aL (us:=words.map Value.string) Ex rfl rfl rfl rfl fun v w4 g y=>?_);have z:=St.lE (R:=RR.str) (E:=9) (k:=1) (a:=some ⟨v,0,none⟩) (n:=10) (c:=10) (xs:=words) u g.ext (Ow.flat y rfl (by simp) (by simp [words,Value.oneCell']) rfl (by decide)) (fun x h=>by simp [bl] at h;subst h;exact g.ge);have i:=z.p1;refine(cA) VC (yu i.e2 (by decide) (by decide)) ?_;rintro _ w5 ⟨s,rfl,A,B⟩;have C:=St.lr i B;refine WP .r (PV.aY (us:=(Change.mk (bB z4) s).cells) O7 rfl rfl rfl)<|(dh) EE C.p2 fun w6 I J j=>?_;refine(jm) xz j.b0<|?_;exact⟨⟨bB z4,s⟩,rfl,⟨⟨z4,p,by omega,rfl⟩,E4 s A⟩,j.drop.p1.drop⟩
theorem k7(v:St w M Z w [As.iy 74 d]) (hm:0≤m) (Q:m≤1000):Calls prog 22 #[.pointer (some ⟨d,0,none⟩),.int .i64 m] w fun e w'=>∃a n c,∃l:List Change,e=.returned (.slice a n c)∧(l.length:Int)≤m∧(∀x∈l,x.small)∧St w M Z w' [As.iy 74 d,As.os RR.bR 71 3 a n c l]:=by
 refine enter func22 rfl ntmps22 rfl<|?_;have aO:=v;have st1:=aO.fY RR.bR 71 3;refine aN ?_;refine cB ?_;have st2:=st1.p1;refine(cA) mE (cv st2.e1 (m:=m+1) (by omega)) ?_;rintro _ w1 ⟨z0,rfl,R,q,B⟩;have C:=St.lr st2 B;have q:=q (by omega);obtain⟨z,rfl⟩:∃z:Nat,z0=z:=⟨z0.toNat,by omega⟩;refine cB ?_;refine WC.br (σ:=Nat × (List Change) × (Option Addr) × Nat × Nat) (cT:=fun(i,l,g,b,j)=>[(0,.pointer (some ⟨d,0,none⟩)),(5,.slice g b j),(6,.int .i64 (i:Int))]) (F:=fun(i,l,g,b,j)=>[As.os RR.bR 71 3 g b j (l),As.iy 74 d]) (I:=fun(i,l,g,b,j)=>(l.length+i≤z)∧(∀x∈l,x.small)∧True) (μ:=fun(i,l,g,b,j)=>i) (z,[],none,0,0) (C.p1) Sub.t (⟨by simp,by simp,trivial⟩)<|?_;rintro⟨i,l,g,b,j⟩ w2 o ⟨E,p,_⟩;simp only [CA,NA] at o E p ⊢;have S:=((As.gs o.g0)).len;refine(aP) (fun g12=>?_) fun g12=>?_
 ·
  simp at g12
  refine eL ?_;have s:=o.p1;refine(cA) Vn (sT s.e1) ?_;rintro _ w3 ⟨x,rfl,G,H⟩;have J:=St.lr s H;refine WL.go rfl (OX.aL (us:=x.cells) Ew rfl rfl rfl rfl fun T w4 K L=>?_);have u:=J.dD K L;refine WL.ap rfl rfl u.p2 (SR.cV (A:=fun _=>True) (x:=x) (As.gb u.g0) trivial rfl (by simp [Change.cells,Value.oneCell']) rfl) fun N O w5 U V P=>?_;refine px ?_;refine dX (i - 1,l++[x],N,(b+1),O) ⟨P.p1.drop,⟨by simp;omega,fun y hy=>by rcases List.mem_append.1 hy with h | h;exact p y h;simp at h;subst h;exact G,trivial⟩⟩
 simp at g12
 refine(bF) ?_;exact⟨_,_,_,l,rfl,by omega,p,o.p1⟩
set_option maxHeartbeats 4000000 in
theorem vH(gq:St w M Z w [As.iy 74 d]):Calls prog 20 #[.pointer (some ⟨d,0,none⟩)] w fun e w'=>∃a n c,∃l:List az,∃Z',e=.returned (.slice a n c)∧ao l∧2≤l.length∧l.length≤8∧dV w.heap.size Z Z'∧St w M Z' w' [As.iy 74 d,As.os RR.fl 59 4 a n c l]:=by
 refine enter func20 rfl ntmps20 rfl<|?_;have aO:=gq;have st1:=aO.fY RR.fl 59 4;refine aN ?_;refine bP ?_;have st2:=st1.p1;refine(cA) mE (cv st2.e1 (m:=7) (by omega)) ?_;rintro _ w1 ⟨z0,rfl,abk,I9,Yp⟩;have jg:=St.lr st2 Yp;have I9:=I9 (by omega);obtain⟨z,rfl⟩:∃z:Nat,z0=z:=⟨z0.toNat,by omega⟩;refine cW ?_;refine WC.br (σ:=Nat × (List az) × (Option Addr) × Nat × Nat) (cT:=fun(i,l,C,q,G)=>[(0,.pointer (some ⟨d,0,none⟩)),(3,.slice C q G),(4,.int .i64 (i:Int))]) (F:=fun(i,l,C,q,G)=>[As.os RR.fl 59 4 C q G (l),As.iy 74 d]) (I:=fun(i,l,C,q,G)=>(l.length+i=z+2)∧True) (μ:=fun(i,l,C,q,G)=>i) (z+2,[],none,0,0) (jg.p1) Sub.t (⟨by simp,trivial⟩)<|?_;rintro⟨i,l,C,q,G⟩ w2 iH ⟨hlz,_⟩;simp only [CA,NA] at iH hlz ⊢;have V3:=((As.gs iH.g0)).len;refine(aP) (fun g16=>?_) fun g16=>?_
 ·
  simp at g16
  refine eL ?_;have S:=iH.p1;refine(cA) mE (cv S.e1 (m:=3) (by omega)) ?_;rintro _ w3 ⟨z1,rfl,abl,Ja,pH⟩;have ks:=St.lr S pH;have Ja:=Ja (by omega);obtain⟨g,hg⟩:∃g:Bool,g=decide (z1=1):=⟨_,rfl⟩;refine nx ?_;refine WP .r (PV.aY (us:=[.bool (decide (z1=1)),.slice none 0 0,.int .i64 0,.int .i64 0]) Ey rfl rfl rfl)<|?_;refine WL.go rfl (OX.aL (us:=[.bool (decide (z1=1)),.slice none 0 0,.int .i64 0,.int .i64 0]) KO rfl rfl rfl rfl fun b24 w4 RQ RU=>?_);have jn:=ks.dD RQ RU;refine WL.ap rfl rfl jn.p2 (SR.cV (A:=fun _=>True) (x:=begun g) (As.gb jn.g0) trivial rfl (by simp [Value.oneCell']) ⟨none,0,0,by rw [hg];rfl,SR.nil _ _ _ _⟩) fun a25 Yq w5 afp afq ji=>?_;refine px ?_;refine dX (i - 1,l++[begun g],a25,(q+1),Yq) ⟨ji.p1.drop,⟨by simp;omega,trivial⟩⟩
 simp at g16
 refine aN ?_;refine bP ?_;refine WC.jv (σ:=Nat × (List az) × (Nat→Prop)) (cT:=fun(i,l1,W)=>[(0,.pointer (some ⟨d,0,none⟩)),(3,.slice C q G),(27,.int .i64 (q:Int)),(28,.int .i64 (i:Int))]) (F:=fun(i,l1,W)=>[As.iy 74 d,As.os RR.fl 59 4 C q G l1]) (I:=fun(i,l1,W)=>(i≤q)∧(jc l1 i)∧(dV w.heap.size Z W)∧True) (μ:=fun(i,l1,W)=>q - i) (Zf:=fun(i,l1,W)=>W) (0,l,Z) (iH.p1) Sub.t (⟨Nat.zero_le _,jc.start (by omega),dV.refl _ _,trivial⟩)<|?_;rintro⟨i,l1,W⟩ w3 S ⟨hi,TG,hZ,_⟩;simp only [CA,NA] at S hi TG hZ ⊢;have hl1:=((As.gs S.g1)).len;have hP8:=TG.1;refine(aP) (fun Ge=>?_) fun Ge=>?_
 ·
  simp at Ge
  have T:i<l1.length:=by omega
  have Tz:=bA T;have Nt:=sq T;refine aN ?_;refine(eZ) (o4 (n:=(i:Int)) (Ow.rd (As.gs S.g1) (by omega))) S fun w4 s4 ks=>?_;refine px ?_;obtain⟨bx,yi⟩:=Ow.addr (As.gs ks.g1) (ae T);refine ct ?_;refine WP .r (PV.dM gn yi rfl rfl (by omega))<|nx ?_;refine WP .r (PV.kc di (Ow.ring (As.gs ks.g1) yi (by omega) T) rfl rfl)<|ct ?_;have jn:=ks;refine WC.jy (σ:=Int) [] (fun most=>[(0,.pointer (some ⟨d,0,none⟩)),(3,.slice C q G),(5,.int .i64 (i:Int)),(7,.int .i64 most),(27,.int .i64 (q:Int)),(28,.int .i64 (i:Int))]) (fun most=>[]) (fun most=>(most=du l1 i)∧True) jn ?_ ?_
  ·
   refine(aP) (fun X=>?_) fun X=>?_
   ·
    have X:l1[i].ring=false:=by simpa using X
    refine cB ?_;exact n0 ((block l1 (i:Int)).1) ⟨jn,⟨by unfold du;rw [Tz,X];rfl,trivial⟩⟩
   have X:l1[i].ring=true:=by simpa using X
   refine nx ?_;exact n0 ((block l1 (i:Int)).2) ⟨jn,⟨by unfold du;rw [Tz,X];rfl,trivial⟩⟩
  rintro most w5 ji ⟨Jb,_⟩;simp only [CA,NA] at ji Jb ⊢;refine bP ?_;refine WC.dx (m:=12) [] [6,9] [5,6,8,9,0,1,2,3,4,7,10,11] [(11,.blk 59 [.bool false,.slice none 0 0,.int .i64 0,.int .i64 0])] ji (av.cons M1<|av.nil) mixed (by kernel_rfl) (by kernel_rfl) rfl<|(iF) (fun w6 R6x RG kz I6=>?_);simp only [CA,NA] at kz;have dY:=kz;refine OX.call mE rfl rfl ((cv dY.e1 (m:=4) (by omega)).mono ?_);rintro _ w7 ⟨z2,rfl,abm,Jc,sy⟩;have eu:=St.lr dY sy;have Jc:=Jc (by omega);refine⟨_,rfl,sy.bR.size,_,rfl,_,_,_,eu,aG.k2<|aG.nil,av.cons M1<|av.nil,?_⟩;refine(iF) (fun w8 TB H2 cQ ym=>?_);simp only [CA,NA] at cQ;have df:=cQ;refine OX.call mE rfl rfl ((cv df.e1 (m:=6) (by omega)).mono ?_);rintro _ w9 ⟨z3,rfl,abn,Jd,rP⟩;have de:=St.lr df rP;have Jd:=Jd (by omega);refine⟨_,rfl,rP.bR.size,_,rfl,_,_,_,de,aG.k2<|aG.nil,av.cons M1<|av.nil,?_⟩
  iterate 2 refine DG.a ?_
  refine DQ .r (fun K Zx Rx _ ur Ay=>PV.dM gn yi rfl rfl (by omega))<|?_;refine DG.a<|?_;refine DQ .r (fun K Zx Rx _ ur Ay=>PV.kc di (Ow.ring (As.gs (ur.sv Ay).g0) yi (by omega) T) rfl rfl)<|?_;refine DG.a<|?_;refine DQ .r (fun K Zx Rx _ ur Ay=>PV.aY (us:=[.bool l1[i].ring,.slice none 0 0,.int .i64 (1+z2),.int .i64 z3]) Ey rfl rfl rfl)<|?_;refine DG.side (s:=.blk 59 [.bool false,.slice none 0 0,.int .i64 0,.int .i64 0]) rfl rfl rfl rfl rfl rfl (fun K Zx Rx BF ur=>OX.alloc He rfl fun b wy Y hb=>⟨Y.ext.size,_,rfl,⟨b,rfl⟩,ur.dD Y hb⟩)<|?_;rintro _ ⟨y,rfl⟩;refine(pS) ?_;intro kl BC gp;simp only [CM,NM,CA,NA,ky.it] at gp;refine(dh) zJ gp fun lB l4 mK iI=>?_;refine WL.nil (EX.np ?_);refine(bp) di iI.b0<|bP ?_;have fy:=iI;refine WC.jy (σ:=Int × Int) [_] (fun(f0,c0)=>[(0,.pointer (some ⟨d,0,none⟩)),(3,.slice C q G),(5,.int .i64 (i:Int)),(7,.int .i64 most),(8,.pointer (some ⟨y,0,none⟩)),(27,.int .i64 (q:Int)),(28,.int .i64 (i:Int))]) (fun(f0,c0)=>[As.blk y 59 [.bool l1[i].ring,.slice none 0 0,.int .i64 f0,.int .i64 c0]]) (fun(f0,c0)=>(∀xs:List Ask,fq ⟨l1[i].ring,xs,f0,c0⟩=true)∧True) fy ?_ ?_
  ·
   refine(aP) (fun CS=>?_) fun CS=>?_
   ·
    have Yr:d<lB.heap.size:=(As.iy 74 d).lt (fy.g1) d rfl;have MB:y<lB.heap.size:=((As.gb fy.g0)).lt;have gJ:=fy;have dU:=gJ.conv (B:=As.Us (ι:=Int) y 59 fun f=>[.bool l1[i].ring,.slice none 0 0,.int .i64 f,.int .i64 z3]) ⟨_,(As.gb gJ.g0)⟩ (fun _ h=>h);have Ys:=dU.bG;have RV:=dU.hV;have RW:=dU.size;refine WC.DD (m:=8) (fun j w w'=>match j with | 2=>eY (fun x=>x=d) w w' | 6=>eY (fun x=>x=y) w w' | _=>eY (fun _=>False) w w') (E:=bS [(0,PS lB.heap.size 3 6 [.int .i64 0,.int .i64 1,.int .i64 2,.int .i64 4,.int .i64 8,.int .i64 16]),(2,fun v _=>∃z:Nat,v=.int .i64 (z:Int)∧z<6),(3,fun v K=>∃b k:Nat,v=.pointer (some ⟨b,0+k*1,none⟩)∧k<6∧lB.heap.size≤b∧bN K b 3 [.int .i64 0,.int .i64 1,.int .i64 2,.int .i64 4,.int .i64 8,.int .i64 16]),(4,fun v _=>∃z:Int,v=.int .i64 z∧0≤z∧z≤65535),(6,fun _ K=>K.cell? ⟨y,2,none⟩=some (.int .i64 5))]) dU (jr (⟨⟨trivial,fun _ _ _ _ _ c h=>PS.st (fun x u=>by subst u;exact Yr) c h,fun _ _ _ _ _ c h=>PS.st (fun x u=>u.elim) c h,fun _ _ _ _ _ c h=>PS.st (fun x u=>u.elim) c h,fun _ _ _ _ _ c h=>PS.st (fun x u=>by subst u;exact MB) c h,trivial⟩,⟨⟨fun _ _ _ _ _ _ h=>h,trivial,fun _ _ _ _ _ _ h=>h,fun _ _ _ _ _ _ h=>h,fun _ _ _ _ _ _ h=>h,trivial⟩,⟨⟨trivial,trivial,trivial,fun _ _ _ _ _ c ⟨b,k,h1,h2,h3,h4⟩=>⟨b,k,h1,h2,h3,(PB.get (PB.st (fun x u=>u.elim) c (v:=.pointer (some ⟨b,0,none⟩)) ⟨b,rfl,h3,h4⟩)).2⟩,fun _ _ _ _ _ c ⟨b,k,h1,h2,h3,h4⟩=>⟨b,k,h1,h2,h3,(PB.get (PB.st (fun x u=>by subst u;exact MB) c (v:=.pointer (some ⟨b,0,none⟩)) ⟨b,rfl,h3,h4⟩)).2⟩,trivial⟩,⟨⟨fun _ _ _ _ _ _ h=>h,fun _ _ _ _ _ _ h=>h,trivial,trivial,fun _ _ _ _ _ _ h=>h,trivial⟩,⟨⟨fun _ _ _ _ _ c h=>by rw [← h];exact World.cell?_of_block (c.block y (by omega) (fun u=>u.elim)),trivial,fun _ _ _ _ _ c h=>by rw [← h];exact World.cell?_of_block (c.block y (by omega) (fun u=>u.elim)),fun _ _ _ _ _ c h=>by rw [← h];exact World.cell?_of_block (c.block y (by omega) (fun u=>u.elim)),trivial,trivial⟩,trivial⟩⟩⟩⟩⟩)) mixed (by kernel_rfl)<|?_;refine DW.e rfl rfl rfl rfl rfl (fun K J hF=>OX.aL (us:=[.int .i64 0,.int .i64 1,.int .i64 2,.int .i64 4,.int .i64 8,.int .i64 16]) KT rfl rfl rfl rfl fun b wy Y hb=>⟨⟨Nat.le_trans J.1 Y.ext.size,J.2.step Y.ext⟩,Y.ext.p0,_,rfl,_,rfl,Nat.le_trans J.1 Y.ge,hb⟩)<|?_;rintro _ wz _ ⟨b57,rfl,_,_⟩;refine nx ?_;refine DW.e rfl rfl rfl rfl rfl (fun K J hF=>OX.call mE rfl rfl ((cv (J.2.one (.tail _ (.head _))) (m:=6) (by omega)).mono ?_))<|?_
    ·
     rintro _ wy ⟨z,rfl,h0,h1,hy⟩;exact⟨_,rfl,⟨Nat.le_trans J.1 hy.bR.size,J.2.wZ M1 hy⟩,hy.bR.mono (fun x _ u=>by obtain⟨A,hA,u⟩:=u;simp at hA;subst hA;exact u),_,rfl,⟨z.toNat,by congr 1;omega,by have:=h1 (by omega);omega⟩⟩
    rintro _ wz _ ⟨z13,rfl,z131⟩
    refine DW.e rfl rfl rfl rfl rfl (fun K J hF=>by
     obtain⟨_,⟨b1_,F3,E1,vh⟩,_⟩:=hF;simp only [Value.slice.injEq,Option.some.injEq,Addr.mk.injEq,and_true,true_and] at F3;subst F3;exact OX.pv (PV.ix (i:=z13) zI rfl rfl z131) rfl ⟨J,eY.refl _ _,_,rfl,_,z13,rfl,z131,E1,vh⟩) ?_
    rintro _ wz _ ⟨b3,k3,rfl,C4,CE,vh⟩
    refine DW.e rfl rfl rfl rfl rfl (fun K J hF=>by
     obtain⟨⟨b1_,k1_,En,LD,_,F5⟩,_⟩:=hF;simp only [Value.pointer.injEq,Option.some.injEq,Addr.mk.injEq,and_true] at En;obtain⟨rfl,Wz⟩:=En
     obtain⟨z,hz,h0,h1⟩:∃z:Int,nth [.int .i64 0,.int .i64 1,.int .i64 2,.int .i64 4,.int .i64 8,.int .i64 16] (k3*1)=some (.int .i64 z)∧0≤z∧z≤65535:=by
      have h6:k3=0∨k3=1∨k3=2∨k3=3∨k3=4∨k3=5:=by omega
      rcases h6 with rfl | rfl | rfl | rfl | rfl | rfl <;> exact⟨_,rfl,by decide,by decide⟩
     exact OX.pv (PV.ld1 (o:=0) (j:=k3*1) aK (bN.range F5) rfl hz) rfl ⟨J,eY.refl _ _,_,rfl,z,rfl,h0,h1⟩) ?_
    rintro _ wz _ ⟨z5,rfl,h5a,h5b⟩;refine nx ?_
    refine DW.e0 rfl rfl rfl rfl (fun K J hF=>by
     obtain⟨f,hb⟩:∃f:Int,bN K y 59 [.bool l1[i].ring,.slice none 0 0,.int .i64 f,.int .i64 z3]:=J.2.ok _ M0;exact OX.st (j:=2) Ni hb rfl rfl (by simp [nth]) rfl rfl fun wy s hsz E1=>⟨⟨Nat.le_trans J.1 s.size,J.2.same M0 (s.p.mono fun x _ u=>show x=y from by simpa using u) ⟨5,E1⟩⟩,s.p.mono (fun x _ u=>by simpa using u),fun _=>bN.range E1 2 _ rfl⟩) ?_
    rintro _ wz _ h6c;refine(cy) ?_;rintro pJ ⟨abp,ew⟩ ⟨L0,⟨_,⟨_,⟨_,⟨Wq,_⟩⟩⟩⟩⟩;have jj:=ew.pr (PS.pb Wq) Ys RV RW;have dE:=jj.p1
    have Q:=dE.conv (B:=As.blk y 59 [.bool l1[i].ring,.slice none 0 0,.int .i64 5,.int .i64 z3]) (by
     obtain⟨f,hb⟩:∃f:Int,bN pJ y 59 [.bool l1[i].ring,.slice none 0 0,.int .i64 f,.int .i64 z3]:=dE.ok _ M0;have h1:=(bN.range hb 2 _ rfl).symm.trans L0
     have h2:f=5:=by simpa using h1
     subst h2;exact hb) (fun _ h=>h)
    refine WL.s1 Q fun rJ _ O=>?_;refine nx ?_;exact n0 (5,z5) ⟨O.p1.drop,⟨fun _=>by unfold fq;simp [CS,h5a,h5b],trivial⟩⟩
   have CS:l1[i].ring=false:=by simpa using CS
   refine nx ?_;exact n0 (1+z2,z3) ⟨fy,⟨fun _=>by unfold fq;simp [CS];omega,trivial⟩⟩
  rintro⟨f0,c0⟩ pJ gJ ⟨H7,_⟩;simp only [CA,NA] at gJ H7 ⊢;refine cW ?_;have dU:=gJ.p1;refine(cA) mE (cv dU.e1 (m:=4) (by omega)) ?_;rintro _ rJ ⟨z6,rfl,abq,Je,uo⟩;have ew:=St.lr dU uo;have Je:=Je (by omega);obtain⟨z,hz6⟩:∃z:Nat,z6=z:=⟨z6.toNat,by omega⟩;subst hz6;refine cB ?_;have jj:=ew.fY RR.ask 61 4;refine WC.br (σ:=Nat × (List Ask) × (Option Addr) × Nat × Nat) (cT:=fun(k,xs,R,U,Az)=>[(0,.pointer (some ⟨d,0,none⟩)),(3,.slice C q G),(5,.int .i64 (i:Int)),(7,.int .i64 most),(8,.pointer (some ⟨y,0,none⟩)),(9,.int .i64 (k:Int)),(27,.int .i64 (q:Int)),(28,.int .i64 (i:Int))]) (F:=fun(k,xs,R,U,Az)=>[As.os RR.ask 61 4 R U Az (xs),As.blk y 59 [.bool l1[i].ring,.slice R U Az,.int .i64 f0,.int .i64 c0],As.iy 74 d]) (I:=fun(k,xs,R,U,Az)=>(∀x∈bl R,w.heap.size≤x)∧(xs.length+k≤3)∧(∀(k:Nat) x,xs[k]?=some x→dF l1 i l1[i].ring k x=true)∧True) (μ:=fun(k,xs,R,U,Az)=>k) (z,[],none,0,0) (jj.p1.p2.p2) Sub.t (⟨by simp [bl],by simp;omega,by simp,trivial⟩)<|?_;rintro⟨k,xs,R,U,Az⟩ yH dE ⟨Yt,hxk,JB,_⟩;simp only [CA,NA] at dE Yt hxk JB ⊢;have Xa:=((As.gs dE.g0)).len;refine(aP) (fun Yu=>?_) fun Yu=>?_
  ·
   simp at Yu
   refine cW ?_;have Q:=dE.p2;refine WC.jy (σ:=Nat × Bool) [_] (fun(H,cell)=>[(0,.pointer (some ⟨d,0,none⟩)),(3,.slice C q G),(5,.int .i64 (i:Int)),(7,.int .i64 most),(8,.pointer (some ⟨y,0,none⟩)),(9,.int .i64 (k:Int)),(10,.pointer (some ⟨H,0,none⟩)),(27,.int .i64 (q:Int)),(28,.int .i64 (i:Int))]) (fun(H,cell)=>[As.blk H 61 [.bool cell,.bool false,.int .i64 0,.int .i64 0],As.iy 74 d]) (fun(H,cell)=>(cell=false→most≠0)∧True) Q ?_ ?_
   ·
    refine bP ?_;have O:=Q;refine(cA) mE (cv O.e1 (m:=3) (by omega)) ?_;rintro _ v8 ⟨z7,rfl,abr,Jf,uu⟩;have fh:=St.lr O uu;have Jf:=Jf (by omega);refine(cz) (fun RX=>?_) (fun RX=>?_)
    ·
     refine ct ?_;refine WP .r (PV.aY (us:=_) Ez rfl rfl rfl)<|(ft) fh fun H xW x3 x4 fO=>?_;refine(dh) zK fO fun CK v7 nZ iJ=>?_;refine nx ?_;exact n0 (H,true) ⟨iJ,⟨(fun h=>by cases h),trivial⟩⟩
    refine ct ?_;refine WP .r (PV.aY (us:=_) Ez rfl rfl rfl)<|(ft) fh fun H xW x3 x4 fO=>?_;refine(dh) zK fO fun CK CC yG iJ=>?_;refine nx ?_;exact n0 (H,decide (most=0)) ⟨iJ,⟨fun h=>by simpa using h,trivial⟩⟩
   rintro⟨H,cell⟩ v8 O ⟨Br,_⟩;simp only [CA,NA] at O Br ⊢;refine(bp) di O.b0<|bP ?_;have fh:=O;refine WC.jy (σ:=Int) [] (fun m2=>[(0,.pointer (some ⟨d,0,none⟩)),(3,.slice C q G),(5,.int .i64 (i:Int)),(7,.int .i64 most),(8,.pointer (some ⟨y,0,none⟩)),(9,.int .i64 (k:Int)),(10,.pointer (some ⟨H,0,none⟩)),(11,.int .i64 m2),(27,.int .i64 (q:Int)),(28,.int .i64 (i:Int))]) (fun m2=>[]) (fun m2=>(m2=if cell then 4 else du l1 i)∧True) fh ?_ ?_
   ·
    refine(aP) (fun RY=>?_) fun RY=>?_
    ·
     refine ct ?_;exact n0 (4) ⟨fh,⟨by rw [RY];rfl,trivial⟩⟩
    have RY:cell=false:=by simpa using RY
    refine nx ?_;exact n0 (most) ⟨fh,⟨by rw [RY,Jb];rfl,trivial⟩⟩
   rintro m2 xW fO ⟨F9,_⟩;simp only [CA,NA] at fO F9 ⊢
   have F7:1≤m2∧m2≤24:=by
    cases cell
    ·
     simp at F9;have:=Br rfl;omega
    simp at F9;omega
   refine cW ?_;have iJ:=fO.p1;refine(cA) mE (cv iJ.e1 (m:=m2) (by omega)) ?_;rintro _ CK ⟨z8,rfl,abt,Jg,yb⟩;have j9:=St.lr iJ yb;have Jg:=Jg (by omega);refine nx ?_;refine WL.s1 j9.p1 fun Db _ kY=>?_;refine cB ?_;have k8:=kY.p1;refine WC.jy (σ:=Bool) [_] (fun TH=>[(0,.pointer (some ⟨d,0,none⟩)),(3,.slice C q G),(5,.int .i64 (i:Int)),(7,.int .i64 most),(8,.pointer (some ⟨y,0,none⟩)),(9,.int .i64 (k:Int)),(10,.pointer (some ⟨H,0,none⟩)),(11,.int .i64 m2),(27,.int .i64 (q:Int)),(28,.int .i64 (i:Int)),(92,.bool TH)]) (fun TH=>[As.iy 74 d]) (fun TH=>True) k8 ?_ ?_
   ·
    refine(bp) di k8.b1<|(cz) (fun QP=>?_) (fun QP=>?_)
    ·
     refine nx ?_;have oD:=k8;refine(cA) mE (cv oD.e1 (m:=2) (by omega)) ?_;rintro _ Fh ⟨z9,rfl,abu,Jh,RZ⟩;have rY:=St.lr oD RZ;have Jh:=Jh (by omega);refine ct ?_;exact n0 (decide (z9=0)) ⟨rY,trivial⟩
    refine cW ?_;exact n0 (false) ⟨k8,trivial⟩
   rintro TH Fh oD _;simp only [CA,NA] at oD ⊢;refine nx ?_;have rY:=oD.p1;refine WC.jy (σ:=Int) [_,_] (fun L=>[(0,.pointer (some ⟨d,0,none⟩)),(3,.slice C q G),(5,.int .i64 (i:Int)),(7,.int .i64 most),(8,.pointer (some ⟨y,0,none⟩)),(9,.int .i64 (k:Int)),(10,.pointer (some ⟨H,0,none⟩)),(11,.int .i64 m2),(27,.int .i64 (q:Int)),(28,.int .i64 (i:Int))]) (fun L=>[As.blk H 61 [.bool cell,.bool false,.int .i64 L,.int .i64 0],As.iy 74 d]) (fun L=>(0≤L)∧(L<m2)∧True) rY ?_ ?_
   ·
    refine(aP) (fun g92=>?_) fun g92=>?_
    ·
     refine fZ ?_;have lH:=rY.p1;refine(cA) mE (cv lH.e1 (m:=(min m2 3)) (by omega)) ?_;rintro _ HO ⟨z10,rfl,Yv,FE,l9⟩;have V:=St.lr lH l9;have FE:=FE (by omega);refine bP ?_;refine WL.s1 V.p1 fun H5 _ nO=>?_;refine nx ?_;exact n0 (m2 - 1 - z10) ⟨nO,⟨by omega,by omega,trivial⟩⟩
    refine nx ?_;exact n0 (z8) ⟨rY,⟨by omega,by omega,trivial⟩⟩
   rintro L HO lH ⟨hn0,hn1,_⟩;simp only [CA,NA] at lH hn0 hn1 ⊢;refine ct ?_;have V:=lH.p1;refine WC.jy (σ:=Bool) [_] (fun FH=>[(0,.pointer (some ⟨d,0,none⟩)),(3,.slice C q G),(5,.int .i64 (i:Int)),(7,.int .i64 most),(8,.pointer (some ⟨y,0,none⟩)),(9,.int .i64 (k:Int)),(10,.pointer (some ⟨H,0,none⟩)),(11,.int .i64 m2),(27,.int .i64 (q:Int)),(28,.int .i64 (i:Int)),(114,.bool FH)]) (fun FH=>[As.iy 74 d]) (fun FH=>(FH=true→l1[i].ring=false∧xs.length≠0)∧True) V ?_ ?_
   ·
    refine(bp) di V.b3<|(cz) (fun R0=>?_) (fun R0=>?_)
    ·
     refine(bp) iT V.b3<|(cz) (fun lG=>?_) (fun lG=>?_)
     ·
      refine nx ?_;have nO:=V;refine(cA) mE (cv nO.e1 (m:=3) (by omega)) ?_;rintro _ H5 ⟨z11,rfl,Yw,FI,R1⟩;have kx:=St.lr nO R1;have FI:=FI (by omega);refine ct ?_;exact n0 (decide (z11=1)) ⟨kx,⟨fun _=>⟨by simpa using R0,by have h0:=lG;simp at h0;omega⟩,trivial⟩⟩
     refine cW ?_;exact n0 (false) ⟨V,⟨(fun h=>by cases h),trivial⟩⟩
    refine na ?_;exact n0 (false) ⟨V,⟨(fun h=>by cases h),trivial⟩⟩
   rintro FH H5 nO ⟨hb,_⟩;simp only [CA,NA] at nO hb ⊢;refine nx ?_;have kx:=nO.p1;refine WC.jy (σ:=Bool × Int) [_,_] (fun(P,N)=>[(0,.pointer (some ⟨d,0,none⟩)),(3,.slice C q G),(5,.int .i64 (i:Int)),(7,.int .i64 most),(8,.pointer (some ⟨y,0,none⟩)),(9,.int .i64 (k:Int)),(10,.pointer (some ⟨H,0,none⟩)),(27,.int .i64 (q:Int)),(28,.int .i64 (i:Int))]) (fun(P,N)=>[As.blk H 61 [.bool cell,.bool P,.int .i64 L,.int .i64 N],As.iy 74 d]) (fun(P,N)=>(P=true→l1[i].ring=false∧xs.length≠0∧0≤N∧N<m2)∧(P=false→N=0)∧True) kx ?_ ?_
   ·
    refine(aP) (fun AA=>?_) fun AA=>?_
    ·
     refine ct ?_;have rZ:=kx.p1;refine(cA) mE (cv rZ.e1 (m:=m2) (by omega)) ?_;rintro _ I7 ⟨z12,rfl,Yx,FJ,R2⟩;have mI:=St.lr rZ R2;have FJ:=FJ (by omega);refine nx ?_;refine WL.s1 mI.p1 fun Mv _ r5=>?_;refine nx ?_;refine WL.s1 r5 fun Nw _ sU=>?_;refine nx ?_;exact n0 (true,z12) ⟨sU,⟨fun _=>⟨(hb AA).1,(hb AA).2,by omega,by omega⟩,(fun h=>by cases h),trivial⟩⟩
    refine nx ?_;exact n0 (false,0) ⟨kx,⟨(fun h=>by cases h),fun _=>rfl,trivial⟩⟩
   rintro⟨P,N⟩ I7 rZ ⟨hpk,Od,_⟩;simp only [CA,NA] at rZ hpk Od ⊢;refine(bp) iT rZ.b3<|(bj) lX rZ.b0<|?_;refine WL.go rfl (OX.aL (us:=(Ask.mk cell P L N).cells) u9 rfl rfl rfl rfl fun CT Mv R3 R4=>?_);have mI:=rZ.dD R3 R4;have hzs:=mI.size;refine WL.ap rfl rfl mI.p3 (SR.cV (A:=fun _=>True) (x:=Ask.mk cell P L N) (As.gb mI.g0) trivial rfl (by simp [Ask.cells,Value.oneCell']) rfl) fun a124 R5 Nw R6 aby r5=>?_;refine nx ?_;refine WL.s1 r5.p4 fun RH _ sU=>?_;refine jx ?_;refine dX (k - 1,xs++[⟨cell,P,L,N⟩],a124,(U+1),R5) ⟨sU.p2.drop.p2.drop.p1,⟨fun x u=>(R6 x u).elim (Yt x) (Nat.le_trans hzs),by simp;omega,Cb JB (JR (x:=⟨cell,P,L,N⟩) F9 hn0 hn1 hpk Od),trivial⟩⟩
  simp at Yu
  refine cW ?_;have H7:=H7 xs;have Q:=dE.dZ (by omega);have BE:=hZ.trans (dV.nR (F:=fun x=>x∈bl R) Yt) (Nat.le_refl _);refine(bj) ua Q.b1<|?_;refine WP .r (PV.dM gn yi rfl rfl (by omega))<|?_;refine WL.go rfl (OX.Jy (i:=i) zJ (As.gs Q.g3) yi T rfl rfl rfl (by simp [Value.oneCell']) ⟨l1[i].ring,xs,f0,c0⟩ ⟨R,U,Az,rfl,(As.gr Q.g0)⟩ fun v8 s8 h8=>?_);have O:=Q.p3.mX s8 h8 (fun x h=>.inl h);refine eL ?_;refine dX (i+1,l1.set i ⟨l1[i].ring,xs,f0,c0⟩,_) ⟨O.p1.drop.p1.drop.p1,⟨by omega,jc.set TG T (bA T).symm ⟨show xs.length≤6 by omega,JB,H7⟩,BE,trivial⟩⟩
 simp at Ge
 have HX:i=l1.length:=by omega
 subst HX;have hRk:=TG.ok;refine(bF) ?_;exact⟨_,_,_,l1,_,rfl,hRk,by omega,by omega,hZ,S⟩
end Go.Rc

