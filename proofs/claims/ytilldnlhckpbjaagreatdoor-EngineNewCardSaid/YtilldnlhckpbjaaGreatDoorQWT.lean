/- Walks over the program, part WT. Conditions: as each theorem says. -/
import Derived.Test.YtilldnlhckpbjaaGreatDoorQFacts
import Derived.Test.YtilldnlhckpbjaaGreatDoorQWN
import Derived.Test.YtilldnlhckpbjaaGreatDoorQWE
import Derived.Test.YtilldnlhckpbjaaGreatDoorQBd
import Derived.Test.YtilldnlhckpbjaaGreatDoorQBe
import Derived.Test.YtilldnlhckpbjaaGreatDoorQWS
set_option linter.all false
namespace Go.Rc
open Go Go.Proofs Go.Proofs.Tryz
variable {a a1 a2:Option Addr}{n c bk n1 e1 n2 e2 i:Nat}{w:World}{M Z:Nat→Prop}{x:cB}{l:List Rec}{f:FuncId}{cap:Value}{k:Key}{aa:List aG}{D:SD}{ml al:List (Key × Value)}
set_option maxHeartbeats 400000
theorem gL{xs:List Key}(m:St w M Z w []) (hl:Rd RR.key 2 Z w a n c xs) (q:xs.length≤1000000):Calls prog 84 #[.slice a n c] w fun e w'=>∃d g h,e=.returned (.slice d g h)∧St w M Z w' [As.os RR.key 43 2 d g h xs]:=by
 have hlen:=hl.len;refine enter func84 rfl ntmps84 rfl<|?_;have aO:=m;have st1:=aO.fr hl;refine(aX) (fun g4=>?_) fun g4=>?_
 ·
  simp at g4
  subst g4;have b:=hl.qz;subst b;have st2:=st1.fV RR.key 43 2;refine(bB) ?_;exact⟨none,0,0,rfl,st2.p1.drop⟩
 refine cw ?_;refine WL.go rfl (OX.uG IZ UF rfl fun b5 w1 j o=>?_);have st2:=St.qu (R:=RR.key) (E:=43) (k:=2) (a:=some ⟨b5,0,none⟩) (n:=0) (c:=0) (xs:=[]) st1 j.ext (OR.JY o (Nat.zero_le _)) (fun x b=>by simp [bA] at b;subst b;exact j.ge);refine nx ?_;refine WL.ap rfl rfl st2 ((As.gr st2.g1)) fun r s w2 t u p=>?_;refine(bB) ?_;exact⟨_,_,_,rfl,p.p1.drop⟩
theorem sU{xs:List Rec}(m:St w M Z w []) (hl:Rd RR.iV 8 Z w a n c xs) (q:xs.length≤1000000):Calls prog 117 #[.slice a n c] w fun e w'=>∃d g h,e=.returned (.slice d g h)∧St w M Z w' [As.os RR.iV 50 8 d g h xs]:=by
 have hlen:=hl.len;refine enter func117 rfl ntmps117 rfl<|?_;have aO:=m;have st1:=aO.fr hl;refine(aX) (fun g4=>?_) fun g4=>?_
 ·
  simp at g4
  subst g4;have b:=hl.qz;subst b;have st2:=st1.fV RR.iV 50 8;refine(bB) ?_;exact⟨none,0,0,rfl,st2.p1.drop⟩
 refine cw ?_;refine WL.go rfl (OX.uG IY UG rfl fun b5 w1 j o=>?_);have st2:=St.qu (R:=RR.iV) (E:=50) (k:=8) (a:=some ⟨b5,0,none⟩) (n:=0) (c:=0) (xs:=[]) st1 j.ext (OR.JY o (Nat.zero_le _)) (fun x b=>by simp [bA] at b;subst b;exact j.ge);refine nx ?_;refine WL.ap rfl rfl st2 ((As.gr st2.g1)) fun r s w2 t u p=>?_;refine(bB) ?_;exact⟨_,_,_,rfl,p.p1.drop⟩
theorem mc{xs:List bW}(m:St w M Z w []) (hl:Rd RR.aD 4 Z w a n c xs) (q:xs.length≤1000000):Calls prog 73 #[.slice a n c] w fun e w'=>∃d g h,e=.returned (.slice d g h)∧St w M Z w' [As.os RR.aD 80 4 d g h xs]:=by
 have hlen:=hl.len;refine enter func73 rfl ntmps73 rfl<|?_;have aO:=m;have st1:=aO.fr hl;refine(aX) (fun g4=>?_) fun g4=>?_
 ·
  simp at g4
  subst g4;have b:=hl.qz;subst b;have st2:=st1.fV RR.aD 80 4;refine(bB) ?_;exact⟨none,0,0,rfl,st2.p1.drop⟩
 refine cw ?_;refine WL.go rfl (OX.uG IX UH rfl fun b5 w1 j o=>?_);have st2:=St.qu (R:=RR.aD) (E:=80) (k:=4) (a:=some ⟨b5,0,none⟩) (n:=0) (c:=0) (xs:=[]) st1 j.ext (OR.JY o (Nat.zero_le _)) (fun x b=>by simp [bA] at b;subst b;exact j.ge);refine nx ?_;refine WL.ap rfl rfl st2 ((As.gr st2.g1)) fun r s w2 t u p=>?_;refine(bB) ?_;exact⟨_,_,_,rfl,p.p1.drop⟩
theorem mL{x:Rec}(p:St w M Z w []) (hk:Rd RR.key 2 Z w a n c x.reads) (s:x.reads.length≤4000):Calls prog 80 #[.agg (x.row a n c).toArray] w fun e w'=>∃d g h,e=.returned (.agg (x.row d g h).toArray)∧St w M Z w' [As.os RR.key 43 2 d g h x.reads]:=by
 refine enter func80 rfl ntmps80 rfl<|?_;have aO:=p;have st1:=aO.fr hk;refine(dx) st1 fun b1 w1 t u st2=>?_;refine(gx) st2 fun b2 w2 v y j=>?_;refine(bp) fG j.b1<|?_;have b:=j;refine(cJ) EM (gL b.e0 (As.gr b.g2) (by omega)) ?_;rintro _ w3 ⟨f1,f2,f3,rfl,q⟩;have r:=St.lr b q;refine nx ?_;refine WL.s1 r.p2 fun w4 _ m=>?_;refine(bP) fI m.b0<|(dZ) mF m.p2 fun w5 z A o=>?_;refine(kp) fI o.b0<|?_;exact⟨_,_,_,rfl,o.p2.k1⟩
theorem me{p:Rec→Bool}(g:CF prog f) (hl:Rd RR.iV 8 Z w a n c l) (m:∀w1,aQ [] w w1→∀x∈l,∀a n c,Rd RR.key 2 Z w1 a n c x.reads→Calls prog f #[.agg (x.row a n c).toArray,cap] w1 fun e w'=>e=.returned (.bool (p x))∧aQ [] w1 w'):Calls prog 101 #[.slice a n c,.func (.func f) #[] #[cap]] w fun e w'=>∃j:Int,e=.returned (.int .i64 j)∧qO l p j∧aQ [] w w':=by
 have hlen:=hl.len;have hle:=hl.le;refine enter func101 rfl ntmps101 rfl<|?_;have aO:=St.s0 w;refine aT ?_;refine bM ?_;refine WC.bj (σ:=Nat) (db:=fun i=>[(0,.slice a n c),(1,.func (.func f) #[] #[cap]),(7,.int .i64 (n:Int)),(8,.int .i64 (i:Int))]) (F:=fun i=>[]) (I:=fun i=>(i≤n)∧(∀j x,j<i→l[j]?=some x→p x=false)∧True) (μ:=fun i=>n - i) (0) (aO) Sub.t (⟨by omega,fun j x h=>by omega,trivial⟩)<|?_;rintro i w1 st1 ⟨hi,b,_⟩;simp only [CA,NA] at st1 hi b ⊢;refine(aX) (fun g9=>?_) fun g9=>?_
 ·
  simp at g9
  have d:i<l.length:=by omega
  refine iM ?_;obtain⟨A,B,C,o,E,q,s,G⟩:=Rd.at hl d;obtain⟨q1,H,J,rfl,u,K⟩:=q;refine cw ?_;refine WP .r (PV.dR lM o rfl rfl (by omega))<|(bP) fI (aV s (St.cg st1) (by simp))<|?_;refine WL.go rfl (OX.kG g rfl rfl rfl ((Calls.cap (m _ (St.cg st1) l[i] (List.getElem_mem d) _ _ _ (u.ext (St.cg st1)))).mono ?_));rintro _ w2 ⟨rfl,s2⟩;refine⟨_,rfl,?_⟩;have st2:=st1.step s2;refine(aX) (fun g16=>?_) fun g16=>?_
  ·
   refine(bB) ?_;exact⟨_,rfl,.inl ⟨i,_,ah d,g16,b,rfl⟩,(St.cg st2)⟩
  have g16:p l[i]=false:=by simpa using g16
  refine fb ?_;refine fx (i+1) ⟨st2,⟨by omega,cH d b (by simpa using g16),trivial⟩⟩
 simp at g9
 have v:∀x∈l,p x=false:=fun x y=>by obtain⟨j,z,rfl⟩:=List.getElem_of_mem y;exact b j _ (by omega) (ah z)
 refine(bB) ?_;exact⟨_,rfl,.inr ⟨v,rfl⟩,(St.cg st1)⟩
theorem oA{p:Rec→Bool}(d:CF prog f) (hl:Rd RR.iV 8 Z w a n c l) (g:∀w1,aQ [] w w1→∀x∈l,∀a n c,Rd RR.key 2 Z w1 a n c x.reads→Calls prog f #[.agg (x.row a n c).toArray,cap] w1 fun e w'=>e=.returned (.bool (p x))∧aQ [] w1 w') (h:∀x∈l,p x=false):CR prog 110 #[.slice a n c,.func (.func f) #[] #[cap]] w (.bool false):=by
 refine enter func110 rfl ntmps110 rfl<|?_;have aO:=St.s0 w;refine(cJ) I0 (me (w:=w) d (hl.ext (St.cg aO)) (fun w1 h1=>g w1 (aQ.trans (St.cg aO) h1))) ?_;rintro _ w1 ⟨j,rfl,m,s1⟩;have st1:=aO.step s1
 have o:j = -1:=by rcases m with⟨i,x,h1,b,_⟩ | ⟨_,b⟩;exact absurd b (by simp [h x (List.mem_of_getElem? h1)]);exact b
 subst o;refine(bB) ?_;exact⟨by simp,(St.cg st1)⟩
theorem sV{l:List Key}(hl:Rd RR.key 2 Z w a n c l):Calls prog 95 #[.slice a n c,k.val] w fun e w'=>((k∈l∧∃i:Nat,e=.returned (.int .i64 (i:Int)))∨(k∉l∧e=.returned (.int .i64 (-1))))∧aQ [] w w':=by
 have hlen:=hl.len;have hle:=hl.le;refine enter func95 rfl ntmps95 rfl<|?_;have aO:=St.s0 w;refine(dx) aO fun b3 w1 A B st1=>?_;refine aT ?_;refine WC.bj (σ:=Nat) (db:=fun i=>[(0,.slice a n c),(3,.pointer (some ⟨b3,0,none⟩)),(7,.int .i64 (n:Int)),(8,.int .i64 (i:Int))]) (F:=fun i=>[]) (I:=fun i=>(i≤n)∧(∀j x,j<i→l[j]?=some x→x≠k)∧True) (μ:=fun i=>n - i) (0) (st1) Sub.t (⟨by omega,fun j x h=>by omega,trivial⟩)<|?_;rintro i w2 st2 ⟨hi,b,_⟩;simp only [CA,NA] at st2 hi b ⊢;refine(aX) (fun g9=>?_) fun g9=>?_
 ·
  simp at g9
  have d:i<l.length:=by omega
  refine iM ?_;obtain⟨C,E,G,u,H,g,v,J⟩:=Rd.at hl d;have g:=RR.bt g;subst g;have K:=st2.bL;refine WC.dS (m:=5) st2 mixed<|(gy) ak St.g0<|bM ?_;refine DP .r (fun _ o=>PV.dR ez u rfl rfl (by omega))<|DP .r (fun _ o=>VA ak (aV v (St.cg o.2) (by simp)) .r)<|(cM)<|?_;rintro w3 ⟨L,s⟩ _;refine WP .r (PV.Dh fP (p:=k) (q:=l[i]) rfl rfl)<|(aX) (fun g16=>?_) fun g16=>?_
  ·
   simp at g16
   refine(bB) ?_;exact⟨.inl ⟨g16 ▸ List.getElem_mem d,i,rfl⟩,(St.cg s)⟩
  simp at g16
  refine fb ?_;refine fx (i+1) ⟨s,⟨by omega,cH d b (fun e=>g16 e.symm),trivial⟩⟩
 simp at g9
 have y:k∉l:=fun hm=>by obtain⟨j,z,h⟩:=List.getElem_of_mem hm;exact b j _ (by omega) (ah z) h
 refine(bB) ?_;exact⟨.inr ⟨y,rfl⟩,(St.cg st2)⟩
theorem oB{l:List Key}(hl:Rd RR.key 2 Z w a n c l):CR prog 56 #[.slice a n c,k.val] w (.bool (decide (k∈l))):=by
 refine enter func56 rfl ntmps56 rfl<|?_;have aO:=St.s0 w;refine(dx) aO fun b3 w1 m o st1=>?_;refine(bP) ak st1.b0<|(cJ) VC ((sV (k:=k) (w:=w1) (hl.ext (St.cg st1))).mono (fun e d h=>show ∃j:Int,e=.returned (.int .i64 j)∧decide (0≤j)=decide (k∈l)∧aQ [] w1 d from by rcases h.1 with⟨h1,i,b⟩ | ⟨h1,b⟩;exact⟨i,b,by simp [h1],h.2⟩;exact⟨-1,b,by simp [h1],h.2⟩)) ?_;rintro _ w2 ⟨j,rfl,g,s2⟩;have st2:=st1.step s2;refine(bB) ?_;exact⟨by rw [g],(St.cg st2)⟩
theorem vA{x:Rec}(hb:bJ w bk 43 k.cells):CR prog 102 #[.agg (x.row a n c).toArray,.pointer (some ⟨bk,0,none⟩)] w (.bool (decide (x.key=k))):=by
 refine enter func102 rfl ntmps102 rfl<|?_;have aO:=St.s0 w;refine(dx) aO fun b2 w1 b d st1=>?_;refine(ko) ak st1.b0<|(bP) ak (bJ.range (hb.ext (St.cg st1)))<|?_;refine WP .r (PV.Dh fP (p:=x.key) (q:=k) rfl rfl)<|(bB) ?_;exact⟨rfl,(St.cg st1)⟩
theorem vB(E:St w M Z w []) (hl:Rd RR.iV 8 Z w a n c l):Calls prog 60 #[.slice a n c,k.val] w fun e w'=>∃v y z,e=.returned (.tuple #[.agg ((aF l k).row v y z).toArray,.bool (ay l k).isSome])∧(aF l k).reads.length≤4000∧St w M Z w' [As.os RR.key 43 2 v y z (aF l k).reads]:=by
 have hlen:=hl.len;have hle:=hl.le;refine enter func60 rfl ntmps60 rfl<|?_;have aO:=E;have st1:=aO.fr hl;refine(dx) st1 fun b3 w1 U V st2=>?_;refine(gx) st2 fun b4 w2 W X q=>?_;refine fj ?_;refine WP .r (PV.func (us:=[]) (vs:=[.pointer (some ⟨b3,0,none⟩)]) rfl rfl)<|(cJ) I0 (me (p:=fun x=>decide (x.key=k)) Px (As.gr q.g2) (fun w1 h1 x _ a n c _=>vA ((As.gb q.g1).ext h1))) ?_;rintro _ w3 ⟨j,rfl,o,F⟩;have s:=q.step F;refine(aX) (fun g11=>?_) fun g11=>?_
 ·
  simp at g11
  have G:∀x∈l,(decide (x.key=k))=false:=by rcases o with⟨i,x,_,_,_,h⟩ | ⟨h,_⟩;omega;exact h
  have d:ay l k=none:=qp (i:=l.length) (Nat.le_refl _) (fun j x _ g=>by simpa using G x (List.mem_of_getElem? g))
  have b:aF l k=na:=by unfold aF;rw [d];rfl
  have t:=s.fV RR.key 43 2;refine(dZ) mF t.p1 fun w4 Y rH m=>?_;refine dp ?_;refine EX.jd rfl (RS.cell fI rfl m.b0 rfl<|RS.tmp rfl<|RS.nil) rfl<|?_;exact⟨none,0,0,by rw [d,b];rfl,by rw [b];simp [na],by rw [b];exact m.p1.k1⟩
 simp at g11
 obtain⟨i,x,g,H,I,rfl⟩:∃i:Nat,∃x,l[i]?=some x∧decide (x.key=k)=true∧(∀j x,j<i→l[j]?=some x→(x.key == k)=false)∧j=i:=by
  rcases o with⟨i,x,h1,J,K,L⟩ | ⟨_,h⟩
  ·
   exact⟨i,x,h1,J,fun j x o g=>by simpa using K j x o g,L⟩
  omega
 obtain⟨A,rfl⟩:=List.getElem?_eq_some_iff.1 g;have d:ay l k=some l[i]:=iT A I (by simpa using H)
 have b:aF l k=l[i]:=by unfold aF;rw [d];rfl
 refine cv ?_;obtain⟨jj,sJ,sK,N,ma,O,P,Q⟩:=Rd.at (As.gr s.g2) A;obtain⟨q1,q2,q3,rfl,R,B⟩:=O;have t:=s.fg Q P;have m:=t.fr R;refine cv ?_;refine WP .r (PV.dR lM N rfl rfl (by omega))<|(bP) fI (As.nS m.g1)<|?_;have u:=m;refine(cJ) Lo (mL u.e0 (As.gr u.g0) B) ?_;rintro _ w4 ⟨e1,e2,e3,rfl,S⟩;have T:=St.lr u S;refine(dZ) mF T.p3 fun w5 Bt wu C=>?_;refine cw ?_;refine EX.jd rfl (RS.cell fI rfl C.b0 rfl<|RS.tmp rfl<|RS.nil) rfl<|?_;exact⟨e1,e2,e3,by rw [d,b];rfl,by rw [b];exact B,by rw [b];exact C.p1.k1⟩
theorem vC(B:St w M Z w []) (hl:Rd RR.iV 8 Z w a n c l) (C:l.length≤1000000):Calls prog 74 #[.slice a n c] w fun e w'=>∃q s u Z',e=.returned (.slice q s u)∧fE w.heap.size Z Z'∧St w M Z' w' [As.os RR.iV 50 8 q s u l]:=by
 have hlen:=hl.len;have hle:=hl.le;refine enter func74 rfl ntmps74 rfl<|?_;have aO:=B;have st1:=aO.fr hl;refine gW ?_;have st2:=st1;refine(cJ) PK (sU st2.e0 (As.gr st2.g0) C) ?_;rintro _ w1 ⟨f1,f2,f3,rfl,E⟩;have v:=St.lr st2 E;have U:=((As.gs v.g0)).len;refine aT ?_;refine WC.nf (σ:=Nat × (Nat→Prop)) (db:=fun(i,b)=>[(3,.slice f1 f2 f3),(8,.slice f1 f2 f3),(9,.int .i64 (f2:Int)),(10,.int .i64 (i:Int))]) (F:=fun(i,b)=>[As.os RR.iV 50 8 f1 f2 f3 l]) (I:=fun(i,b)=>(i≤f2)∧(fE w.heap.size Z b)∧True) (μ:=fun(i,b)=>f2 - i) (Zf:=fun(i,b)=>b) (0,Z) (v) Sub.t (⟨by omega,fE.refl _ _,trivial⟩)<|?_;rintro⟨i,b⟩ w2 d ⟨hi,j,_⟩;simp only [CA,NA] at d hi j ⊢;refine(aX) (fun g11=>?_) fun g11=>?_
 ·
  simp at g11
  have m:i<l.length:=by omega
  refine dp ?_;obtain⟨V,W,o,X,G,H⟩:=Ow.at (As.gs d.g0) (by omega) (ah m);obtain⟨q1,Y,q3,rfl,J,y⟩:=G;have K:=d.fr (J);refine bM ?_;refine WP .r (PV.dR lM o rfl rfl (by omega))<|(bP) fI H<|(gx) K fun b5 w3 QF QG L=>?_;refine(dZ) mF L fun w4 nT rH z=>?_;refine(bP) fI z.b0<|?_;have g:=z;refine(cJ) Lo (mL g.e0 (As.gr g.g1) y) ?_;rintro _ w5 ⟨e1,e2,e3,rfl,A⟩;have N:=St.lr g A;have O:=St.gV A;have hsz:=g.size;have p:=N.eX (by omega);have P:=j.trans (fE.wt (F:=fun x=>x∈bA e1) O) hsz;refine WP .r (PV.dR lM o rfl rfl (by omega))<|?_;refine WL.go rfl (OX.N5 (i:=i) mF (As.gs p.g3) o m rfl rfl rfl (Rec.one _ _ _ _) l[i] ⟨e1,e2,e3,rfl,(As.gr p.g0),y⟩ fun w6 Q R=>?_);have S:=p.p3.gN Q R (fun x h=>.inl h);have T:=S.N4 (List.set_getElem_self m);refine fb ?_;refine fx (i+1,_) ⟨T.p4.p1.k2,⟨by omega,P,trivial⟩⟩
 refine(bB) ?_;exact⟨_,_,_,_,rfl,j,d.p1.drop⟩
theorem rS(B:St w M Z w []) (hi:Rd RR.aD 4 Z w a1 n1 e1 x.ab) (hr:Rd RR.iV 8 Z w a2 n2 e2 x.ai) (C:x.ai.length≤1000000) (E:x.ab.length≤1000000):Calls prog 39 #[.agg (x.row a1 n1 e1 a2 n2 e2).toArray] w fun e w'=>∃g h j o p q Z',e=.returned (.agg (x.row g h j o p q).toArray)∧fE w.heap.size Z Z'∧St w M Z' w' [As.os RR.aD 80 4 g h j x.ab,As.os RR.iV 50 8 o p q x.ai]:=by
 refine enter func39 rfl ntmps39 rfl<|?_;have aO:=B;have st1:=aO.fr hi;have st2:=st1.fr hr;refine(dx) st2 fun b1 w1 L N F=>?_;refine(gx) F fun b2 w2 O P G=>?_;refine cv ?_;refine WC.cu (m:=7) [] [2,5] [0,1,2,3,4,5,6] [] G (av.k4 M0 M1 M2 M3<|av.nil) mixed (by kernel_rfl) (by kernel_rfl) rfl<|(yM) i7 SV.g1<|(gK) (fun w3 Q R r S=>?_);simp only [CA,NA] at r;have d:=r;refine OX.call Pu rfl rfl ((mc d.e0 (As.gr d.g3) E).mono ?_);rintro _ w4 ⟨f1,f2,f3,rfl,s⟩;have H:=St.lr d s;refine⟨_,rfl,s.cq.size,_,rfl,_,_,_,H,aC.k4<|aC.cons<|aC.nil,av.k4 M1 M2 M3 M4<|av.nil,?_⟩;refine(yM) kg SV.g1<|(gK) (fun w5 T U t V=>?_);simp only [CA,NA] at t;have b:=t;refine OX.call Vr rfl rfl ((vC b.e0 (As.gr b.g3) C).mono ?_);rintro _ w6 ⟨f4,f5,f6,W,rfl,u,v⟩;have I:=St.lv b v u;have J:=u.le b.size;refine⟨_,rfl,v.cq.size,_,rfl,_,_,_,I,aC.k4<|aC.k2<|aC.nil,av.k4 M2 M3 M4 M5<|av.nil,?_⟩;refine(ly) ?_;intro w7 X y;simp only [CM,NM,CA,NA,iK.it] at y;refine WL.s1 y.p3 fun Y _ K=>?_;refine nx ?_;refine WL.s1 K fun w9 _ z=>?_;refine WL.nil (EX.np ?_);refine(bP) cc z.b0<|(dZ) kW z.p3 fun lI nT rH A=>?_;refine(kp) cc A.b0<|?_;exact⟨_,_,_,_,_,_,_,rfl,J,A.p2.p3.k2⟩
theorem oC{r:Rec}{b:Nat}(hb:bJ w b 32 (x.row a1 n1 e1 a2 n2 e2)):CR prog 111 #[.agg (r.row a n c).toArray,.pointer (some ⟨b,0,none⟩)] w (.bool (decide (x.ad<r.aq))):=by
 refine enter func111 rfl ntmps111 rfl<|?_;have aO:=St.s0 w;refine(dx) aO fun b2 w1 d e st1=>?_;refine(bp) aP st1.b0<|(bp) aP (bJ.range (hb.ext (St.cg st1)))<|(bB) ?_;exact⟨rfl,(St.cg st1)⟩
set_option maxHeartbeats 400000
theorem sX{l:List bW}{p:bW→Bool}(m:CF prog f) (hl:Rd RR.aD 4 Z w a n c l) (o:∀w1,aQ [] w w1→∀x∈l,Calls prog f #[.agg x.cells.toArray,cap] w1 fun e w'=>e=.returned (.bool (p x))∧aQ [] w1 w'):Calls prog 146 #[.slice a n c,.func (.func f) #[] #[cap]] w fun e w'=>∃j:Int,e=.returned (.int .i64 j)∧qO l p j∧aQ [] w w':=by
 have hlen:=hl.len;have hle:=hl.le;refine enter func146 rfl ntmps146 rfl<|?_;have aO:=St.s0 w;refine aT ?_;refine bM ?_;refine WC.bj (σ:=Nat) (db:=fun i=>[(0,.slice a n c),(1,.func (.func f) #[] #[cap]),(7,.int .i64 (n:Int)),(8,.int .i64 (i:Int))]) (F:=fun i=>[]) (I:=fun i=>(i≤n)∧(∀j x,j<i→l[j]?=some x→p x=false)∧True) (μ:=fun i=>n - i) (0) (aO) Sub.t (⟨by omega,fun j x h=>by omega,trivial⟩)<|?_;rintro i w1 st1 ⟨hi,b,_⟩;simp only [CA,NA] at st1 hi b ⊢;refine(aX) (fun g9=>?_) fun g9=>?_
 ·
  simp at g9
  have d:i<l.length:=by omega
  refine iM ?_;obtain⟨z,A,B,q,C,g,s,E⟩:=Rd.at hl d;have g:=RR.bt g;subst g;refine cw ?_;refine WP .r (PV.dR pM q rfl rfl (by omega))<|(bP) kc (aV s (St.cg st1) (by simp))<|?_;refine WL.go rfl (OX.kG m rfl rfl rfl ((Calls.cap (o _ (St.cg st1) l[i] (List.getElem_mem d))).mono ?_));rintro _ w2 ⟨rfl,s2⟩;refine⟨_,rfl,?_⟩;have st2:=st1.step s2;refine(aX) (fun g16=>?_) fun g16=>?_
  ·
   refine(bB) ?_;exact⟨_,rfl,.inl ⟨i,_,ah d,g16,b,rfl⟩,(St.cg st2)⟩
  have g16:p l[i]=false:=by simpa using g16
  refine fb ?_;refine fx (i+1) ⟨st2,⟨by omega,cH d b (by simpa using g16),trivial⟩⟩
 simp at g9
 have u:∀x∈l,p x=false:=fun x v=>by obtain⟨j,y,rfl⟩:=List.getElem_of_mem v;exact b j _ (by omega) (ah y)
 refine(bB) ?_;exact⟨_,rfl,.inr ⟨u,rfl⟩,(St.cg st1)⟩
theorem sY{x:bW}(hb:bJ w bk 43 k.cells):CR prog 147 #[.agg x.cells.toArray,.pointer (some ⟨bk,0,none⟩)] w (.bool (decide (x.key=k))):=by
 refine enter func147 rfl ntmps147 rfl<|?_;have aO:=St.s0 w;refine(dx) aO fun b2 w1 b d st1=>?_;refine(ko) ak st1.b0<|(bP) ak (bJ.range (hb.ext (St.cg st1)))<|?_;refine WP .r (PV.Dh fP (p:=x.key) (q:=k) rfl rfl)<|(bB) ?_;exact⟨rfl,(St.cg st1)⟩
theorem j1(hi:Rd RR.aD 4 Z w a1 n1 e1 x.ab):Calls prog 100 #[.agg (x.row a1 n1 e1 a2 n2 e2).toArray,k.val] w fun e w'=>∃y:bW,e=.returned (.agg y.cells.toArray)∧y.value=(bf x.ab k).value∧y.changed=(bf x.ab k).changed∧aQ [] w w':=by
 have hlen:=hi.len;have hle:=hi.le;refine enter func100 rfl ntmps100 rfl<|?_;have aO:=St.s0 w;refine(dx) aO fun b2 w1 H I st1=>?_;refine(dx) st1 fun b3 w2 J K st2=>?_;refine(gx) st2 fun b4 w3 L N m=>?_;refine(bp) i7 m.b2<|?_;refine WP .r (PV.func (us:=[]) (vs:=[.pointer (some ⟨b3,0,none⟩)]) rfl rfl)<|(cJ) P9 (sX (p:=fun x=>decide (x.key=k)) Qa (hi.ext (St.cg m)) (fun w1 h1 y _=>sY ((As.gb m.g1).ext h1))) ?_;rintro _ w4 ⟨j,rfl,o,u⟩;have q:=m.step u;refine(aX) (fun g11=>?_) fun g11=>?_
 ·
  simp at g11
  have v:∀y∈x.ab,(decide (y.key=k))=false:=by rcases o with⟨i,y,_,_,_,h⟩ | ⟨h,_⟩;omega;exact h
  have b:x.ab.find? (fun x=>x.key == k)=none:=qp (i:=x.ab.length) (Nat.le_refl _) (fun j x _ d=>by simpa using v x (List.mem_of_getElem? d));refine(dZ) xK q fun w5 O P g=>?_;refine(kp) kc g.b0<|?_;exact⟨⟨dA,⟨#[]⟩,0⟩,rfl,by unfold bf;rw [b];rfl,by unfold bf;rw [b];rfl,(St.cg g)⟩
 simp at g11
 obtain⟨i,y,d,z,A,rfl⟩:∃i:Nat,∃y,x.ab[i]?=some y∧decide (y.key=k)=true∧(∀j y,j<i→x.ab[j]?=some y→(y.key == k)=false)∧j=i:=by
  rcases o with⟨i,y,h1,B,C,E⟩ | ⟨_,h⟩
  ·
   exact⟨i,y,h1,B,fun j y o d=>by simpa using C j y o d,E⟩
  omega
 obtain⟨t,rfl⟩:=List.getElem?_eq_some_iff.1 d;have b:x.ab.find? (fun x=>x.key == k)=some x.ab[i]:=iT t A (by simpa using z);refine cv ?_;obtain⟨Q,R,S,F,T,s,G,U⟩:=Rd.at hi t;have s:=RR.bt s;subst s;refine(bp) i7 q.b2<|nx ?_;refine WP .r (PV.dR pM F rfl rfl (by omega))<|(bP) kc (aV G (St.cg q) (by simp))<|(dZ) xK q fun w5 V W g=>?_;refine(kp) kc g.b0<|?_;exact⟨x.ab[i],rfl,by unfold bf;rw [b];rfl,by unfold bf;rw [b];rfl,(St.cg g)⟩
theorem pr(hi:Rd RR.aD 4 Z w a1 n1 e1 x.ab) (hr:Rd RR.iV 8 Z w a2 n2 e2 x.ai):CR prog 59 #[.agg (x.row a1 n1 e1 a2 n2 e2).toArray,k.val] w (.string (bf x.ab k).value):=by
 refine enter func59 rfl ntmps59 rfl<|?_;have aO:=St.s0 w;refine(dx) aO fun b2 w1 e g st1=>?_;refine(dx) st1 fun b3 w2 h j st2=>?_;refine(bP) cc st2.b1<|(bP) ak st2.b0<|(cJ) EN (j1 (k:=k) (hi.ext (St.cg st2))) ?_;rintro _ w3 ⟨y,rfl,hy,_,b⟩;have d:=st2.step b;refine WP .r (PV.uK (fs:=[_,_,_]) (f:=1) (off:=2) (T:=80) underlying80 rfl rfl (show ∀w,(isAgg 9).run _ w=.ok false w from isAgg9) rfl rfl)<|(bB) ?_;exact⟨by rw [← hy],(St.cg d)⟩
set_option maxHeartbeats 400000
theorem ye{ar:Option Addr}{r cr c1 c2:Nat}(b:St w M Z w []):Calls prog 75 #[.slice ar r cr,.agg (x.row a1 n1 c1 a2 n2 c2).toArray] w fun e w'=>∃s m q,e=.returned (.pointer (some ⟨s,0,none⟩))∧St w M Z w' [As.blk s 157 (SD.cells ⟨ar,a1,a2,r,cr,n1,c1,n2,c2,m,q,s⟩ x),As.map Key.val m [],As.map Key.val q []]:=by
 refine enter func75 rfl ntmps75 rfl<|?_;have aO:=b;refine(dx) aO fun b3 w1 o p st1=>?_;refine(bP) cc st1.b0<|?_;refine WL.mm Key.val st1 fun d w2 t u st2=>?_;refine WL.mm Key.val st2 fun g w3 v y h=>?_;refine WP .r (PV.br (us:=(SD.cells ⟨ar,a1,a2,r,cr,n1,c1,n2,c2,d,g,0⟩ x)) Pb rfl rfl rfl)<|(dx) h fun z w4 A B j=>?_;refine(bB) ?_;exact⟨_,_,_,rfl,j.p3.drop.p2.p1⟩
set_option maxHeartbeats 400000
def Jd(aa:List aG) (x:cB) (D:SD) (k:Key):Prop:=∀(w:World) (M Z:Nat→Prop) (ml al:List (Key × Value)),St w M Z w [As.map Key.val D.m ml,As.map Key.val D.q al]→(D.FV prog aa x).p Z w→aJ aa x.ab ml→(aw k=false→jz aa (number k).toNat al)→
 Calls prog 158 #[.pointer (some ⟨D.s,0,none⟩),k.val] w fun e w'=>∃jP,e=.returned (.string (valOf aa x.ab k))∧aJ aa x.ab jP∧eE ml jP∧St w M Z w' [As.map Key.val D.m jP,As.map Key.val D.q al]
set_option maxHeartbeats 1600000 in
theorem yf(gJ:St w M Z w [As.map Key.val D.m ml,As.map Key.val D.q al]) (hf:(D.FV prog aa x).p Z w) (hm:aJ aa x.ab ml) (u:ao aa) (hi:i<aa.length) (hS:∀k,(valOf aa x.ab k).size≤1000) (wE:∀a,dB aa i a→aw a=false→jz aa (number a).toNat al) (ih:∀a,dB aa i a→Jd aa x D a):Calls prog 202 #[.pointer (some ⟨D.s,0,none⟩),(aN aa (i:Int)).val,(.func (.func 158) #[.pointer (some ⟨D.s,0,none⟩)] #[])] w fun e w'=>∃R ra rn rc,e=.returned (.tuple #[.string (valOf aa x.ab (aN aa (i:Int))),.slice ra rn rc])∧aJ aa x.ab R∧eE ml R∧St w M Z w' (As.os RR.key 43 2 ra rn rc (ca aa x.ab i)::[As.map Key.val D.m R,As.map Key.val D.q al]):=by
 have CT:=u.len
 have gu:i≤99:=by omega
 have ha6:=iw u hi;refine enter func202 rfl ntmps202 rfl<|?_;have aO:=gJ;have st1:=aO.fact (B:=As.fz (D.FV prog aa x)) hf (fun _ S=>S);have st2:=st1.fact (B:=As.rg D.s 0 (D.cells x)) (SD.FV.rg hf) (fun _ S=>S);have lN:=st2.fV RR.key 43 2;have jl:=lN.fV RR.str 9 1;refine(dx) jl fun b4 w1 CX H0 ki=>?_;refine aT ?_;refine cv ?_;refine WC.bj (σ:=Nat × (List (Key × Value)) × (List Key) × (List ByteArray) × (Option Addr) × Nat × Nat × (Option Addr) × Nat × Nat) (db:=fun(n,y,j,acc,z,o,C,K,G,L)=>[(0,.pointer (some ⟨D.s,0,none⟩)),(2,(.func (.func 158) #[.pointer (some ⟨D.s,0,none⟩)] #[])),(4,.pointer (some ⟨b4,0,none⟩)),(8,.slice z o C),(9,.slice K G L)]) (F:=fun(n,y,j,acc,z,o,C,K,G,L)=>[As.os RR.key 43 2 z o C (j),As.os RR.str 9 1 K G L (acc),As.map Key.val D.m y]) (I:=fun(n,y,j,acc,z,o,C,K,G,L)=>(n≤bQ aa i)∧(aJ aa x.ab y)∧(eE ml y)∧(j=(dc (bN aa (aN aa (i:Int))) (valOf aa x.ab) n).1)∧(acc=(dc (bN aa (aN aa (i:Int))) (valOf aa x.ab) n).2)∧(∀s∈acc,s.size≤1000)∧True) (μ:=fun(n,y,j,acc,z,o,C,K,G,L)=>bQ aa i - n) (0,ml,[],[],none,0,0,none,0,0) (ki.p5.p2.p3) Sub.t (⟨by omega,hm,eE.refl _,rfl,rfl,by simp,trivial⟩)<|?_;rintro⟨n,y,j,acc,z,o,C,K,G,L⟩ w2 H ⟨hn,T,U,P,O,hsz,_⟩;simp only [CA,NA] at H hn T U P O hsz ⊢;have vl:=((As.gs H.g1)).len;have SO:=((As.gs H.g0)).len
 have Q6:acc.length=n:=by rw [O];exact(ep _ _ n).2
 have OM:j.length=n:=by rw [P];exact(ep _ _ n).1
 obtain⟨t,J⟩:∃t,bN aa (aN aa (i:Int)) acc=t:=⟨_,rfl⟩;refine bM ?_;have CZ:=H.bL;have Mh:=H.jC;have Mi:=H.size;refine WC.dh (m:=8) (E:=cA [(6,fun v _=>v=t.val),(7,PB w2.heap.size 142 [.bool false,.string ⟨#[]⟩,.int .i64 0,.string ⟨#[]⟩])]) H (bz (⟨fun _ _ _ _ _ _ _ h=>h,⟨fun _ _ _ _ _ _ c h=>PB.st CZ c h,trivial⟩⟩)) mixed (by kernel_rfl)<|cv ?_;refine DP .r (fun _ g=>V1 kf (As.nS g.2.g4) .r)<|(gy) ak St.g3<|nx ?_;refine DW.c1 (fun V g hF=>jn (SD.ht ((As.gf g.2.g5)).1) u hi (SD.hu ((As.gf g.2.g5)).1) (Ow.rd (As.gs g.2.g1) (by omega)) hsz) (by rw [J])<|?_;refine DW.e rfl rfl rfl rfl rfl (fun V g hF=>OX.alloc nH rfl fun b wy d hb=>⟨⟨Nat.le_trans g.1 d.ext.size,g.2.step d.ext⟩,d.ext.p0,_,rfl,_,rfl,Nat.le_trans g.1 d.ge,hb⟩)<|?_;rintro _ wz _ ⟨Ta,rfl,_,_⟩;refine(cM) ?_;rintro w3 ⟨xV,ku⟩ ⟨HM,⟨_,_⟩⟩;have im:=ku.BN HM CZ Mh Mi;refine(dZ) fc im fun w4 nT rH Q=>?_;refine(bp) dd Q.b0<|(aX) (fun g19=>?_) fun g19=>?_
 ·
  have W:n=bQ aa i:=by
   rcases Nat.lt_or_ge n (bQ aa i) with h | h
   ·
    obtain⟨a,h1,_⟩:=cR u hi (ae:=acc) (by omega);rw [J] at h1;rw [h1] at g19;cases g19
   omega
  have ob:t.value=valOf aa x.ab (aN aa (i:Int)):=by
   have h1:=eM (aD:=x.ab) u hi;rw [← W,← O,J] at h1;rw [h1]
  refine(bp) ff Q.b0<|kL ?_;have N:=Q.p1.sr (B:=As.os RR.key 43 2 z o C (ca aa x.ab i)) (by rw [P,W];rfl);refine(wv) ?_;exact⟨_,_,_,_,by rw [ob],T,U,N.p7.p4.p2.k3⟩
 have W:n<bQ aa i:=by
  rcases Nat.lt_or_ge n (bQ aa i) with h | h
  ·
   exact h
  have h1:=et u hi (ae:=acc) (by omega);rw [J] at h1;rw [h1] at g19;cases g19
 obtain⟨a,wD,yP,_⟩:=cR u hi (ae:=acc) (by omega);rw [J] at wD
 have C2:t.ask=a:=by rw [wD]
 refine bM ?_;refine WC.cu (m:=11) [] [4,9] [0,1,2,3,4,6,7,8,9,5,10] [(3,.sl 43 1 t.ask.cells),(10,.sl 9 1 [.string (valOf aa x.ab t.ask)])] Q (av.k4 M0 M2 M4 M5<|av.cons M6<|av.nil) mixed (by kernel_rfl) (by kernel_rfl) rfl<|?_
 iterate 2 refine DG.a ?_
 refine(AR) ak SV.g0<|?_;refine DG.side (s:=.sl 43 1 t.ask.cells) rfl rfl rfl rfl rfl rfl (fun V Zx Rx su X=>OX.aS (us:=t.ask.cells) du rfl rfl rfl rfl fun b wy d hb=>⟨d.ext.size,_,rfl,⟨b,rfl⟩,X.df d hb⟩)<|?_;rintro _ ⟨WU,rfl⟩;refine(gK) (fun w5 Je yg N kZ=>?_);simp only [CA,NA] at N;refine OX.mX nG rfl rfl rfl (As.gs N.g1) (SR.dr (A:=fun _=>True) (x:=t.ask) (show bJ _ WU _ _ from N.ok _ (.tail _ (.tail _ (.tail _ (.tail _ (.tail _ (.tail _ (.tail _ (.tail _ (kZ _ (.head _))))))))))) trivial rfl (by simp [Key.cells,Value.oneCell']) rfl) (by omega) (by omega) (Nat.zero_le _) fun WV Mj w6 Mk Ml Mm WW=>?_;have eC:=N.p1.gN Ml Mk Mm;refine⟨Ml.size,_,rfl,_,_,_,eC,aC.k4<|aC.k4<|aC.nil,av.k4 M1 M2 M4 M5<|av.cons M6<|av.nil,?_⟩
 iterate 2 refine DG.a ?_
 refine(AR) ak SV.g0<|(gK) (fun w7 Nw CO eQ pw=>?_);simp only [CA,NA] at eQ;have Y:=eQ.p7.p4;refine OX.kG Br rfl rfl rfl ((Calls.recv (ih t.ask (by rw [C2];exact yP) _ _ _ _ _ Y.e2 (As.gf Y.g7) T (wE t.ask (by rw [C2];exact yP)))).mono ?_);rintro _ w8 ⟨dj,rfl,ss,pP,j0⟩;have dX:=St.lr Y j0;refine⟨_,rfl,j0.cq.size,_,rfl,_,_,_,dX,aC.k4<|aC.k4<|aC.nil,av.k4 M3 M4 M5 M6<|av.cons M7<|av.nil,?_⟩;refine DG.a<|?_;refine DG.side (s:=.sl 9 1 [.string (valOf aa x.ab t.ask)]) rfl rfl rfl rfl rfl rfl (fun V Zx Rx su X=>OX.aS (us:=[.string (valOf aa x.ab t.ask)]) hY rfl rfl rfl rfl fun b wy d hb=>⟨d.ext.size,_,rfl,⟨b,rfl⟩,X.df d hb⟩)<|?_;rintro _ ⟨H6,rfl⟩;refine(ly) ?_;intro w9 vt dQ;simp only [CM,NM,CA,NA,iK.it] at dQ;refine WL.ap rfl rfl dQ.p6 (SR.dr (A:=fun _=>True) (x:=valOf aa x.ab t.ask) (As.gb dQ.g0) trivial rfl (by simp [Value.oneCell']) rfl) fun Tb H7 lI Q7 Q8 gI=>?_;refine bM ?_;refine WL.nil (EX.np ?_);refine nx ?_;refine fx (n+1,dj,j++[t.ask],acc++[valOf aa x.ab t.ask],WV,(o+1),Mj,Tb,(G+1),H7) ⟨gI.p1.drop.p1.drop.p4.drop.p6.p6.p6.p4.p4.p6,⟨by omega,ss,U.trans pP,by simp only [dc];rw [← O,← P,J],by simp only [dc];rw [← O,J],fun s hs=>by rcases List.mem_append.1 hs with h | h;exact hsz s h;simp at h;subst h;exact hS _,trivial⟩⟩
theorem px(t:St w M Z w [As.map Key.val D.m ml,As.map Key.val D.q al]) (h:(D.FV prog aa x).p Z w) (hm:aJ aa x.ab ml) (hk:aw k=true):Calls prog 158 #[.pointer (some ⟨D.s,0,none⟩),k.val] w fun e w'=>∃b,e=.returned (.string (valOf aa x.ab k))∧aJ aa x.ab b∧eE ml b∧St w M Z w' [As.map Key.val D.m b,As.map Key.val D.q al]:=by
 refine enter func158 rfl ntmps158 rfl<|?_;have aO:=t;have st1:=aO.fact (B:=As.fz (D.FV prog aa x)) h (fun _ d=>d);have st2:=st1.fact (B:=As.rg D.s 0 (D.cells x)) (SD.FV.rg h) (fun _ d=>d);refine(dx) st2 fun b3 w1 y z j=>?_;refine(bP) ak j.b0<|(eY) (bX (k:=k)) j fun w2 s2 o=>?_;refine(aX) (fun g8=>?_) fun g8=>?_
 ·
  refine nx ?_;have A:=o.bL;refine WC.dS (m:=5) o mixed<|cv ?_;refine DP .r (fun _ u=>PV.wK cc (As.nS u.2.g1) rfl rfl)<|(gy) ak St.g0<|(cM)<|?_;rintro w3 ⟨C,g⟩ _;refine(eY) (pr (k:=k) (SD.hi ((As.gf g.g2)).1) (SD.hr ((As.gf g.g2)).1)) g fun w4 E v=>?_;refine(bB) ?_;exact⟨ml,by unfold valOf cellOf;rw [if_pos hk],hm,eE.refl _,v.p4.p4.k2⟩
 rw [hk] at g8;cases g8
def RgC(aa:List aG) (x:cB) (D:SD) (k:Key):Prop:=∀(w:World) (M Z:Nat→Prop) (ml al:List (Key × Value)),St w M Z w [As.map Key.val D.m ml,As.map Key.val D.q al]→(D.FV prog aa x).p Z w→aJ aa x.ab ml→jz aa (number k).toNat al→
 Calls prog 201 #[.pointer (some ⟨D.s,0,none⟩),k.val] w fun e w'=>∃jP,e=.returned (.tuple #[])∧aJ aa x.ab jP∧eE ml jP∧bq jP k=some (.string (valOf aa x.ab k))∧St w M Z w' [As.map Key.val D.m jP,As.map Key.val D.q al]
set_option maxHeartbeats 1600000 in
theorem Am(gJ:St w M Z w [As.map Key.val D.m ml,As.map Key.val D.q al]) (J:(D.FV prog aa x).p Z w) (hm:aJ aa x.ab ml) (z:ao aa) (hi:i<aa.length) (hS:∀k,(valOf aa x.ab k).size≤1000) (h:jz aa i al) (hrg:aA aa i=true→RgC aa x D (aN aa (i:Int))) (ih:aA aa i=false→∀a,dB aa i a→Jd aa x D a):Calls prog 158 #[.pointer (some ⟨D.s,0,none⟩),(aN aa (i:Int)).val] w fun e w'=>∃A,e=.returned (.string (valOf aa x.ab (aN aa (i:Int))))∧aJ aa x.ab A∧eE ml A∧St w M Z w' [As.map Key.val D.m A,As.map Key.val D.q al]:=by
 have CT:=z.len
 have gu:i≤99:=by omega
 have dw:=cG hi gu;have WX:=bC hi gu;have vl:=dN hi gu
 have SZ:decide ((aN aa (i:Int)).kind=32)=aA aa i:=by rw [dn hi gu];cases aA aa i <;> simp
 have FX:(bq al (aN aa (i:Int))).getD (.bool false)=.bool false:=by rw [h i (Nat.le_refl _) hi];rfl
 refine enter func158 rfl ntmps158 rfl<|?_;have aO:=gJ;have st1:=aO.fact (B:=As.fz (D.FV prog aa x)) J (fun _ C=>C);have st2:=st1.fact (B:=As.rg D.s 0 (D.cells x)) (SD.FV.rg J) (fun _ C=>C);refine(dx) st2 fun b3 w1 Nu CY K=>?_;refine(bP) ak K.b0<|?_;refine WL.c1 (u:=.bool false) (bX (k:=(aN aa (i:Int)))) (by rw [dw]) K fun w2 s2 L=>?_;refine bM ?_;refine WC.ef rfl<|cw ?_;have CZ:=L.bL;refine WC.dS (m:=10) L mixed<|cv ?_;refine DP .r (fun _ b=>V1 eZ (As.nS b.2.g1) .r)<|(gy) ak St.g0<|?_;refine DP .r (fun _ b=>PV.kF cE cZ jX (As.gm b.2.g3) rfl rfl)<|(cM) ?_;rintro w3 ⟨xV,E⟩ _;refine(aX) (fun g24=>?_) fun g24=>?_
 ·
  obtain⟨vv,N⟩:=Option.isSome_iff_exists.1 g24;have LJ:=hm _ vv N;refine(bB) ?_;exact⟨ml,by rw [N,LJ];rfl,hm,eE.refl _,E.p4.p4.k2⟩
 refine(bP) ak E.b0<|?_;refine WL.c1 (u:=.bool (aA aa i)) (dY (k:=(aN aa (i:Int))) vl) (by rw [SZ]) E fun w4 s4 j=>?_;refine(aX) (fun o=>?_) fun o=>?_
 ·
  refine(bP) ak j.b0<|?_;have d:=j.p4.p4;refine(cJ) Qx (hrg o _ _ _ _ _ d.e2 (As.gf d.g4) hm (by rw [WX];exact h)) ?_;rintro _ w5 ⟨dj,rfl,t,F,v,E0⟩;have g:=St.lr d E0;refine cw ?_;have WY:=g.bL;refine WC.dS (m:=5) g mixed<|cv ?_;refine DP .r (fun _ b=>V1 eZ (As.nS b.2.g3) .r)<|(gy) ak St.g2<|(cM)<|?_;rintro w6 ⟨Jf,y⟩ _;refine WP .r (PV.bF cE cZ jX (As.gm y.g0) (v) rfl rfl)<|(bB) ?_;exact⟨dj,by first | rfl | (rw [v];rfl),t,F,y.p1.p1.k2⟩
 refine nx ?_;have WZ:=j.bL;refine WC.dS (m:=5) j mixed<|cv ?_;refine DP .r (fun _ b=>V1 Ez (As.nS b.2.g1) .r)<|(gy) ak St.g0<|(cM)<|?_;rintro w5 ⟨Q9,d⟩ _;refine WP .r (PV.j6 cE kh Hg (As.gm d.g4) (FX) rfl rfl)<|(aX) (fun O=>?_) fun O=>?_
 ·
  exact cL O
 refine nx ?_;have QZ:=d.bL;refine WC.dS (m:=5) d mixed<|cv ?_;refine DP .r (fun _ b=>V1 Ez (As.nS b.2.g1) .r)<|(gy) ak St.g0<|(cM)<|?_;rintro w6 ⟨vt,g⟩ _;refine WL.go rfl (OX.put cE kh (As.gm g.g4) rfl rfl rfl fun w7 E9 vo=>?_);have y:=g.p4.iu E9 vo;refine cv ?_;refine WC.cu (m:=14) [] [9,13] [5,6,7,8,9,0,1,2,3,4,10,11,13,12] [] y (av.cons M1<|av.cons M2<|av.cons M3<|av.nil) mixed (by kernel_rfl) (by kernel_rfl) rfl<|(mQ) ak SV.g0<|?_;refine DG.a<|?_;refine DQ .r (fun wx Zx Rx _ P Q=>PV.func (us:=[.pointer (some ⟨D.s,0,none⟩)]) (vs:=[]) rfl rfl)<|(gK) (fun w8 Nw CO R pw=>?_);simp only [CA,NA] at R;have G:=R.p4
 refine OX.call EP rfl rfl ((yf G.e2 (As.gf G.g4) hm z hi hS (fun a ha S=>by
     have hg:aA aa i=false:=by simpa using o
     rcases ha with⟨n,T,rfl⟩ | ⟨m,T,rfl,_,h5,_⟩
     ·
      rw [aR (by omega)] at S;cases S
     rw [bC T (by omega),Int.toNat_natCast];exact h.put z hi (h5 hg) _) (ih (by simpa using o))).mono ?_)
 rintro _ w9 ⟨dj,ra,rn,rc,rfl,t,F,U⟩;have eQ:=St.lr G U;refine⟨_,rfl,U.cq.size,_,rfl,_,_,_,eQ,aC.k4<|aC.k2<|aC.nil,av.cons M3<|av.cons M4<|av.cons M5<|av.nil,?_⟩
 iterate 3 refine DG.a ?_
 refine DQ .r (fun wx Zx Rx _ P Q=>V1 eZ (As.nS (P.sv Q).g1) .r)<|(mQ) ak SV.g0<|?_
 iterate 2 refine DG.a ?_
 refine DG.cs rfl rfl rfl rfl rfl (fun lI aer aa3 H W0=>?_);simp only [CA,NA] at H;refine OX.put cE cZ (As.gm H.g1) rfl rfl rfl fun mH V rK=>?_;have dX:=H.p1.iu V rK
 have v:bq (cF dj (aN aa (i:Int)) (.string (valOf aa x.ab (aN aa (i:Int))))) (aN aa (i:Int))=some (.string (valOf aa x.ab (aN aa (i:Int)))):=by rw [dz,if_pos rfl]
 refine⟨V.size,rfl,_,_,_,dX,aC.k4<|aC.k2<|aC.nil,av.cons M3<|av.cons M4<|av.cons M5<|av.nil,?_⟩;refine(ly) ?_;intro pS aes I;simp only [CM,NM,CA,NA,iK.it] at I;refine WL.nil (EX.np ?_);refine nx ?_;have QK:=I.bL;refine WC.dS (m:=5) I mixed<|cv ?_;refine DP .r (fun _ b=>V1 Ez (As.nS b.2.g4) .r)<|(gy) ak St.g3<|(cM)<|?_;rintro rO ⟨Ae,W⟩ _;refine WL.go rfl (OX.del cE kh (As.gm W.g2) rfl rfl fun x2 An Ao=>?_);have X:=W.p2.iu An Ao;refine cw ?_;have WY:=X.bL;refine WC.dS (m:=5) X mixed<|cv ?_;refine DP .r (fun _ b=>V1 eZ (As.nS b.2.g4) .r)<|(gy) ak St.g3<|(cM)<|?_;rintro x3 ⟨Jf,Y⟩ _;refine WP .r (PV.bF cE cZ jX (As.gm Y.g1) (v) rfl rfl)<|cw ?_;have eD:=Y.sr (B:=As.map Key.val D.q al) (by rw [xk (h i (Nat.le_refl _) hi)]);have eU:=eD.p1.sr (B:=As.map Key.val D.m (cF dj (aN aa (i:Int)) (.string (valOf aa x.ab (aN aa (i:Int)))))) (rfl);refine(bB) ?_;exact⟨_,rfl,t.put _,F.trans (eE.put t _),eU.p1.p1.k2⟩
end Go.Rc

