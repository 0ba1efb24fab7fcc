/- Walks over the program, part WF. Conditions: as each theorem says. -/
import Derived.Test.YtjpagoacbadijaaGreatDoorJFacts
import Derived.Test.YtjpagoacbadijaaGreatDoorJWB
import Derived.Test.YtjpagoacbadijaaGreatDoorJBe
set_option linter.all false
namespace Go.Rc
open Go Go.Proofs Go.Proofs.Tryz
variable {x:cI}{a a2 a1:Option Addr}{n c n2 e2 n1 e1:Nat}{w:World}{M Z:Nat→Prop}{l:List Rec}{k:Key}
set_option maxHeartbeats 400000
theorem gL{x:Rec}(j:St w M Z w []) (hk:Rd RR.key 2 Z w a n c x.reads) (p:x.reads.length≤4000):Calls prog 35 #[.agg (x.row a n c).toArray] w fun e w'=>∃d f g,e=.returned (.agg (x.row d f g).toArray)∧St w M Z w' [As.os RR.key 39 2 d f g x.reads]:=by
 have q:=hk.len;refine enter func35 rfl ntmps35 rfl<|?_;have aO:=j;have st1:=aO.fr hk;have st2:=st1.fY RR.key 39 2;refine(dr) st2 fun b1 w1 r s m=>?_;refine(ft) m fun b2 w2 t u b=>?_;refine(bp) gw b.b1<|?_;refine WL.ap rfl rfl b.p2 ((As.gr b.g3)) fun a5 v w3 y z o=>?_;refine nx ?_;refine WL.s1 o.p2 fun w4 _ h=>?_;refine(bj) dC h.b0<|(dh) fA h.p2 fun w5 A B i=>?_;refine(jm) dC i.b0<|?_;exact⟨_,_,_,rfl,i.p2.k1⟩
theorem xK(E:St w M Z w []) (hl:Rd RR.e8 8 Z w a n c l) (h6:l.length≤1000000):Calls prog 61 #[.slice a n c] w fun e w'=>∃q s u Z',e=.returned (.slice q s u)∧dV w.heap.size Z Z'∧St w M Z' w' [As.os RR.e8 48 8 q s u l]:=by
 have hlen:=hl.len;have hle:=hl.le;refine enter func61 rfl ntmps61 rfl<|?_;have aO:=E;have st1:=aO.fr hl;have st2:=st1.fY RR.e8 48 8;refine aN ?_;refine eL ?_;refine WC.jv (σ:=Nat × (Nat→Prop) × (List Rec) × (Option Addr) × Nat × Nat) (cT:=fun(i,d,acc,f,b,g)=>[(3,.slice f b g),(6,.slice a n c),(7,.int .i64 (n:Int)),(8,.int .i64 (i:Int))]) (F:=fun(i,d,acc,f,b,g)=>[As.os RR.e8 48 8 f b g (acc)]) (I:=fun(i,d,acc,f,b,g)=>(i≤n)∧(dV w.heap.size Z d)∧(acc=l.take i)∧True) (μ:=fun(i,d,acc,f,b,g)=>n - i) (Zf:=fun(i,d,acc,f,b,g)=>d) (0,Z,[],none,0,0) (st2) Sub.t (⟨by omega,dV.refl _ _,by simp,trivial⟩)<|?_;rintro⟨i,d,acc,f,b,g⟩ w1 h ⟨hi,o,j,_⟩;simp only [CA,NA] at h hi o j ⊢;have sj:=((As.gs h.g0)).len
 have Tg:acc.length≤1000000:=by rw [j,List.length_take];omega
 refine(aP) (fun g9=>?_) fun g9=>?_
 ·
  simp at g9
  have v:i<l.length:=by omega
  refine cW ?_;obtain⟨jf,pG,mF,G,iB,H,J,K⟩:=Rd.at (As.gr h.g1) v;obtain⟨q1,q2,q3,rfl,L,y⟩:=H;have N:=h.fg K J;have z:=N.fr L;refine nx ?_;refine WP .r (PV.dM iG G rfl rfl (by omega))<|(bj) dC (As.ll z.g1)<|(ft) z fun b5 w2 Nj Lm O=>?_;refine(dh) fA O fun w3 l4 mK B=>?_;refine(bj) dC B.b0<|?_;have m:=B;refine(cA) HF (gL m.e0 (As.gr m.g1) y) ?_;rintro _ w4 ⟨e1,e2,C,rfl,D⟩;have P:=St.lr m D;have Q:=St.dw D;have hsz:=m.size;have R:=P.dZ (by omega);have S:=o.trans (dV.nR (F:=fun x=>x∈bl e1) Q) hsz;refine WL.go rfl (OX.aL (us:=l[i].row e1 e2 C) qZ rfl rfl rfl rfl fun Th w5 T U=>?_);have p:=R.dD T U;refine WL.ap rfl rfl p.p5 (SR.cV (A:=fun _=>True) (x:=l[i]) (As.gb p.g0) trivial rfl (Rec.one _ _ _ _) ⟨e1,e2,C,rfl,(As.gr p.g1),y⟩) fun V W w6 adR adS X=>?_;refine jx ?_;refine dX (i+1,_,acc++[l[i]],V,(b+1),W) ⟨X.p6.p1.k2,⟨by omega,S,by rw [j,List.take_succ_eq_append_getElem v],trivial⟩⟩
 simp at g9
 have Y:acc=l:=by rw [j];exact List.take_of_length_le (by omega)
 subst Y;refine(bF) ?_;exact⟨_,_,_,_,rfl,o,h.p1.drop⟩
theorem iV(D:St w M Z w []) (hl:Rd RR.e8 8 Z w a n c l):Calls prog 14 #[.slice a n c,k.val] w fun e w'=>∃y z A,e=.returned (.tuple #[.agg ((aD l k).row y z A).toArray,.bool (ay l k).isSome])∧(aD l k).reads.length≤4000∧St w M Z w' [As.os RR.key 39 2 y z A (aD l k).reads]:=by
 have hlen:=hl.len;have hle:=hl.le;refine enter func14 rfl ntmps14 rfl<|?_;have aO:=D;have st1:=aO.fr hl;refine(dr) st1 fun b3 w1 R S st2=>?_;refine(ft) st2 fun b4 w2 T U E=>?_;refine aN ?_;refine WC.br (σ:=Nat) (cT:=fun i=>[(3,.pointer (some ⟨b3,0,none⟩)),(4,.pointer (some ⟨b4,0,none⟩)),(8,.slice a n c),(9,.int .i64 (n:Int)),(10,.int .i64 (i:Int))]) (F:=fun i=>[]) (I:=fun i=>(i≤n)∧(∀j x,j<i→l[j]?=some x→(x.key == k)=false)∧True) (μ:=fun i=>n - i) (0) (E) Sub.t (⟨by omega,fun j x h=>by omega,trivial⟩)<|?_;rintro i w3 m ⟨hi,o,_⟩;simp only [CA,NA] at m hi o ⊢;refine(aP) (fun g11=>?_) fun g11=>?_
 ·
  simp at g11
  have s:i<l.length:=by omega
  refine cW ?_;obtain⟨V,W,X,G,Y,H,J,K⟩:=Rd.at (As.gr m.g2) s;obtain⟨q1,q2,q3,rfl,L,B⟩:=H;have u:=m.fg K J;have d:=u.fr L;refine nx ?_;refine WP .r (PV.dM iG G rfl rfl (by omega))<|(bj) dC (As.ll d.g1)<|(ft) d fun b7 w4 QJ QK N=>?_;refine(dh) fA N fun w5 l4 mK f=>?_;refine(jJ) ak f.b0<|(bj) ak f.b4<|?_;refine WP .r (PV.yR ek (p:=l[i].key) (q:=k) rfl rfl)<|(aP) (fun g17=>?_) fun g17=>?_
  ·
   simp at g17
   have g:ay l k=some l[i]:=gN s o (by simpa using g17)
   have b:aD l k=l[i]:=by unfold aD;rw [g];rfl
   refine(bj) dC f.b0<|?_;have v:=f;refine(cA) HF (gL v.e0 (As.gr v.g1) B) ?_;rintro _ w6 ⟨e1,e2,O,rfl,P⟩;have Q:=St.lr v P;refine(dh) fA Q.p4 fun w7 v7 nZ C=>?_;refine px ?_;refine EX.uE rfl (RS.cell dC rfl C.b0 rfl<|RS.tmp rfl<|RS.nil) rfl<|?_;exact⟨e1,e2,O,by rw [g,b];rfl,by rw [b];exact B,by rw [b];exact C.p1.k1⟩
  simp at g17
  refine eL ?_;refine dX (i+1) ⟨f.p5.p5.p5.k3,⟨by omega,cn s o (by simpa using g17),trivial⟩⟩
 simp at g11
 have g:ay l k=none:=mU (i:=i) (by omega) o
 have b:aD l k=lN:=by unfold aD;rw [g];rfl
 have u:=m.fY RR.key 39 2;refine(dh) fA u.p1 fun w4 CC yG d=>?_;refine cB ?_;refine EX.uE rfl (RS.cell dC rfl d.b0 rfl<|RS.tmp rfl<|RS.nil) rfl<|?_;exact⟨none,0,0,by rw [g,b];rfl,by rw [b];simp [lN],by rw [b];exact d.p1.k1⟩
theorem cX(hl:Rd RR.e8 8 Z w a n c l):Calls prog 14 #[.slice a n c,k.val] w fun e w'=>∃b d f,e=.returned (.tuple #[.agg ((aD l k).row b d f).toArray,.bool (ay l k).isSome])∧aJ [] w w':=
 (iV (M:=fun _=>False) (St.start fun _ g=>g.2) hl.cut).mono fun _ _ ⟨b,d,f,h1,_,h⟩=>⟨b,d,f,h1,h.cg⟩
theorem Aa{x:Rec}(gq:St w M Z w []) (hl:Rd RR.e8 8 Z w a n c l) (h6:l.length≤1000000) (hx:Rd RR.key 2 Z w a2 n2 e2 x.reads) (C:x.reads.length≤4000):Calls prog 101 #[.slice a n c,.agg (x.row a2 n2 e2).toArray] w fun e w'=>∃U V W Z',e=.returned (.slice U V W)∧dV w.heap.size Z Z'∧St w M Z' w' [As.os RR.e8 48 8 U V W (eA l x)]:=by
 have hlen:=hl.len;refine enter func101 rfl ntmps101 rfl<|?_;have aO:=gq;have st1:=aO.fr hl;have st2:=st1.fr hx;have jg:=st2.fY RR.e8 48 8;refine(dr) jg fun b3 w1 E7 vh iH=>?_;refine aN ?_;refine mo ?_;refine WC.jv (σ:=Nat × Bool × (Nat→Prop) × (List Rec) × (Option Addr) × Nat × Nat) (cT:=fun(i,put,m,out,g,b,h)=>[(3,.pointer (some ⟨b3,0,none⟩)),(5,.slice g b h),(6,.bool put),(10,.slice a n c),(11,.int .i64 (n:Int)),(12,.int .i64 (i:Int))]) (F:=fun(i,put,m,out,g,b,h)=>[As.os RR.e8 48 8 g b h (out)]) (I:=fun(i,put,m,out,g,b,h)=>(i≤n)∧(dV w.heap.size Z m)∧(out++dG x (l.drop i) put=eA l x)∧True) (μ:=fun(i,put,m,out,g,b,h)=>n - i) (Zf:=fun(i,put,m,out,g,b,h)=>m) (0,false,Z,[],none,0,0) (iH.p1) Sub.t (⟨by omega,dV.refl _ _,rfl,trivial⟩)<|?_;rintro⟨i,put,m,out,g,b,h⟩ w2 o ⟨hi,s,hinv,_⟩;simp only [CA,NA] at o hi s hinv ⊢;have sj:=((As.gs o.g0)).len
 have V3:out.length≤1000001:=by have h1:=congrArg List.length hinv;have h2:=nX x l false;simp only [eA,List.length_append] at h1;omega
 refine(aP) (fun g13=>?_) fun g13=>?_
 ·
  simp at g13
  have X:i<l.length:=by omega
  have Y:dG x (l.drop i) put=(if decide (0≤bm l[i].key x.key) && !put then [x] else [])++(if bm l[i].key x.key=0 then [] else [l[i]])++dG x (l.drop (i+1)) (put || decide (0≤bm l[i].key x.key)):=by rw [List.drop_eq_getElem_cons X];rfl
  refine cW ?_;obtain⟨jf,pG,mF,cx,iB,gk,eK,fB⟩:=Rd.at (As.gr o.g3) X;obtain⟨q1,D,E,rfl,F4,F5⟩:=gk;have u:=o.fg fB eK;have G:=u.fr F4;refine nx ?_;refine WP .r (PV.dM iG cx rfl rfl (by omega))<|(bj) dC (As.ll G.g1)<|(ft) G fun b8 w3 Lk hb8 K=>?_;refine(dh) fA K fun w4 l4 mK p=>?_;refine(jJ) ak p.b0<|(jJ) ak p.b4<|(eZ) (jF (k:=l[i].key) (q:=x.key)) p fun w5 s5 y=>?_;refine cW ?_;refine WC.dA (t:=26) (v:=.bool (decide (0≤bm l[i].key x.key) && !put)) y ?_<|?_
  ·
   refine(cz) (fun g23=>?_) (fun g23=>?_)
   ·
    exact(bW) (by simp only [g23];first | rfl | simp) (y)
   exact(bW) (by simp only [g23];first | rfl | simp) (y)
  intro w6 z;refine(aP) (fun H=>?_) fun H=>?_
  ·
   simp at H
   obtain⟨hA,hB⟩:=H;subst hB
   have f:dG x (l.drop i) false=[x]++(if bm l[i].key x.key=0 then [] else [l[i]])++dG x (l.drop (i+1)) true:=by rw [Y];simp [hA]
   refine(bj) dC z.b4<|?_;have j:=z;refine(cA) HF (gL j.e0 (As.gr j.g5) C) ?_;rintro _ w7 ⟨f1,f2,f3,rfl,sy⟩;have L:=St.lr j sy;have N:=St.dw sy;have hsz:=j.size;have de:=L.dZ (by omega);have J:=s.trans (dV.nR (F:=fun x=>x∈bl f1) N) hsz;refine WL.go rfl (OX.aL (us:=x.row f1 f2 f3) qZ rfl rfl rfl rfl fun V4 w8 QL QM=>?_);have O:=de.dD QL QM;refine WL.ap rfl rfl O.p5 (SR.cV (A:=fun _=>True) (x:=x) (As.gb O.g0) trivial rfl (Rec.one _ _ _ _) ⟨f1,f2,f3,rfl,(As.gr O.g1),C⟩) fun a31 V5 w9 adT adU P=>?_;refine(aP) (fun d=>?_) fun d=>?_
   ·
    simp at d
    rw [if_neg d] at f;refine(bj) dC P.b3<|?_;refine WL.go rfl (OX.aL (us:=l[i].row q1 D E) qZ rfl rfl rfl rfl fun b36 kl Q R=>?_);have S:=P.dD Q R;refine WL.ap rfl rfl S.p1 (SR.cV (A:=fun _=>True) (x:=l[i]) (As.gb S.g0) trivial rfl (Rec.one _ _ _ _) ⟨q1,D,E,rfl,(As.gr S.g5),F5⟩) fun a37 T lB QN QO gJ=>?_;refine jx ?_;refine dX (i+1,true,_,_,a37,((b+1)+1),T) ⟨gJ.p9.p9.p9.p3.k4,⟨by omega,J,by rw [← hinv,f];simp,trivial⟩⟩
   simp at d
   rw [if_pos d] at f;refine eL ?_;refine dX (i+1,true,_,_,a31,(b+1),V5) ⟨P.p8.p8.p8.p3.k4,⟨by omega,J,by rw [← hinv,f];simp,trivial⟩⟩
  have f:dG x (l.drop i) put=[]++(if bm l[i].key x.key=0 then [] else [l[i]])++dG x (l.drop (i+1)) put:=by
   rw [Y]
   cases put
   ·
    simp at H;rw [decide_eq_false (by omega)];rfl
   simp
  refine(aP) (fun d=>?_) fun d=>?_
  ·
   simp at d
   rw [if_neg d] at f;refine(bj) dC z.b0<|?_;refine WL.go rfl (OX.aL (us:=l[i].row q1 D E) qZ rfl rfl rfl rfl fun b36 w7 Q R=>?_);have j:=z.dD Q R;refine WL.ap rfl rfl j.p4 (SR.cV (A:=fun _=>True) (x:=l[i]) (As.gb j.g0) trivial rfl (Rec.one _ _ _ _) ⟨q1,D,E,rfl,(As.gr j.g2),F5⟩) fun a37 T w8 QN QO L=>?_;refine jx ?_;refine dX (i+1,put,_,_,a37,(b+1),T) ⟨L.p7.p7.p7.p3.k4,⟨by omega,s,by rw [← hinv,f];simp,trivial⟩⟩
  simp at d
  rw [if_pos d] at f;refine eL ?_;refine dX (i+1,put,_,_,g,b,h) ⟨z.p6.p6.p6.p6.k4,⟨by omega,s,by rw [← hinv,f];simp,trivial⟩⟩
 simp at g13
 have mn:l.drop i=[]:=List.drop_eq_nil_of_le (by omega);rw [mn] at hinv;refine(aP) (fun B=>?_) fun B=>?_
 ·
  simp at B
  subst B;refine(bj) dC o.b1<|?_;have u:=o;refine(cA) HF (gL u.e0 (As.gr u.g2) C) ?_;rintro _ w3 ⟨f1,f2,f3,rfl,pH⟩;have G:=St.lr u pH;have N:=St.dw pH;have hsz:=u.size;have K:=G.dZ (by omega);have J:=s.trans (dV.nR (F:=fun x=>x∈bl f1) N) hsz;refine WL.go rfl (OX.aL (us:=x.row f1 f2 f3) qZ rfl rfl rfl rfl fun b44 w4 V6 V7=>?_);have p:=K.dD V6 V7;refine WL.ap rfl rfl p.p2 (SR.cV (A:=fun _=>True) (x:=x) (As.gb p.g0) trivial rfl (Rec.one _ _ _ _) ⟨f1,f2,f3,rfl,(As.gr p.g1),C⟩) fun a45 adV w5 adW adX y=>?_;refine(bF) ?_;exact⟨_,_,_,_,rfl,J,by rw [← hinv];exact y.k1⟩
 simp at B
 subst B;refine(bF) ?_;exact⟨_,_,_,_,rfl,s,by rw [← hinv];simp only [dG,List.append_nil,if_true];exact o.k1⟩
theorem vk{x:Rec}(hk:Rd RR.key 2 Z w a n c x.reads):CR prog 104 #[.agg (x.row a n c).toArray] w (.bool (dH x)):=by
 have hlen:=SR.len hk;have hle:=SR.le hk;refine enter func104 rfl ntmps104 rfl<|?_;have c0:aJ [] w w:=aJ.refl _ _;refine bP ?_;refine WL.go rfl (OX.box rfl rfl rfl fun b1 w1 H b=>?_);have s1:=H.ext;have P:=H.gW c0;have c1:=c0.trans s1;refine fZ ?_;refine WP .r (PV.fa zM rfl)<|(bp) gw b.range<|?_;refine WP .r (PV.fV dL rfl)<|cB ?_;refine WC.loop (σ:=Nat) (cT:=fun i=>[(1,.pointer (some ⟨b1,0,none⟩)),(6,.slice a n c),(7,.int .i64 (n:Int)),(8,.int .i64 (i:Int))]) (I:=fun i w'=>aJ [] w w'∧bN w' b1 48 (x.row a n c)∧i≤n∧∀j y,j<i→x.reads[j]?=some y→dW y=true) (μ:=fun i=>n - i) 0 Sub.t ⟨c1,b,by omega,fun j y h=>by omega⟩ ?_;rintro i w2 ⟨c2,b,hi,J⟩;refine(aP) (fun g9=>?_) fun g9=>?_
 ·
  simp at g9
  have B:i<x.reads.length:=by omega
  refine cW ?_;obtain⟨Q,R,S,L,_,C,D,_⟩:=SR.at hk (ae B);have C:=RR.bX C;subst C;have D:=aR D c2 (by simp);refine nx ?_;refine WP .r (PV.dM dL L rfl rfl (by omega))<|(bj) ak D<|?_;refine WL.go rfl (OX.alloc zL rfl fun b4 w3 E u=>?_);have d:=E.ext;have N:=E.gW c2;have K:b1≠b4:=E.ne b.lt;have T:b4≠b1:=Ne.symm K;have c3:=c2.trans d;have b:=b.ext d;refine WL.go rfl (OX.kB gi u rfl rfl rfl rfl rfl fun w4 e _ u=>?_);have c4:=c3.own e N;have b:=b.bR e (by simp [K]);refine(bj) ak u.range<|(cA) EL (gj (k:=x.reads[i])) ?_;rintro _ w5 ⟨rfl,p⟩;have c5:=c4.trans p;have b:=b.ext p;have u:=u.ext p;refine(aP) (fun g14=>?_) fun g14=>?_
  ·
   simp at g14
   have F:dH x=false:=by unfold dH;rw [Bool.and_eq_false_iff];left;rw [List.all_eq_false];exact⟨_,List.getElem_mem B,by simp [g14]⟩
   refine(bF) ?_;exact⟨by rw [F],c5⟩
  simp at g14
  refine eL ?_;refine EX.again (i+1) (Sub.k2 rfl rfl<|Sub.cons rfl<|Sub.gM rfl (by simp)<|Sub.nil) ⟨c5,b,by omega,cn B J g14⟩ (by omega)
 simp at g9
 have F:dH x=eB x:=by
  unfold dH
  rw [show x.reads.all dW=true from List.all_eq_true.2 fun y hy=>by obtain⟨j,O,rfl⟩:=List.mem_iff_getElem.1 hy;exact J j _ (by omega) (ae O)]
  rfl
 refine fZ ?_;refine WC.ke (t:=2) (v:=.bool (eB x)) (aJ [] w2) ?_<|?_
 ·
  refine nx ?_;refine WP .r (PV.fa oq rfl)<|(jJ) ak b.range<|(cA) EL (gj (k:=x.key)) ?_;rintro _ w3 ⟨rfl,d⟩;have c3:=c2.trans d;have b:=b.ext d;refine(cz) (fun g19=>?_) (fun g19=>?_)
  ·
   refine WP .r (PV.fa oq rfl)<|(jJ) ak b.range<|(cA) EM (dd (k:=x.key)) ?_;rintro _ w4 ⟨rfl,e⟩;have c4:=c3.trans e;have b:=b.ext e;refine(cz) (fun f=>?_) (fun f=>?_)
   ·
    refine WP .r (PV.fa vc rfl)<|(bp) eV b.range<|?_;refine WP .r (PV.uw re rfl)<|(cz) (fun g=>?_) (fun g=>?_)
    ·
     refine WP .r (PV.fa zM rfl)<|(bp) gw b.range<|?_;refine WP .r (PV.fV dL rfl)<|(cz) (fun m=>?_) (fun m=>?_)
     ·
      refine WP .r (PV.fa rj rfl)<|(bp) aK b.range<|(cz) (fun o=>?_) (fun o=>?_)
      ·
       refine WP .r (PV.fa rj rfl)<|(bp) aK b.range<|?_;refine WP .r (PV.fa ot rfl)<|(bp) aK b.range<|(cz) (fun q=>?_) (fun q=>?_)
       ·
        refine WP .r (PV.fa ot rfl)<|(bp) aK b.range<|(cz) (fun s=>?_) (fun s=>?_)
        ·
         refine WP .r (PV.fa zN rfl)<|(bp) aK b.range<|(cz) (fun z=>?_) (fun z=>?_)
         ·
          refine WP .r (PV.fa zN rfl)<|(bp) aK b.range<|(cz) (fun A=>?_) (fun A=>?_)
          ·
           refine WP .r (PV.fa zO rfl)<|(bp) di b.range<|(cz) (fun G=>?_) (fun G=>?_)
           ·
            exact(eT) (by unfold eB;simp only [g19,f,g,m,o,q,s,z,A,G,← hlen];first | rfl | simp) (d.trans e)
           refine WP .r (PV.fa oq rfl)<|(jJ) ak b.range<|(cA) HG (dz (k:=x.key)) ?_;rintro _ w5 ⟨rfl,p⟩;have c5:=c4.trans p;have b:=b.ext p;exact(eT) (by unfold eB;simp only [g19,f,g,m,o,q,s,z,A,G,← hlen];first | rfl | simp) ((d.trans e).trans p)
          exact(eT) (by unfold eB;simp only [g19,f,g,m,o,q,s,z,A,← hlen];first | rfl | simp) (d.trans e)
         refine aN ?_;exact(eT) (by unfold eB;simp only [g19,f,g,m,o,q,s,z,← hlen];first | rfl | simp) (d.trans e)
        refine aN ?_;exact(eT) (by unfold eB;simp only [g19,f,g,m,o,q,s,← hlen];first | rfl | simp) (d.trans e)
       refine aN ?_;refine aN ?_;exact(eT) (by unfold eB;simp only [g19,f,g,m,o,q,← hlen];first | rfl | simp) (d.trans e)
      refine aN ?_;refine aN ?_;exact(eT) (by unfold eB;simp only [g19,f,g,m,o,← hlen];first | rfl | simp) (d.trans e)
     refine aN ?_;refine aN ?_;refine aN ?_;exact(eT) (by unfold eB;simp only [g19,f,g,m,← hlen];first | rfl | simp) (d.trans e)
    refine aN ?_;refine aN ?_;refine aN ?_;exact(eT) (by unfold eB;simp only [g19,f,g,← hlen];first | rfl | simp) (d.trans e)
   refine aN ?_;refine aN ?_;refine aN ?_;refine aN ?_;exact(eT) (by unfold eB;simp only [g19,f,← hlen];first | rfl | simp) (d.trans e)
  refine aN ?_;refine aN ?_;refine aN ?_;refine aN ?_;exact(eT) (by unfold eB;simp only [g19,← hlen];first | rfl | simp) d
 intro w3 d;have c3:=c2.trans d;have b:=b.ext d;refine(bF) ?_;exact⟨by rw [F],c3⟩
theorem pI(hl:Rd RR.e8 8 Z w a n c l):Calls prog 69 #[.slice a n c] w fun e w'=>∃b:Bool,e=.returned (.bool b)∧(b=true↔kH l)∧aJ [] w w':=by
 have hlen:=SR.len hl;have hle:=SR.le hl;refine enter func69 rfl ntmps69 rfl<|?_;have c0:aJ [] w w:=aJ.refl _ _;refine px ?_;refine WP .r (PV.fV iG rfl)<|cB ?_;refine WC.loop (σ:=Nat) (cT:=fun i=>[(0,.slice a n c),(5,.slice a n c),(6,.int .i64 (n:Int)),(7,.int .i64 (i:Int))]) (I:=fun i w'=>aJ [] w w'∧i≤n∧∀j y,j<i→l[j]?=some y→mV l j y) (μ:=fun i=>n - i) 0 Sub.t ⟨c0,by omega,fun j y h=>by omega⟩ ?_;rintro i w1 ⟨c1,hi,u⟩;refine(aP) (fun g8=>?_) fun g8=>?_
 ·
  simp at g8
  have p:i<l.length:=by omega
  have d:=getElem!_pos l i p;obtain⟨P,Q,R,J,_,⟨q1,S,U,rfl,K,V⟩,z,_⟩:=SR.at hl (ae p);refine cW ?_;have z:=aR z c1 (by simp);refine bP ?_;refine WP .r (PV.dM iG J rfl rfl (by omega))<|(bj) dC z<|?_;refine WL.go rfl (OX.alloc nC rfl fun b4 w2 F f=>?_);have s2:=F.ext;have L:=F.gW c1;have c2:=c1.trans s2;refine nx ?_;refine WL.go rfl (OX.kB fA f rfl rfl rfl rfl rfl fun w3 N _ f=>?_);have c3:=c2.own N L;refine ct ?_;refine WC.i7 (t:=30) (v:=.bool (nY l i)) (aJ [] w3) ?_<|?_
  ·
   refine WC.drawn (m:=15) (C:=aJ [] w3) (T:=fun _=>aJ []) (E:=bS [(1,fun v _=>v=.bool (dH l[i]))]) (aU (⟨fun _ _ _ _ _ _ _ h=>h,trivial⟩)) mixed (by kernel_rfl) (aJ.drew _ _)<|?_;refine DP .r (fun _ o=>PV.BI dC (f.ext o).range rfl rfl)<|?_;refine DW.e rfl rfl rfl rfl rfl (fun W o X=>OX.call PJ rfl rfl ((vk (K.ext (c3.trans o))).mono ?_))<|?_
   ·
    rintro _ wy ⟨rfl,hy⟩;exact⟨_,rfl,o.trans hy,hy,_,rfl,rfl⟩
   rintro _ Y _ rfl;refine(lP) (fun g15=>?_) (fun g15=>?_)
   ·
    refine(cy) ?_;rintro w4 g _;have c4:=c3.trans g;have f:=f.ext g;exact(bW) (by unfold nY;first | (simp only [d,s,g15];done) | (simp only [d,s,g15];rfl) | (simp only [d,g15];rfl) | (simp only [d];rw [Bool.not_eq_true'] at g15;simp [g15]) | (simp only [d];simp at g15 g18;simp [g15,g18])) g
   refine(lP) (fun g18=>?_) (fun g18=>?_)
   ·
    have G:i - 1<l.length:=by omega
    have s:=getElem!_pos l (i - 1) G;have V8:=of_decide_eq_true g18;obtain⟨VY,VZ,V0,O,_,⟨p1,p2,p3,rfl,_,_⟩,A,_⟩:=SR.at hl (ae G);have A:=aR A c3 (by simp);refine ct ?_;refine DP .r (fun _ o=>PV.CZ iG (i - 1) O rfl rfl (by omega) (by omega))<|DP .r (fun _ o=>PV.fa oq rfl)<|DP .r (fun _ o=>PV.CY ak (aR A o (by simp)) rfl rfl)<|DP .r (fun _ o=>PV.fa oq rfl)<|DP .r (fun _ o=>PV.CY ak (f.ext o).range rfl rfl)<|(cy)<|?_;rintro w4 g _;have c4:=c3.trans g;have f:=f.ext g;refine(cA) Le (jF (k:=l[i - 1].key) (q:=l[i].key)) ?_;rintro _ w5 ⟨rfl,B⟩;have c5:=c4.trans B;have f:=f.ext B;exact(bW) (by unfold nY;first | (simp only [d,s,g15,g18];done) | (simp only [d,s,g15,g18];rfl) | (simp only [d,g15,g18];rfl) | (simp only [d];rw [Bool.not_eq_true'] at g15;simp [g15]) | (simp only [d];simp at g15 g18;simp [g15,g18])) (g.trans B)
   refine(cy) ?_;rintro w4 g _;have c4:=c3.trans g;have f:=f.ext g;exact(bW) (by unfold nY;first | (simp only [d,s,g15,g18];done) | (simp only [d,s,g15,g18];rfl) | (simp only [d,g15,g18];rfl) | (simp only [d];rw [Bool.not_eq_true'] at g15;simp [g15]) | (simp only [d];simp at g15 g18;simp [g15,g18])) g
  intro w4 g;have c4:=c3.trans g;have f:=f.ext g;refine(aP) (fun D=>?_) fun D=>?_
  ·
   skip
   refine(bF) ?_;exact⟨false,rfl,⟨fun h=>(by cases h),fun h=>absurd ((mW p).2 (h.2 i _ (ae p))) (by simp [D])⟩,c4⟩
  refine eL ?_;refine EX.again (i+1) (Sub.k2 rfl rfl<|Sub.cons rfl<|Sub.gM rfl (by simp)<|Sub.nil) ⟨c4,by omega,cn p u ((mW p).1 D)⟩ (by omega)
 ·
  simp at g8
  have u:∀j y,l[j]?=some y→mV l j y:=fun j x H=>u j x (by have:=(List.getElem?_eq_some_iff.1 H).1;omega) H;refine jx ?_;refine WP .r (PV.fV iG rfl)<|(bF) ?_;exact⟨_,rfl,⟨fun h=>⟨by simp at h;omega,u⟩,fun h=>by have:=h.1;simp;omega⟩,c1⟩
 -- vl iW G17.T
set_option maxHeartbeats 400000
theorem oy(hl:Rd RR.e8 8 Z w a n c l):CR prog 69 #[.slice a n c] w (.bool (nc l)):=
 (pI hl).mono fun _ _ ⟨b,h1,d,e⟩=>⟨by rw [h1,yZ d],e⟩
theorem gV(s:St w M Z w []) (hi:Rd RR.aC 4 Z w a1 n1 e1 x.ab) (hr:Rd RR.e8 8 Z w a2 n2 e2 x.ah) (t:x.ah.length≤1000000) (C:x.ab.length≤1000000):Calls prog 30 #[.agg (x.row a1 n1 e1 a2 n2 e2).toArray] w fun e w'=>∃f g h i j m Z',e=.returned (.agg (x.row f g h i j m).toArray)∧dV w.heap.size Z Z'∧St w M Z' w' [As.os RR.aC 102 4 f g h x.ab,As.os RR.e8 48 8 i j m x.ah]:=by
 have D:=hi.len;have E:=hr.len;refine enter func30 rfl ntmps30 rfl<|?_;have aO:=s;have st1:=aO.fr hi;have st2:=st1.fr hr;have u:=st2.fY RR.aC 102 4;refine(dr) u fun b1 w1 F G v=>?_;refine(ft) v fun b2 w2 H I d=>?_;refine(bp) jD d.b1<|?_;refine WL.ap rfl rfl d.p2 ((As.gr d.g4)) fun a5 J w3 K L y=>?_;refine nx ?_;refine WL.s1 y.p2 fun w4 _ o=>?_;refine(bp) el o.b0<|?_;have b:=o;refine(cA) Vv (xK b.e0 (As.gr b.g3) t) ?_;rintro _ w5 ⟨f1,f2,f3,N,rfl,p,z⟩;have A:=St.lv b z p;have B:=p.le b.size;refine nx ?_;refine WL.s1 A.p1 fun w6 _ q=>?_;refine(bj) bz q.b0<|(dh) jE q.p3 fun w7 O P r=>?_;refine(jm) bz r.b0<|?_;exact⟨_,_,_,_,_,_,_,rfl,B,r.p2.p3.k2⟩
theorem o9(hi:Rd RR.aC 4 Z w a1 n1 e1 x.ab) (hr:Rd RR.e8 8 Z w a2 n2 e2 x.ah) {k:Key}:CR prog 71 #[.agg (x.row a1 n1 e1 a2 n2 e2).toArray,k.val] w (.agg (bw x.ab k).cells.toArray):=by
 have hlen:=SR.len hi;have hle:=SR.le hi;refine enter func71 rfl ntmps71 rfl<|?_;have c0:aJ [] w w:=aJ.refl _ _;refine bP ?_;refine WL.go rfl (OX.box rfl rfl rfl fun b2 w1 H e=>?_);have s1:=H.ext;have U:=H.gW c0;have c1:=c0.trans s1;refine WL.go rfl (OX.box rfl rfl rfl fun b3 w2 u b=>?_);have s2:=u.ext;have V:=u.gW c1;have O:b2≠b3:=u.ne e.lt;have W:b3≠b2:=Ne.symm O;have c2:=c1.trans s2;have e:=e.ext s2;refine WL.go rfl (OX.alloc Bx rfl fun b4 w3 m d=>?_);have v:=m.ext;have J:=m.gW c2;have P:b2≠b4:=m.ne e.lt;have X:b4≠b2:=Ne.symm P;have z:b3≠b4:=m.ne b.lt;have Y:b4≠b3:=Ne.symm z;have c3:=c2.trans v;have e:=e.ext v;have b:=b.ext v;refine cW ?_;refine WP .r (PV.fa rf rfl)<|(bp) jD e.range<|?_;refine WP .r (PV.fV pF rfl)<|cB ?_;refine WC.loop (σ:=Nat) (cT:=fun i=>[(3,.pointer (some ⟨b3,0,none⟩)),(4,.pointer (some ⟨b4,0,none⟩)),(8,.slice a1 n1 e1),(9,.int .i64 (n1:Int)),(10,.int .i64 (i:Int))]) (I:=fun i w'=>aJ [] w w'∧bN w' b3 39 [.int .i64 k.kind,.string k.text]∧bN w' b4 102 [.int .i64 0,.string ⟨#[]⟩,.string ⟨#[]⟩,.int .i64 0]∧i≤n1∧(∀j y,j<i→x.ab[j]?=some y→(y.key == k)=false)) (μ:=fun i=>n1 - i) 0 Sub.t ⟨c3,b,d,by omega,fun j x h=>by omega⟩ ?_;rintro i w4 ⟨c4,b,d,hi1,A⟩;refine(aP) (fun g11=>?_) fun g11=>?_
 ·
  simp at g11
  have B:i<x.ab.length:=by omega
  refine cW ?_;obtain⟨Ta,Tb,Tc,Q,_,C,D,_⟩:=SR.at hi (ae B);have C:=RR.bX C;subst C;have D:=aR D c4 (by simp);refine nx ?_;refine WP .r (PV.dM pF Q rfl rfl (by omega))<|(bj) hI D<|?_;refine WL.go rfl (OX.alloc Bx rfl fun o w5 s f=>?_);have g:=s.ext;have R:=s.gW c4;have K:b3≠o:=s.ne b.lt;have Ln:o≠b3:=Ne.symm K;have L:b4≠o:=s.ne d.lt;have S:o≠b4:=Ne.symm L;have c5:=c4.trans g;have b:=b.ext g;have d:=d.ext g;refine WL.go rfl (OX.kB oZ f rfl rfl rfl rfl rfl fun w6 E _ f=>?_);have N:=c5.own E R;have b:=b.bR E (by simp [K]);have d:=d.bR E (by simp [L]);refine cB ?_;refine WP .r (PV.fa lA rfl)<|(jJ) ak f.range<|(bj) ak b.range<|?_;refine WP .r (PV.yR ek (p:=x.ab[i].key) (q:=k) rfl rfl)<|(aP) (fun g17=>?_) fun g17=>?_
  ·
   simp at g17
   have F:bw x.ab k=x.ab[i]:=by unfold bw;rw [gN B A (by simpa using g17)];rfl
   refine(bj) hI f.range<|?_;refine WL.go rfl (OX.kB oZ d rfl rfl rfl rfl rfl fun w7 G _ d=>?_);have T:=N.own G J;have b:=b.bR G (by simp [z]);have f:=f.bR G (by simp [S]);refine(jm) hI d.range<|?_;exact⟨by rw [F],T⟩
  simp at g17
  refine eL ?_;refine EX.again (i+1) (Sub.k4 rfl rfl rfl rfl<|Sub.gM rfl (by simp)<|Sub.nil) ⟨N,b,d,by omega,cn B A (by simpa using g17)⟩ (by omega)
 simp at g11
 have F:bw x.ab k=⟨k,⟨#[]⟩,0⟩:=by unfold bw;rw [mU (i:=i) (by omega) A];rfl
 refine(bj) ak b.range<|?_;refine WP .r (PV.aY (us:=(ca.mk k ⟨#[]⟩ 0).cells) Bv rfl rfl rfl)<|?_;refine WL.go rfl (OX.kB oZ d rfl rfl rfl rfl rfl fun w5 g _ d=>?_);have c5:=c4.own g J;have b:=b.bR g (by simp [z]);refine(jm) hI d.range<|?_;exact⟨by rw [F],c5⟩
theorem lC(hi:Rd RR.aC 4 Z w a1 n1 e1 x.ab) (hr:Rd RR.e8 8 Z w a2 n2 e2 x.ah) {k:Key}:CR prog 45 #[.agg (x.row a1 n1 e1 a2 n2 e2).toArray,k.val] w (.string (bw x.ab k).value):=by
 refine enter func45 rfl ntmps45 rfl<|?_;have c0:aJ [] w w:=aJ.refl _ _;refine bP ?_;refine WL.go rfl (OX.box rfl rfl rfl fun b2 w1 h b=>?_);have s1:=h.ext;have j:=h.gW c0;have c1:=c0.trans s1;refine WL.go rfl (OX.box rfl rfl rfl fun b3 w2 d e=>?_);have s2:=d.ext;have m:=d.gW c1;have i:b2≠b3:=d.ne b.lt;have o:b3≠b2:=Ne.symm i;have c2:=c1.trans s2;have b:=b.ext s2;refine(bj) bz b.range<|(bj) ak e.range<|(cA) PA (o9 (k:=k) (hi.ext c2) (hr.ext c2)) ?_;rintro _ w3 ⟨rfl,g⟩;have c3:=c2.trans g;have b:=b.ext g;have e:=e.ext g;refine WP .r (PV.qq (fs:=[_,_,_]) (f:=1) (off:=2) (T:=102) underlying102 rfl rfl (show ∀w,(isAgg 9).run _ w=.ok false w from isAgg9) rfl rfl)<|(bF) ?_;exact⟨rfl,c3⟩
theorem xL(hi:Rd RR.aC 4 Z w a1 n1 e1 x.ab) (hr:Rd RR.e8 8 Z w a2 n2 e2 x.ah) {k:Key}:CR prog 138 #[.agg (x.row a1 n1 e1 a2 n2 e2).toArray,k.val] w (.int .i64 (bw x.ab k).changed):=by
 refine enter func138 rfl ntmps138 rfl<|?_;have c0:aJ [] w w:=aJ.refl _ _;refine bP ?_;refine WL.go rfl (OX.box rfl rfl rfl fun b2 w1 h b=>?_);have s1:=h.ext;have j:=h.gW c0;have c1:=c0.trans s1;refine WL.go rfl (OX.box rfl rfl rfl fun b3 w2 d e=>?_);have s2:=d.ext;have m:=d.gW c1;have i:b2≠b3:=d.ne b.lt;have o:b3≠b2:=Ne.symm i;have c2:=c1.trans s2;have b:=b.ext s2;refine(bj) bz b.range<|(bj) ak e.range<|(cA) PA (o9 (k:=k) (hi.ext c2) (hr.ext c2)) ?_;rintro _ w3 ⟨rfl,g⟩;have c3:=c2.trans g;have b:=b.ext g;have e:=e.ext g;refine WP .r (PV.qq (fs:=[_,_,_]) (f:=2) (off:=3) (T:=102) underlying102 rfl rfl (show ∀w,(isAgg 3).run _ w=.ok false w from isAgg3) rfl rfl)<|(bF) ?_;exact⟨rfl,c3⟩
theorem j8(hi:Rd RR.aC 4 Z w a1 n1 e1 x.ab) (hr:Rd RR.e8 8 Z w a2 n2 e2 x.ah):Calls prog 42 #[.agg (x.row a1 n1 e1 a2 n2 e2).toArray] w fun e w'=>∃b:Bool,e=.returned (.bool b)∧(b=true↔gQ x)∧aJ [] w w':=by
 have hlen:=SR.len hi;have hle:=SR.le hi;have rA:=SR.len hr;have vm:=SR.le hr;refine enter func42 rfl ntmps42 rfl<|?_;have c0:aJ [] w w:=aJ.refl _ _;refine bP ?_;refine WL.go rfl (OX.box rfl rfl rfl fun b1 w1 V9 f=>?_);have s1:=V9.ext;have Wa:=V9.gW c0;have c1:=c0.trans s1;refine fZ ?_;refine WP .r (PV.fa rf rfl)<|(bp) jD f.range<|?_;refine WP .r (PV.fV pF rfl)<|cB ?_;refine WC.loop (σ:=Nat) (cT:=fun i=>[(1,.pointer (some ⟨b1,0,none⟩)),(8,.slice a1 n1 e1),(9,.int .i64 (n1:Int)),(10,.int .i64 (i:Int))]) (I:=fun i w'=>aJ [] w w'∧bN w' b1 31 (x.row a1 n1 e1 a2 n2 e2)∧i≤n1∧∀j y,j<i→x.ab[j]?=some y→fG x.ad x.ab j=false) (μ:=fun i=>n1 - i) 0 Sub.t ⟨c1,f,by omega,fun j y h=>by omega⟩ ?_;rintro i w2 ⟨c2,f,eS,L⟩;refine(aP) (fun g11=>?_) fun g11=>?_
 ·
  simp at g11
  have G:i<x.ab.length:=by omega
  have o:=getElem!_pos x.ab i G;obtain⟨Ta,Tb,Tc,R,_,S,H,_⟩:=SR.at hi (ae G);have S:=RR.bX S;subst S;refine cW ?_;have H:=aR H c2 (by simp);refine bP ?_;refine WP .r (PV.dM pF R rfl rfl (by omega))<|(bj) hI H<|?_;refine WL.go rfl (OX.alloc Bx rfl fun b4 w3 U s=>?_);have s3:=U.ext;have rB:=U.gW c2;have rE:b1≠b4:=U.ne f.lt;have Lo:b4≠b1:=Ne.symm rE;have c3:=c2.trans s3;have f:=f.ext s3;refine nx ?_;refine WL.go rfl (OX.kB oZ s rfl rfl rfl rfl rfl fun w4 F _ s=>?_);have c4:=c3.own F rB;have f:=f.bR F (by simp [rE]);refine ct ?_;refine WC.i7 (t:=59) (v:=.bool (fG x.ad x.ab i)) (aJ [] w4) ?_<|?_
  ·
   refine WC.drawn (m:=43) (C:=aJ [] w4) (T:=fun _=>aJ []) (E:=bS [(2,fun v _=>v=.bool (dW x.ab[i].key)),(7,fun v _=>v=.bool (aw x.ab[i].key)),(23,fun v _=>v=.int .i64 (bm x.ab[i - 1].key x.ab[i].key))]) (aU (⟨fun _ _ _ _ _ _ _ h=>h,⟨fun _ _ _ _ _ _ _ h=>h,⟨fun _ _ _ _ _ _ _ h=>h,trivial⟩⟩⟩)) mixed (by kernel_rfl) (aJ.drew _ _)<|?_;refine DP .r (fun _ g=>PV.fa lA rfl)<|DP .r (fun _ g=>PV.CY ak (s.ext g).range rfl rfl)<|?_;refine DW.e rfl rfl rfl rfl rfl (fun wx g hF=>OX.call EL rfl rfl ((gj (k:=x.ab[i].key)).mono ?_))<|?_
   ·
    rintro _ wy ⟨rfl,hy⟩;exact⟨_,rfl,g.trans hy,hy,_,rfl,rfl⟩
   rintro _ wz _ rfl;refine(lP) (fun g19=>?_) (fun g19=>?_)
   ·
    refine aN ?_;refine aN ?_;refine aN ?_;refine(cy) ?_;rintro w5 d _;have c5:=c4.trans d;have f:=f.ext d;have s:=s.ext d;exact(bW) (by unfold fG;first | (simp only [o,B,g19];done) | (simp only [o,B,g19];rfl) | (simp only [o,g19];rfl) | (simp only [o,g19];done)) d
   refine DP .r (fun _ g=>PV.fa lA rfl)<|DP .r (fun _ g=>PV.CY ak (s.ext g).range rfl rfl)<|?_;refine DW.e rfl rfl rfl rfl rfl (fun wx g hF=>OX.call EM rfl rfl ((dd (k:=x.ab[i].key)).mono ?_))<|?_
   ·
    rintro _ wy ⟨rfl,hy⟩;exact⟨_,rfl,g.trans hy,hy,_,rfl,rfl⟩
   rintro _ wz _ rfl;refine(lP) (fun p=>?_) (fun p=>?_)
   ·
    refine aN ?_;refine aN ?_;refine(cy) ?_;rintro w5 d _;have c5:=c4.trans d;have f:=f.ext d;have s:=s.ext d;exact(bW) (by unfold fG;first | (simp only [o,B,g19,p];done) | (simp only [o,B,g19,p];rfl) | (simp only [o,g19,p];rfl) | (simp only [o,g19,p];done)) d
   refine(lP) (fun u=>?_) (fun u=>?_)
   ·
    have Ti:i - 1<x.ab.length:=by omega
    have B:=getElem!_pos x.ab (i - 1) Ti;have V8:=of_decide_eq_true u;obtain⟨VY,VZ,V0,BB,_,V,W,_⟩:=SR.at hi (ae Ti);have V:=RR.bX V;subst V;have W:=aR W c4 (by simp);refine DP .r (fun _ g=>PV.fa rf rfl)<|DP .r (fun _ g=>PV.ld1 jD (f.ext g).range rfl rfl)<|bP ?_;refine DP .r (fun _ g=>PV.CZ pF (i - 1) BB rfl rfl (by omega) (by omega))<|DP .r (fun _ g=>PV.fa lA rfl)<|DP .r (fun _ g=>PV.CY ak (aR W g (by simp)) rfl rfl)<|DP .r (fun _ g=>PV.fa lA rfl)<|DP .r (fun _ g=>PV.CY ak (s.ext g).range rfl rfl)<|?_;refine DW.e rfl rfl rfl rfl rfl (fun wx g hF=>OX.call Le rfl rfl ((jF (k:=x.ab[i - 1].key) (q:=x.ab[i].key)).mono ?_))<|?_
    ·
     rintro _ wy ⟨rfl,hy⟩;exact⟨_,rfl,g.trans hy,hy,_,rfl,rfl⟩
    rintro _ wz _ rfl;refine(lP) (fun D=>?_) (fun D=>?_)
    ·
     refine aN ?_;refine(cy) ?_;rintro w5 d _;have c5:=c4.trans d;have f:=f.ext d;have s:=s.ext d;exact(bW) (by unfold fG;first | (simp only [o,B,g19,p,u,D];done) | (simp only [o,B,g19,p,u,D];rfl) | (simp only [o,g19,p,u,D];rfl) | (simp only [o,g19,p,u,D];done)) d
    refine DP .r (fun _ g=>PV.fa vf rfl)<|DP .r (fun _ g=>PV.ld1 eV (s.ext g).range rfl rfl)<|DP .r (fun _ g=>PV.uw re rfl)<|(lP) (fun z=>?_) (fun z=>?_)
    ·
     refine(cy) ?_;rintro w5 d _;have c5:=c4.trans d;have f:=f.ext d;have s:=s.ext d;exact(bW) (by unfold fG;first | (simp only [o,B,g19,p,u,D,z];done) | (simp only [o,B,g19,p,u,D,z];rfl) | (simp only [o,g19,p,u,D,z];rfl) | (simp only [o,g19,p,u,D,z];done)) d
    refine DP .r (fun _ g=>PV.fa nD rfl)<|DP .r (fun _ g=>PV.ld1 aK (s.ext g).range rfl rfl)<|(lP) (fun A=>?_) (fun A=>?_)
    ·
     refine(cy) ?_;rintro w5 d _;have c5:=c4.trans d;have f:=f.ext d;have s:=s.ext d;exact(bW) (by unfold fG;first | (simp only [o,B,g19,p,u,D,z,A];done) | (simp only [o,B,g19,p,u,D,z,A];rfl) | (simp only [o,g19,p,u,D,z,A];rfl) | (simp only [o,g19,p,u,D,z,A];done)) d
    refine DP .r (fun _ g=>PV.fa nD rfl)<|DP .r (fun _ g=>PV.ld1 aK (s.ext g).range rfl rfl)<|DP .r (fun _ g=>PV.fa j6 rfl)<|DP .r (fun _ g=>PV.ld1 aK (f.ext g).range rfl rfl)<|(cy)<|?_;rintro w5 d _;have c5:=c4.trans d;have f:=f.ext d;have s:=s.ext d;exact(bW) (by unfold fG;first | (simp only [o,B,g19,p,u,D,z,A];done) | (simp only [o,B,g19,p,u,D,z,A];rfl) | (simp only [o,g19,p,u,D,z,A];rfl) | (simp only [o,g19,p,u,D,z,A];done)) d
   refine aN ?_;refine bP ?_;refine DP .r (fun _ g=>PV.fa vf rfl)<|DP .r (fun _ g=>PV.ld1 eV (s.ext g).range rfl rfl)<|DP .r (fun _ g=>PV.uw re rfl)<|(lP) (fun z=>?_) (fun z=>?_)
   ·
    refine(cy) ?_;rintro w5 d _;have c5:=c4.trans d;have f:=f.ext d;have s:=s.ext d;exact(bW) (by unfold fG;first | (simp only [o,B,g19,p,u,z];done) | (simp only [o,B,g19,p,u,z];rfl) | (simp only [o,g19,p,u,z];rfl) | (simp only [o,g19,p,u,z];done)) d
   refine DP .r (fun _ g=>PV.fa nD rfl)<|DP .r (fun _ g=>PV.ld1 aK (s.ext g).range rfl rfl)<|(lP) (fun A=>?_) (fun A=>?_)
   ·
    refine(cy) ?_;rintro w5 d _;have c5:=c4.trans d;have f:=f.ext d;have s:=s.ext d;exact(bW) (by unfold fG;first | (simp only [o,B,g19,p,u,z,A];done) | (simp only [o,B,g19,p,u,z,A];rfl) | (simp only [o,g19,p,u,z,A];rfl) | (simp only [o,g19,p,u,z,A];done)) d
   refine DP .r (fun _ g=>PV.fa nD rfl)<|DP .r (fun _ g=>PV.ld1 aK (s.ext g).range rfl rfl)<|DP .r (fun _ g=>PV.fa j6 rfl)<|DP .r (fun _ g=>PV.ld1 aK (f.ext g).range rfl rfl)<|(cy)<|?_;rintro w5 d _;have c5:=c4.trans d;have f:=f.ext d;have s:=s.ext d;exact(bW) (by unfold fG;first | (simp only [o,B,g19,p,u,z,A];done) | (simp only [o,B,g19,p,u,z,A];rfl) | (simp only [o,g19,p,u,z,A];rfl) | (simp only [o,g19,p,u,z,A];done)) d
  intro w5 d;have c5:=c4.trans d;have f:=f.ext d;have s:=s.ext d;refine(aP) (fun X=>?_) fun X=>?_
  ·
   skip
   refine(bF) ?_;exact⟨false,rfl,⟨fun h=>(by cases h),fun h=>absurd (h.1 i _ (ae G)) (by simp [X])⟩,c5⟩
  refine eL ?_;refine EX.again (i+1) (Sub.k2 rfl rfl<|Sub.cons rfl<|Sub.gM rfl (by simp)<|Sub.nil) ⟨c5,f,by omega,cn (P:=fun j _=>fG x.ad x.ab j=false) G L X⟩ (by omega)
 simp at g11
 have L:uP x.ad x.ab:=fun j y J=>L j y (by have:=(List.getElem?_eq_some_iff.1 J).1;omega) J;refine jx ?_;refine WP .r (PV.fa rh rfl)<|(bp) el f.range<|?_;refine WP .r (PV.fV iG rfl)<|cB ?_;refine WC.loop (σ:=Nat) (cT:=fun i=>[(1,.pointer (some ⟨b1,0,none⟩)),(62,.slice a2 n2 e2),(63,.int .i64 (n2:Int)),(64,.int .i64 (i:Int))]) (I:=fun i w'=>aJ [] w w'∧bN w' b1 31 (x.row a1 n1 e1 a2 n2 e2)∧i≤n2∧∀(j:Nat) (y:Rec),j<i→x.ah[j]?=some y→y.aq≤x.ad) (μ:=fun i=>n2 - i) 0 Sub.t ⟨c2,f,by omega,fun j y h=>by omega⟩ ?_;rintro i2 w3 ⟨c3,f,adY,N⟩;refine(aP) (fun Y=>?_) fun Y=>?_
 ·
  simp at Y
  have G:i2<x.ah.length:=by omega
  obtain⟨Ta,Tb,Tc,R,_,⟨q1,q2,q3,rfl,F4,F5⟩,H,_⟩:=SR.at hr (ae G);refine cW ?_;have H:=aR H c3 (by simp);refine nx ?_;refine WP .r (PV.dM iG R rfl rfl (by omega))<|(bj) dC H<|?_;refine WL.go rfl (OX.alloc nC rfl fun b6 w4 BA F6=>?_);have F:=BA.ext;have zX:=BA.gW c3;have rF:b1≠b6:=BA.ne f.lt;have Lp:b6≠b1:=Ne.symm rF;have c4:=c3.trans F;have f:=f.ext F;refine WL.go rfl (OX.kB fA F6 rfl rfl rfl rfl rfl fun w5 d _ F6=>?_);have c5:=c4.own d zX;have f:=f.bR d (by simp [rF]);refine cB ?_;refine WP .r (PV.fa ot rfl)<|(bp) aK F6.range<|?_;refine WP .r (PV.fa j6 rfl)<|(bp) aK f.range<|(aP) (fun O=>?_) fun O=>?_
  ·
   simp at O
   refine(bF) ?_;exact⟨false,rfl,⟨fun h=>(by cases h),fun h=>absurd (h.2.1 i2 _ (ae G)) (by omega)⟩,c5⟩
  simp at O
  refine eL ?_;refine EX.again (i2+1) (Sub.k2 rfl rfl<|Sub.cons rfl<|Sub.gM rfl (by simp)<|Sub.nil) ⟨c5,f,by omega,cn (P:=fun _ (y:Rec)=>y.aq≤x.ad) G N O⟩ (by omega)
 simp at Y
 have N:∀(j:Nat) (y:Rec),x.ah[j]?=some y→y.aq≤x.ad:=fun j y J=>N j y (by have:=(List.getElem?_eq_some_iff.1 J).1;omega) J;refine fZ ?_;refine WC.ke (t:=2) (v:=.bool (jV x)) (aJ [] w3) ?_<|?_
 ·
  refine nx ?_;refine WP .r (PV.fa j6 rfl)<|(bp) aK f.range<|(cz) (fun K=>?_) (fun K=>?_)
  ·
   refine WP .r (PV.fa j6 rfl)<|(bp) aK f.range<|(cz) (fun Q=>?_) (fun Q=>?_)
   ·
    refine WP .r (PV.fa rf rfl)<|(bp) jD f.range<|?_;refine WP .r (PV.fV pF rfl)<|(cz) (fun QP=>?_) (fun QP=>?_)
    ·
     refine WP .r (PV.fa rh rfl)<|(bp) el f.range<|(cA) VB (oy (hr.ext c3)) ?_;rintro _ w4 ⟨rfl,F⟩;have c4:=c3.trans F;have f:=f.ext F;exact(eT) (by unfold jV;simp only [K,Q,QP,← hlen];first | rfl | simp) F
    exact(eT) (by unfold jV;simp only [K,Q,QP,← hlen];first | rfl | simp) (aJ.refl _ _)
   exact(eT) (by unfold jV;simp only [K,Q,← hlen];first | rfl | simp) (aJ.refl _ _)
  refine aN ?_;exact(eT) (by unfold jV;simp only [K,← hlen];first | rfl | simp) (aJ.refl _ _)
 intro w4 F;have c4:=c3.trans F;have f:=f.ext F;refine(bF) ?_;exact⟨_,rfl,⟨fun h=>by have:=(oO x).1 h;exact⟨L,N,this⟩,fun h=>(oO x).2 h.2.2⟩,c4⟩
end Go.Rc

