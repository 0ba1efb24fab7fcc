/- Walks over the program, part WF. Conditions: as each theorem says. -/
import Derived.Test.YtilldnlhckpbjaaGreatDoorEFacts
import Derived.Test.YtilldnlhckpbjaaGreatDoorEWB
import Derived.Test.YtilldnlhckpbjaaGreatDoorEBe
set_option linter.all false
namespace Go.Rc
open Go Go.Proofs Go.Proofs.Tryz
variable {x:cW}{a a2 a1:Option Addr}{n c n2 e2 n1 e1:Nat}{w:World}{M Z:Nat→Prop}{l:List Rec}{k:Key}
set_option maxHeartbeats 400000
theorem gK{x:Rec}(j:St w M Z w []) (hk:Rd RR.key 2 Z w a n c x.reads) (p:x.reads.length≤4000):Calls prog 103 #[.agg (x.row a n c).toArray] w fun e w'=>∃d f g,e=.returned (.agg (x.row d f g).toArray)∧St w M Z w' [As.os RR.key 43 2 d f g x.reads]:=by
 have q:=hk.len;refine enter func103 rfl ntmps103 rfl<|?_;have aR:=j;have st1:=aR.fr hk;have st2:=st1.fD RR.key 43 2;refine(dy) st2 fun b1 w1 r s m=>?_;refine(fy) m fun b2 w2 t u b=>?_;refine(bq) gS b.b1<|?_;refine WL.ap rfl rfl b.p2 ((As.gr b.g3)) fun a5 v w3 y z o=>?_;refine nx ?_;refine WL.s1 o.p2 fun w4 _ h=>?_;refine(bf) dN h.b0<|(dw) gk h.p2 fun w5 A B i=>?_;refine(jt) dN i.b0<|?_;exact⟨_,_,_,rfl,i.p2.k1⟩
theorem yb(D:St w M Z w []) (hl:Rd RR.fl 8 Z w a n c l) (Y:l.length≤1000000):Calls prog 62 #[.slice a n c] w fun e w'=>∃q s u Z',e=.returned (.slice q s u)∧dU w.heap.size Z Z'∧St w M Z' w' [As.os RR.fl 50 8 q s u l]:=by
 have hlen:=hl.len;have hle:=hl.le;refine enter func62 rfl ntmps62 rfl<|?_;have aR:=D;have st1:=aR.fr hl;have st2:=st1.fD RR.fl 50 8;refine aQ ?_;refine eX ?_;refine WC.kl (σ:=Nat × (Nat→Prop) × (List Rec) × (Option Addr) × Nat × Nat) (db:=fun(i,d,acc,f,b,g)=>[(3,.slice f b g),(6,.slice a n c),(7,.int .i64 (n:Int)),(8,.int .i64 (i:Int))]) (F:=fun(i,d,acc,f,b,g)=>[As.os RR.fl 50 8 f b g (acc)]) (I:=fun(i,d,acc,f,b,g)=>(i≤n)∧(dU w.heap.size Z d)∧(acc=l.take i)∧True) (μ:=fun(i,d,acc,f,b,g)=>n - i) (Zf:=fun(i,d,acc,f,b,g)=>d) (0,Z,[],none,0,0) (st2) Sub.t (⟨by omega,dU.refl _ _,by simp,trivial⟩)<|?_;rintro⟨i,d,acc,f,b,g⟩ w1 h ⟨hi,o,j,_⟩;simp only [CA,NA] at h hi o j ⊢;have ta:=((As.gs h.g0)).len
 have T0:acc.length≤1000000:=by rw [j,List.length_take];omega
 refine(aT) (fun g9=>?_) fun g9=>?_
 ·
  simp at g9
  have v:i<l.length:=by omega
  refine df ?_;obtain⟨jK,qe,nX,E,i6,G,H,J⟩:=Rd.at (As.gr h.g1) v;obtain⟨q1,q2,q3,rfl,K,y⟩:=G;have L:=h.fg J H;have z:=L.fr K;refine nx ?_;refine WP .r (PV.dO jk E rfl rfl (by omega))<|(bf) dN (As.kW z.g1)<|(fy) z fun b5 w2 JA Ih N=>?_;refine(dw) gk N fun w3 kI nj B=>?_;refine(bf) dN B.b0<|?_;have m:=B;refine(cE) B0 (gK m.e0 (As.gr m.g1) y) ?_;rintro _ w4 ⟨e1,e2,e3,rfl,C⟩;have O:=St.lr m C;have P:=St.dC C;have hsz:=m.size;have Q:=O.dZ (by omega);have R:=o.trans (dU.nA (F:=fun x=>x∈aZ e1) P) hsz;refine WL.go rfl (OX.aM (us:=l[i].row e1 e2 e3) rL rfl rfl rfl rfl fun W9 w5 S T=>?_);have p:=Q.du S T;refine WL.ap rfl rfl p.p5 (SR.cT (A:=fun _=>True) (x:=l[i]) (As.gb p.g0) trivial rfl (Rec.one _ _ _ _) ⟨e1,e2,e3,rfl,(As.gr p.g1),y⟩) fun U V w6 ae1 ae2 W=>?_;refine jg ?_;refine eb (i+1,_,acc++[l[i]],U,(b+1),V) ⟨W.p6.p1.k2,⟨by omega,R,by rw [j,List.take_succ_eq_append_getElem v],trivial⟩⟩
 simp at g9
 have X:acc=l:=by rw [j];exact List.take_of_length_le (by omega)
 subst X;refine(bF) ?_;exact⟨_,_,_,_,rfl,o,h.p1.drop⟩
theorem lx(D:St w M Z w []) (hl:Rd RR.fl 8 Z w a n c l):Calls prog 92 #[.slice a n c,k.val] w fun e w'=>∃y z A,e=.returned (.tuple #[.agg ((aF l k).row y z A).toArray,.bool (az l k).isSome])∧(aF l k).reads.length≤4000∧St w M Z w' [As.os RR.key 43 2 y z A (aF l k).reads]:=by
 have hlen:=hl.len;have hle:=hl.le;refine enter func92 rfl ntmps92 rfl<|?_;have aR:=D;have st1:=aR.fr hl;refine(dy) st1 fun b3 w1 Q R st2=>?_;refine(fy) st2 fun b4 w2 S T E=>?_;refine aQ ?_;refine WC.bm (σ:=Nat) (db:=fun i=>[(3,.pointer (some ⟨b3,0,none⟩)),(4,.pointer (some ⟨b4,0,none⟩)),(8,.slice a n c),(9,.int .i64 (n:Int)),(10,.int .i64 (i:Int))]) (F:=fun i=>[]) (I:=fun i=>(i≤n)∧(∀j x,j<i→l[j]?=some x→(x.key == k)=false)∧True) (μ:=fun i=>n - i) (0) (E) Sub.t (⟨by omega,fun j x h=>by omega,trivial⟩)<|?_;rintro i w3 m ⟨hi,o,_⟩;simp only [CA,NA] at m hi o ⊢;refine(aT) (fun g11=>?_) fun g11=>?_
 ·
  simp at g11
  have s:i<l.length:=by omega
  refine df ?_;obtain⟨U,V,W,G,X,H,J,K⟩:=Rd.at (As.gr m.g2) s;obtain⟨q1,Y,q3,rfl,L,B⟩:=H;have u:=m.fg K J;have d:=u.fr L;refine nx ?_;refine WP .r (PV.dO jk G rfl rfl (by omega))<|(bf) dN (As.kW d.g1)<|(fy) d fun b7 w4 Ry Rz N=>?_;refine(dw) gk N fun w5 kI nj f=>?_;refine(jY) ak f.b0<|(bf) ak f.b4<|?_;refine WP .r (PV.Ce eI (p:=l[i].key) (q:=k) rfl rfl)<|(aT) (fun g17=>?_) fun g17=>?_
  ·
   simp at g17
   have g:az l k=some l[i]:=gN s o (by simpa using g17)
   have b:aF l k=l[i]:=by unfold aF;rw [g];rfl
   refine(bf) dN f.b0<|?_;have v:=f;refine(cE) B0 (gK v.e0 (As.gr v.g1) B) ?_;rintro _ w6 ⟨e1,e2,e3,rfl,O⟩;have P:=St.lr v O;refine(dw) gk P.p4 fun w7 vI oh C=>?_;refine pU ?_;refine EX.uZ rfl (RS.cell dN rfl C.b0 rfl<|RS.tmp rfl<|RS.nil) rfl<|?_;exact⟨e1,e2,e3,by rw [g,b];rfl,by rw [b];exact B,by rw [b];exact C.p1.k1⟩
  simp at g17
  refine eX ?_;refine eb (i+1) ⟨f.p5.p5.p5.k3,⟨by omega,cp s o (by simpa using g17),trivial⟩⟩
 simp at g11
 have g:az l k=none:=nv (i:=i) (by omega) o
 have b:aF l k=l8:=by unfold aF;rw [g];rfl
 have u:=m.fD RR.key 43 2;refine(dw) gk u.p1 fun w4 C8 yX d=>?_;refine cD ?_;refine EX.uZ rfl (RS.cell dN rfl d.b0 rfl<|RS.tmp rfl<|RS.nil) rfl<|?_;exact⟨none,0,0,by rw [g,b];rfl,by rw [b];simp [l8],by rw [b];exact d.p1.k1⟩
theorem dE(hl:Rd RR.fl 8 Z w a n c l):Calls prog 92 #[.slice a n c,k.val] w fun e w'=>∃b d f,e=.returned (.tuple #[.agg ((aF l k).row b d f).toArray,.bool (az l k).isSome])∧aK [] w w':=
 (lx (M:=fun _=>False) (St.start fun _ g=>g.2) hl.cut).mono fun _ _ ⟨b,d,f,h1,_,h⟩=>⟨b,d,f,h1,h.cg⟩
theorem Aw{x:Rec}(gn:St w M Z w []) (hl:Rd RR.fl 8 Z w a n c l) (h6:l.length≤1000000) (hx:Rd RR.key 2 Z w a2 n2 e2 x.reads) (C:x.reads.length≤4000):Calls prog 139 #[.slice a n c,.agg (x.row a2 n2 e2).toArray] w fun e w'=>∃U V W Z',e=.returned (.slice U V W)∧dU w.heap.size Z Z'∧St w M Z' w' [As.os RR.fl 50 8 U V W (eN l x)]:=by
 have hlen:=hl.len;refine enter func139 rfl ntmps139 rfl<|?_;have aR:=gn;have st1:=aR.fr hl;have st2:=st1.fr hx;have iO:=st2.fD RR.fl 50 8;refine(dy) iO fun b3 w1 DB uK iL=>?_;refine aQ ?_;refine lU ?_;refine WC.kl (σ:=Nat × Bool × (Nat→Prop) × (List Rec) × (Option Addr) × Nat × Nat) (db:=fun(i,put,m,out,g,b,h)=>[(3,.pointer (some ⟨b3,0,none⟩)),(5,.slice g b h),(6,.bool put),(10,.slice a n c),(11,.int .i64 (n:Int)),(12,.int .i64 (i:Int))]) (F:=fun(i,put,m,out,g,b,h)=>[As.os RR.fl 50 8 g b h (out)]) (I:=fun(i,put,m,out,g,b,h)=>(i≤n)∧(dU w.heap.size Z m)∧(out++dH x (l.drop i) put=eN l x)∧True) (μ:=fun(i,put,m,out,g,b,h)=>n - i) (Zf:=fun(i,put,m,out,g,b,h)=>m) (0,false,Z,[],none,0,0) (iL.p1) Sub.t (⟨by omega,dU.refl _ _,rfl,trivial⟩)<|?_;rintro⟨i,put,m,out,g,b,h⟩ w2 o ⟨hi,s,hinv,_⟩;simp only [CA,NA] at o hi s hinv ⊢;have ta:=((As.gs o.g0)).len
 have T1:out.length≤1000001:=by have h1:=congrArg List.length hinv;have h2:=ot x l false;simp only [eN,List.length_append] at h1;omega
 refine(aT) (fun g13=>?_) fun g13=>?_
 ·
  simp at g13
  have X:i<l.length:=by omega
  have Y:dH x (l.drop i) put=(if decide (0≤bl l[i].key x.key) && !put then [x] else [])++(if bl l[i].key x.key=0 then [] else [l[i]])++dH x (l.drop (i+1)) (put || decide (0≤bl l[i].key x.key)):=by rw [List.drop_eq_getElem_cons X];rfl
  refine df ?_;obtain⟨jK,qe,nX,cF,i6,gU,ft,fF⟩:=Rd.at (As.gr o.g3) X;obtain⟨q1,D,E,rfl,JB,Ii⟩:=gU;have u:=o.fg fF ft;have G:=u.fr JB;refine nx ?_;refine WP .r (PV.dO jk cF rfl rfl (by omega))<|(bf) dN (As.kW G.g1)<|(fy) G fun b8 w3 Mc hb8 K=>?_;refine(dw) gk K fun w4 kI nj p=>?_;refine(jY) ak p.b0<|(jY) ak p.b4<|(fw) (jJ (k:=l[i].key) (q:=x.key)) p fun w5 s5 y=>?_;refine df ?_;refine WC.dz (t:=26) (v:=.bool (decide (0≤bl l[i].key x.key) && !put)) y ?_<|?_
  ·
   refine(cG) (fun g23=>?_) (fun g23=>?_)
   ·
    exact(bY) (by simp only [g23];first | rfl | simp) (y)
   exact(bY) (by simp only [g23];first | rfl | simp) (y)
  intro w6 z;refine(aT) (fun H=>?_) fun H=>?_
  ·
   simp at H
   obtain⟨hA,hB⟩:=H;subst hB
   have f:dH x (l.drop i) false=[x]++(if bl l[i].key x.key=0 then [] else [l[i]])++dH x (l.drop (i+1)) true:=by rw [Y];simp [hA]
   refine(bf) dN z.b4<|?_;have j:=z;refine(cE) B0 (gK j.e0 (As.gr j.g5) C) ?_;rintro _ w7 ⟨f1,f2,f3,rfl,tb⟩;have L:=St.lr j tb;have N:=St.dC tb;have hsz:=j.size;have cS:=L.dZ (by omega);have J:=s.trans (dU.nA (F:=fun x=>x∈aZ f1) N) hsz;refine WL.go rfl (OX.aM (us:=x.row f1 f2 f3) rL rfl rfl rfl rfl fun Xa w8 RA RB=>?_);have O:=cS.du RA RB;refine WL.ap rfl rfl O.p5 (SR.cT (A:=fun _=>True) (x:=x) (As.gb O.g0) trivial rfl (Rec.one _ _ _ _) ⟨f1,f2,f3,rfl,(As.gr O.g1),C⟩) fun a31 Xb w9 ae3 ae4 P=>?_;refine(aT) (fun d=>?_) fun d=>?_
   ·
    simp at d
    rw [if_neg d] at f;refine(bf) dN P.b3<|?_;refine WL.go rfl (OX.aM (us:=l[i].row q1 D E) rL rfl rfl rfl rfl fun b36 jP Q R=>?_);have S:=P.du Q R;refine WL.ap rfl rfl S.p1 (SR.cT (A:=fun _=>True) (x:=l[i]) (As.gb S.g0) trivial rfl (Rec.one _ _ _ _) ⟨q1,D,E,rfl,(As.gr S.g5),Ii⟩) fun a37 T kF RC RD fX=>?_;refine jg ?_;refine eb (i+1,true,_,_,a37,((b+1)+1),T) ⟨fX.p9.p9.p9.p3.k4,⟨by omega,J,by rw [← hinv,f];simp,trivial⟩⟩
   simp at d
   rw [if_pos d] at f;refine eX ?_;refine eb (i+1,true,_,_,a31,(b+1),Xb) ⟨P.p8.p8.p8.p3.k4,⟨by omega,J,by rw [← hinv,f];simp,trivial⟩⟩
  have f:dH x (l.drop i) put=[]++(if bl l[i].key x.key=0 then [] else [l[i]])++dH x (l.drop (i+1)) put:=by
   rw [Y]
   cases put
   ·
    simp at H;rw [decide_eq_false (by omega)];rfl
   simp
  refine(aT) (fun d=>?_) fun d=>?_
  ·
   simp at d
   rw [if_neg d] at f;refine(bf) dN z.b0<|?_;refine WL.go rfl (OX.aM (us:=l[i].row q1 D E) rL rfl rfl rfl rfl fun b36 w7 Q R=>?_);have j:=z.du Q R;refine WL.ap rfl rfl j.p4 (SR.cT (A:=fun _=>True) (x:=l[i]) (As.gb j.g0) trivial rfl (Rec.one _ _ _ _) ⟨q1,D,E,rfl,(As.gr j.g2),Ii⟩) fun a37 T w8 RC RD L=>?_;refine jg ?_;refine eb (i+1,put,_,_,a37,(b+1),T) ⟨L.p7.p7.p7.p3.k4,⟨by omega,s,by rw [← hinv,f];simp,trivial⟩⟩
  simp at d
  rw [if_pos d] at f;refine eX ?_;refine eb (i+1,put,_,_,g,b,h) ⟨z.p6.p6.p6.p6.k4,⟨by omega,s,by rw [← hinv,f];simp,trivial⟩⟩
 simp at g13
 have kX:l.drop i=[]:=List.drop_eq_nil_of_le (by omega);rw [kX] at hinv;refine(aT) (fun B=>?_) fun B=>?_
 ·
  simp at B
  subst B;refine(bf) dN o.b1<|?_;have u:=o;refine(cE) B0 (gK u.e0 (As.gr u.g2) C) ?_;rintro _ w3 ⟨f1,f2,f3,rfl,qf⟩;have G:=St.lr u qf;have N:=St.dC qf;have hsz:=u.size;have K:=G.dZ (by omega);have J:=s.trans (dU.nA (F:=fun x=>x∈aZ f1) N) hsz;refine WL.go rfl (OX.aM (us:=x.row f1 f2 f3) rL rfl rfl rfl rfl fun b44 w4 Xc Xd=>?_);have p:=K.du Xc Xd;refine WL.ap rfl rfl p.p2 (SR.cT (A:=fun _=>True) (x:=x) (As.gb p.g0) trivial rfl (Rec.one _ _ _ _) ⟨f1,f2,f3,rfl,(As.gr p.g1),C⟩) fun a45 RF w5 RG Xe y=>?_;refine(bF) ?_;exact⟨_,_,_,_,rfl,J,by rw [← hinv];exact y.k1⟩
 simp at B
 subst B;refine(bF) ?_;exact⟨_,_,_,_,rfl,s,by rw [← hinv];simp only [dH,List.append_nil,if_true];exact o.k1⟩
theorem vJ{x:Rec}(hk:Rd RR.key 2 Z w a n c x.reads):CR prog 104 #[.agg (x.row a n c).toArray] w (.bool (dI x)):=by
 have hlen:=SR.len hk;have hle:=SR.le hk;refine enter func104 rfl ntmps104 rfl<|?_;have c0:aK [] w w:=aK.refl _ _;refine bJ ?_;refine WL.go rfl (OX.box rfl rfl rfl fun b1 w1 H b=>?_);have s1:=H.ext;have P:=H.gY c0;have c1:=c0.trans s1;refine fY ?_;refine WP .r (PV.fa Ag rfl)<|(bq) gS b.range<|?_;refine WP .r (PV.fZ dn rfl)<|cD ?_;refine WC.loop (σ:=Nat) (db:=fun i=>[(1,.pointer (some ⟨b1,0,none⟩)),(6,.slice a n c),(7,.int .i64 (n:Int)),(8,.int .i64 (i:Int))]) (I:=fun i w'=>aK [] w w'∧bM w' b1 50 (x.row a n c)∧i≤n∧∀j y,j<i→x.reads[j]?=some y→el y=true) (μ:=fun i=>n - i) 0 Sub.t ⟨c1,b,by omega,fun j y h=>by omega⟩ ?_;rintro i w2 ⟨c2,b,hi,J⟩;refine(aT) (fun g9=>?_) fun g9=>?_
 ·
  simp at g9
  have B:i<x.reads.length:=by omega
  refine df ?_;obtain⟨Q,R,S,L,_,C,D,_⟩:=SR.at hk (ae B);have C:=RR.bT C;subst C;have D:=aW D c2 (by simp);refine nx ?_;refine WP .r (PV.dO dn L rfl rfl (by omega))<|(bf) ak D<|?_;refine WL.go rfl (OX.alloc Af rfl fun b4 w3 E u=>?_);have d:=E.ext;have N:=E.gY c2;have K:b1≠b4:=E.ne b.lt;have T:b4≠b1:=Ne.symm K;have c3:=c2.trans d;have b:=b.ext d;refine WL.go rfl (OX.kL fW u rfl rfl rfl rfl rfl fun w4 e _ u=>?_);have c4:=c3.own e N;have b:=b.bS e (by simp [K]);refine(bf) ak u.range<|(cE) Fo (gl (k:=x.reads[i])) ?_;rintro _ w5 ⟨rfl,p⟩;have c5:=c4.trans p;have b:=b.ext p;have u:=u.ext p;refine(aT) (fun g14=>?_) fun g14=>?_
  ·
   simp at g14
   have F:dI x=false:=by unfold dI;rw [Bool.and_eq_false_iff];left;rw [List.all_eq_false];exact⟨_,List.getElem_mem B,by simp [g14]⟩
   refine(bF) ?_;exact⟨by rw [F],c5⟩
  simp at g14
  refine eX ?_;refine EX.again (i+1) (Sub.k2 rfl rfl<|Sub.cons rfl<|Sub.gM rfl (by simp)<|Sub.nil) ⟨c5,b,by omega,cp B J g14⟩ (by omega)
 simp at g9
 have F:dI x=eO x:=by
  unfold dI
  rw [show x.reads.all el=true from List.all_eq_true.2 fun y hy=>by obtain⟨j,O,rfl⟩:=List.mem_iff_getElem.1 hy;exact J j _ (by omega) (ae O)]
  rfl
 refine fY ?_;refine WC.kj (t:=2) (v:=.bool (eO x)) (aK [] w2) ?_<|?_
 ·
  refine nx ?_;refine WP .r (PV.fa oN rfl)<|(jY) ak b.range<|(cE) Fo (gl (k:=x.key)) ?_;rintro _ w3 ⟨rfl,d⟩;have c3:=c2.trans d;have b:=b.ext d;refine(cG) (fun g19=>?_) (fun g19=>?_)
  ·
   refine WP .r (PV.fa oN rfl)<|(jY) ak b.range<|(cE) Fl (cJ (k:=x.key)) ?_;rintro _ w4 ⟨rfl,e⟩;have c4:=c3.trans e;have b:=b.ext e;refine(cG) (fun f=>?_) (fun f=>?_)
   ·
    refine WP .r (PV.fa vD rfl)<|(bq) fq b.range<|?_;refine WP .r (PV.uR rM rfl)<|(cG) (fun g=>?_) (fun g=>?_)
    ·
     refine WP .r (PV.fa Ag rfl)<|(bq) gS b.range<|?_;refine WP .r (PV.fZ dn rfl)<|(cG) (fun m=>?_) (fun m=>?_)
     ·
      refine WP .r (PV.fa rR rfl)<|(bq) aL b.range<|(cG) (fun o=>?_) (fun o=>?_)
      ·
       refine WP .r (PV.fa rR rfl)<|(bq) aL b.range<|?_;refine WP .r (PV.fa oO rfl)<|(bq) aL b.range<|(cG) (fun q=>?_) (fun q=>?_)
       ·
        refine WP .r (PV.fa oO rfl)<|(bq) aL b.range<|(cG) (fun s=>?_) (fun s=>?_)
        ·
         refine WP .r (PV.fa Ah rfl)<|(bq) aL b.range<|(cG) (fun z=>?_) (fun z=>?_)
         ·
          refine WP .r (PV.fa Ah rfl)<|(bq) aL b.range<|(cG) (fun A=>?_) (fun A=>?_)
          ·
           refine WP .r (PV.fa Ai rfl)<|(bq) dm b.range<|(cG) (fun G=>?_) (fun G=>?_)
           ·
            exact(e8) (by unfold eO;simp only [g19,f,g,m,o,q,s,z,A,G,← hlen];first | rfl | simp) (d.trans e)
           refine WP .r (PV.fa oN rfl)<|(jY) ak b.range<|(cE) Ic (dD (k:=x.key)) ?_;rintro _ w5 ⟨rfl,p⟩;have c5:=c4.trans p;have b:=b.ext p;exact(e8) (by unfold eO;simp only [g19,f,g,m,o,q,s,z,A,G,← hlen];first | rfl | simp) ((d.trans e).trans p)
          exact(e8) (by unfold eO;simp only [g19,f,g,m,o,q,s,z,A,← hlen];first | rfl | simp) (d.trans e)
         refine aQ ?_;exact(e8) (by unfold eO;simp only [g19,f,g,m,o,q,s,z,← hlen];first | rfl | simp) (d.trans e)
        refine aQ ?_;exact(e8) (by unfold eO;simp only [g19,f,g,m,o,q,s,← hlen];first | rfl | simp) (d.trans e)
       refine aQ ?_;refine aQ ?_;exact(e8) (by unfold eO;simp only [g19,f,g,m,o,q,← hlen];first | rfl | simp) (d.trans e)
      refine aQ ?_;refine aQ ?_;exact(e8) (by unfold eO;simp only [g19,f,g,m,o,← hlen];first | rfl | simp) (d.trans e)
     refine aQ ?_;refine aQ ?_;refine aQ ?_;exact(e8) (by unfold eO;simp only [g19,f,g,m,← hlen];first | rfl | simp) (d.trans e)
    refine aQ ?_;refine aQ ?_;refine aQ ?_;exact(e8) (by unfold eO;simp only [g19,f,g,← hlen];first | rfl | simp) (d.trans e)
   refine aQ ?_;refine aQ ?_;refine aQ ?_;refine aQ ?_;exact(e8) (by unfold eO;simp only [g19,f,← hlen];first | rfl | simp) (d.trans e)
  refine aQ ?_;refine aQ ?_;refine aQ ?_;refine aQ ?_;exact(e8) (by unfold eO;simp only [g19,← hlen];first | rfl | simp) d
 intro w3 d;have c3:=c2.trans d;have b:=b.ext d;refine(bF) ?_;exact⟨by rw [F],c3⟩
theorem qg(hl:Rd RR.fl 8 Z w a n c l):Calls prog 63 #[.slice a n c] w fun e w'=>∃b:Bool,e=.returned (.bool b)∧(b=true↔kT l)∧aK [] w w':=by
 have hlen:=SR.len hl;have hle:=SR.le hl;refine enter func63 rfl ntmps63 rfl<|?_;have c0:aK [] w w:=aK.refl _ _;refine pU ?_;refine WP .r (PV.fZ jk rfl)<|cD ?_;refine WC.loop (σ:=Nat) (db:=fun i=>[(0,.slice a n c),(5,.slice a n c),(6,.int .i64 (n:Int)),(7,.int .i64 (i:Int))]) (I:=fun i w'=>aK [] w w'∧i≤n∧∀j y,j<i→l[j]?=some y→ny l j y) (μ:=fun i=>n - i) 0 Sub.t ⟨c0,by omega,fun j y h=>by omega⟩ ?_;rintro i w1 ⟨c1,hi,u⟩;refine(aT) (fun g8=>?_) fun g8=>?_
 ·
  simp at g8
  have p:i<l.length:=by omega
  have d:=getElem!_pos l i p;obtain⟨P,Q,R,J,_,⟨q1,S,U,rfl,K,V⟩,z,_⟩:=SR.at hl (ae p);refine df ?_;have z:=aW z c1 (by simp);refine bJ ?_;refine WP .r (PV.dO jk J rfl rfl (by omega))<|(bf) dN z<|?_;refine WL.go rfl (OX.alloc oL rfl fun b4 w2 F f=>?_);have s2:=F.ext;have L:=F.gY c1;have c2:=c1.trans s2;refine nx ?_;refine WL.go rfl (OX.kL gk f rfl rfl rfl rfl rfl fun w3 N _ f=>?_);have c3:=c2.own N L;refine cq ?_;refine WC.je (t:=30) (v:=.bool (ou l i)) (aK [] w3) ?_<|?_
  ·
   refine WC.drawn (m:=15) (C:=aK [] w3) (T:=fun _=>aK []) (E:=bN [(1,fun v _=>v=.bool (dI l[i]))]) (aU (⟨fun _ _ _ _ _ _ _ h=>h,trivial⟩)) mixed (by kernel_rfl) (aK.drew _ _)<|?_;refine DP .r (fun _ o=>PV.B9 dN (f.ext o).range rfl rfl)<|?_;refine DW.e rfl rfl rfl rfl rfl (fun W o X=>OX.call Qs rfl rfl ((vJ (K.ext (c3.trans o))).mono ?_))<|?_
   ·
    rintro _ wy ⟨rfl,hy⟩;exact⟨_,rfl,o.trans hy,hy,_,rfl,rfl⟩
   rintro _ Y _ rfl;refine(l9) (fun g15=>?_) (fun g15=>?_)
   ·
    refine(cx) ?_;rintro w4 g _;have c4:=c3.trans g;have f:=f.ext g;exact(bY) (by unfold ou;first | (simp only [d,s,g15];done) | (simp only [d,s,g15];rfl) | (simp only [d,g15];rfl) | (simp only [d];rw [Bool.not_eq_true'] at g15;simp [g15]) | (simp only [d];simp at g15 g18;simp [g15,g18])) g
   refine(l9) (fun g18=>?_) (fun g18=>?_)
   ·
    have G:i - 1<l.length:=by omega
    have s:=getElem!_pos l (i - 1) G;have Xf:=of_decide_eq_true g18;obtain⟨W5,W6,W7,O,_,⟨p1,p2,p3,rfl,_,_⟩,A,_⟩:=SR.at hl (ae G);have A:=aW A c3 (by simp);refine cq ?_;refine DP .r (fun _ o=>PV.Dv jk (i - 1) O rfl rfl (by omega) (by omega))<|DP .r (fun _ o=>PV.fa oN rfl)<|DP .r (fun _ o=>PV.Du ak (aW A o (by simp)) rfl rfl)<|DP .r (fun _ o=>PV.fa oN rfl)<|DP .r (fun _ o=>PV.Du ak (f.ext o).range rfl rfl)<|(cx)<|?_;rintro w4 g _;have c4:=c3.trans g;have f:=f.ext g;refine(cE) LY (jJ (k:=l[i - 1].key) (q:=l[i].key)) ?_;rintro _ w5 ⟨rfl,B⟩;have c5:=c4.trans B;have f:=f.ext B;exact(bY) (by unfold ou;first | (simp only [d,s,g15,g18];done) | (simp only [d,s,g15,g18];rfl) | (simp only [d,g15,g18];rfl) | (simp only [d];rw [Bool.not_eq_true'] at g15;simp [g15]) | (simp only [d];simp at g15 g18;simp [g15,g18])) (g.trans B)
   refine(cx) ?_;rintro w4 g _;have c4:=c3.trans g;have f:=f.ext g;exact(bY) (by unfold ou;first | (simp only [d,s,g15,g18];done) | (simp only [d,s,g15,g18];rfl) | (simp only [d,g15,g18];rfl) | (simp only [d];rw [Bool.not_eq_true'] at g15;simp [g15]) | (simp only [d];simp at g15 g18;simp [g15,g18])) g
  intro w4 g;have c4:=c3.trans g;have f:=f.ext g;refine(aT) (fun D=>?_) fun D=>?_
  ·
   skip
   refine(bF) ?_;exact⟨false,rfl,⟨fun h=>(by cases h),fun h=>absurd ((nz p).2 (h.2 i _ (ae p))) (by simp [D])⟩,c4⟩
  refine eX ?_;refine EX.again (i+1) (Sub.k2 rfl rfl<|Sub.cons rfl<|Sub.gM rfl (by simp)<|Sub.nil) ⟨c4,by omega,cp p u ((nz p).1 D)⟩ (by omega)
 ·
  simp at g8
  have u:∀j y,l[j]?=some y→ny l j y:=fun j x H=>u j x (by have:=(List.getElem?_eq_some_iff.1 H).1;omega) H;refine jg ?_;refine WP .r (PV.fZ jk rfl)<|(bF) ?_;exact⟨_,rfl,⟨fun h=>⟨by simp at h;omega,u⟩,fun h=>by have:=h.1;simp;omega⟩,c1⟩
 -- vK i7 G17.T
set_option maxHeartbeats 400000
theorem oT(hl:Rd RR.fl 8 Z w a n c l):CR prog 63 #[.slice a n c] w (.bool (nF l)):=
 (qg hl).mono fun _ _ ⟨b,h1,d,e⟩=>⟨by rw [h1,zo d],e⟩
theorem gV(s:St w M Z w []) (hi:Rd RR.aA 4 Z w a1 n1 e1 x.ab) (hr:Rd RR.fl 8 Z w a2 n2 e2 x.ah) (t:x.ah.length≤1000000) (C:x.ab.length≤1000000):Calls prog 31 #[.agg (x.row a1 n1 e1 a2 n2 e2).toArray] w fun e w'=>∃f g h i j m Z',e=.returned (.agg (x.row f g h i j m).toArray)∧dU w.heap.size Z Z'∧St w M Z' w' [As.os RR.aA 80 4 f g h x.ab,As.os RR.fl 50 8 i j m x.ah]:=by
 have D:=hi.len;have E:=hr.len;refine enter func31 rfl ntmps31 rfl<|?_;have aR:=s;have st1:=aR.fr hi;have st2:=st1.fr hr;have u:=st2.fD RR.aA 80 4;refine(dy) u fun b1 w1 F G v=>?_;refine(fy) v fun b2 w2 H I d=>?_;refine(bq) jI d.b1<|?_;refine WL.ap rfl rfl d.p2 ((As.gr d.g4)) fun a5 J w3 K L y=>?_;refine nx ?_;refine WL.s1 y.p2 fun w4 _ o=>?_;refine(bq) fb o.b0<|?_;have b:=o;refine(cE) Ws (yb b.e0 (As.gr b.g3) t) ?_;rintro _ w5 ⟨f1,f2,f3,N,rfl,p,z⟩;have A:=St.lv b z p;have B:=p.le b.size;refine nx ?_;refine WL.s1 A.p1 fun w6 _ q=>?_;refine(bf) bu q.b0<|(dw) jl q.p3 fun w7 O P r=>?_;refine(jt) bu r.b0<|?_;exact⟨_,_,_,_,_,_,_,rfl,B,r.p2.p3.k2⟩
theorem pF(hi:Rd RR.aA 4 Z w a1 n1 e1 x.ab) (hr:Rd RR.fl 8 Z w a2 n2 e2 x.ah) {k:Key}:CR prog 65 #[.agg (x.row a1 n1 e1 a2 n2 e2).toArray,k.val] w (.agg (bs x.ab k).cells.toArray):=by
 have hlen:=SR.len hi;have hle:=SR.le hi;refine enter func65 rfl ntmps65 rfl<|?_;have c0:aK [] w w:=aK.refl _ _;refine bJ ?_;refine WL.go rfl (OX.box rfl rfl rfl fun b2 w1 H e=>?_);have s1:=H.ext;have U:=H.gY c0;have c1:=c0.trans s1;refine WL.go rfl (OX.box rfl rfl rfl fun b3 w2 u b=>?_);have s2:=u.ext;have V:=u.gY c1;have O:b2≠b3:=u.ne e.lt;have W:b3≠b2:=Ne.symm O;have c2:=c1.trans s2;have e:=e.ext s2;refine WL.go rfl (OX.alloc HL rfl fun b4 w3 m d=>?_);have v:=m.ext;have J:=m.gY c2;have P:b2≠b4:=m.ne e.lt;have X:b4≠b2:=Ne.symm P;have z:b3≠b4:=m.ne b.lt;have Y:b4≠b3:=Ne.symm z;have c3:=c2.trans v;have e:=e.ext v;have b:=b.ext v;refine df ?_;refine WP .r (PV.fa rP rfl)<|(bq) jI e.range<|?_;refine WP .r (PV.fZ qc rfl)<|cD ?_;refine WC.loop (σ:=Nat) (db:=fun i=>[(3,.pointer (some ⟨b3,0,none⟩)),(4,.pointer (some ⟨b4,0,none⟩)),(8,.slice a1 n1 e1),(9,.int .i64 (n1:Int)),(10,.int .i64 (i:Int))]) (I:=fun i w'=>aK [] w w'∧bM w' b3 43 [.int .i64 k.kind,.string k.text]∧bM w' b4 80 [.int .i64 0,.string ⟨#[]⟩,.string ⟨#[]⟩,.int .i64 0]∧i≤n1∧(∀j y,j<i→x.ab[j]?=some y→(y.key == k)=false)) (μ:=fun i=>n1 - i) 0 Sub.t ⟨c3,b,d,by omega,fun j x h=>by omega⟩ ?_;rintro i w4 ⟨c4,b,d,hi1,A⟩;refine(aT) (fun g11=>?_) fun g11=>?_
 ·
  simp at g11
  have B:i<x.ab.length:=by omega
  refine df ?_;obtain⟨TV,TW,TX,Q,_,C,D,_⟩:=SR.at hi (ae B);have C:=RR.bT C;subst C;have D:=aW D c4 (by simp);refine nx ?_;refine WP .r (PV.dO qc Q rfl rfl (by omega))<|(bf) ku D<|?_;refine WL.go rfl (OX.alloc HL rfl fun o w5 s f=>?_);have g:=s.ext;have R:=s.gY c4;have K:b3≠o:=s.ne b.lt;have Me:o≠b3:=Ne.symm K;have L:b4≠o:=s.ne d.lt;have S:o≠b4:=Ne.symm L;have c5:=c4.trans g;have b:=b.ext g;have d:=d.ext g;refine WL.go rfl (OX.kL xY f rfl rfl rfl rfl rfl fun w6 E _ f=>?_);have N:=c5.own E R;have b:=b.bS E (by simp [K]);have d:=d.bS E (by simp [L]);refine cD ?_;refine WP .r (PV.fa oQ rfl)<|(jY) ak f.range<|(bf) ak b.range<|?_;refine WP .r (PV.Ce eI (p:=x.ab[i].key) (q:=k) rfl rfl)<|(aT) (fun g17=>?_) fun g17=>?_
  ·
   simp at g17
   have F:bs x.ab k=x.ab[i]:=by unfold bs;rw [gN B A (by simpa using g17)];rfl
   refine(bf) ku f.range<|?_;refine WL.go rfl (OX.kL xY d rfl rfl rfl rfl rfl fun w7 G _ d=>?_);have T:=N.own G J;have b:=b.bS G (by simp [z]);have f:=f.bS G (by simp [S]);refine(jt) ku d.range<|?_;exact⟨by rw [F],T⟩
  simp at g17
  refine eX ?_;refine EX.again (i+1) (Sub.k4 rfl rfl rfl rfl<|Sub.gM rfl (by simp)<|Sub.nil) ⟨N,b,d,by omega,cp B A (by simpa using g17)⟩ (by omega)
 simp at g11
 have F:bs x.ab k=⟨k,⟨#[]⟩,0⟩:=by unfold bs;rw [nv (i:=i) (by omega) A];rfl
 refine(bf) ak b.range<|?_;refine WP .r (PV.br (us:=(cj.mk k ⟨#[]⟩ 0).cells) HJ rfl rfl rfl)<|?_;refine WL.go rfl (OX.kL xY d rfl rfl rfl rfl rfl fun w5 g _ d=>?_);have c5:=c4.own g J;have b:=b.bS g (by simp [z]);refine(jt) ku d.range<|?_;exact⟨by rw [F],c5⟩
theorem oU(hi:Rd RR.aA 4 Z w a1 n1 e1 x.ab) (hr:Rd RR.fl 8 Z w a2 n2 e2 x.ah) {k:Key}:CR prog 34 #[.agg (x.row a1 n1 e1 a2 n2 e2).toArray,k.val] w (.string (bs x.ab k).value):=by
 refine enter func34 rfl ntmps34 rfl<|?_;have c0:aK [] w w:=aK.refl _ _;refine bJ ?_;refine WL.go rfl (OX.box rfl rfl rfl fun b2 w1 h b=>?_);have s1:=h.ext;have j:=h.gY c0;have c1:=c0.trans s1;refine WL.go rfl (OX.box rfl rfl rfl fun b3 w2 d e=>?_);have s2:=d.ext;have m:=d.gY c1;have i:b2≠b3:=d.ne b.lt;have o:b3≠b2:=Ne.symm i;have c2:=c1.trans s2;have b:=b.ext s2;refine(bf) bu b.range<|(bf) ak e.range<|(cE) Qm (pF (k:=k) (hi.ext c2) (hr.ext c2)) ?_;rintro _ w3 ⟨rfl,g⟩;have c3:=c2.trans g;have b:=b.ext g;have e:=e.ext g;refine WP .r (PV.qR (fs:=[_,_,_]) (f:=1) (off:=2) (T:=80) underlying80 rfl rfl (show ∀w,(isAgg 9).run _ w=.ok false w from isAgg9) rfl rfl)<|(bF) ?_;exact⟨rfl,c3⟩
theorem yc(hi:Rd RR.aA 4 Z w a1 n1 e1 x.ab) (hr:Rd RR.fl 8 Z w a2 n2 e2 x.ah) {k:Key}:CR prog 188 #[.agg (x.row a1 n1 e1 a2 n2 e2).toArray,k.val] w (.int .i64 (bs x.ab k).changed):=by
 refine enter func188 rfl ntmps188 rfl<|?_;have c0:aK [] w w:=aK.refl _ _;refine bJ ?_;refine WL.go rfl (OX.box rfl rfl rfl fun b2 w1 h b=>?_);have s1:=h.ext;have j:=h.gY c0;have c1:=c0.trans s1;refine WL.go rfl (OX.box rfl rfl rfl fun b3 w2 d e=>?_);have s2:=d.ext;have m:=d.gY c1;have i:b2≠b3:=d.ne b.lt;have o:b3≠b2:=Ne.symm i;have c2:=c1.trans s2;have b:=b.ext s2;refine(bf) bu b.range<|(bf) ak e.range<|(cE) Qm (pF (k:=k) (hi.ext c2) (hr.ext c2)) ?_;rintro _ w3 ⟨rfl,g⟩;have c3:=c2.trans g;have b:=b.ext g;have e:=e.ext g;refine WP .r (PV.qR (fs:=[_,_,_]) (f:=2) (off:=3) (T:=80) underlying80 rfl rfl (show ∀w,(isAgg 3).run _ w=.ok false w from isAgg3) rfl rfl)<|(bF) ?_;exact⟨rfl,c3⟩
theorem kc(hi:Rd RR.aA 4 Z w a1 n1 e1 x.ab) (hr:Rd RR.fl 8 Z w a2 n2 e2 x.ah):Calls prog 32 #[.agg (x.row a1 n1 e1 a2 n2 e2).toArray] w fun e w'=>∃b:Bool,e=.returned (.bool b)∧(b=true↔fR x)∧aK [] w w':=by
 have hlen:=SR.len hi;have hle:=SR.le hi;have r5:=SR.len hr;have td:=SR.le hr;refine enter func32 rfl ntmps32 rfl<|?_;have c0:aK [] w w:=aK.refl _ _;refine bJ ?_;refine WL.go rfl (OX.box rfl rfl rfl fun b1 w1 Xg f=>?_);have s1:=Xg.ext;have Xh:=Xg.gY c0;have c1:=c0.trans s1;refine fY ?_;refine WP .r (PV.fa rP rfl)<|(bq) jI f.range<|?_;refine WP .r (PV.fZ qc rfl)<|cD ?_;refine WC.loop (σ:=Nat) (db:=fun i=>[(1,.pointer (some ⟨b1,0,none⟩)),(8,.slice a1 n1 e1),(9,.int .i64 (n1:Int)),(10,.int .i64 (i:Int))]) (I:=fun i w'=>aK [] w w'∧bM w' b1 32 (x.row a1 n1 e1 a2 n2 e2)∧i≤n1∧∀j y,j<i→x.ab[j]?=some y→fJ x.ad x.ab j=false) (μ:=fun i=>n1 - i) 0 Sub.t ⟨c1,f,by omega,fun j y h=>by omega⟩ ?_;rintro i w2 ⟨c2,f,eJ,L⟩;refine(aT) (fun g11=>?_) fun g11=>?_
 ·
  simp at g11
  have G:i<x.ab.length:=by omega
  have o:=getElem!_pos x.ab i G;obtain⟨TV,TW,TX,R,_,S,H,_⟩:=SR.at hi (ae G);have S:=RR.bT S;subst S;refine df ?_;have H:=aW H c2 (by simp);refine bJ ?_;refine WP .r (PV.dO qc R rfl rfl (by omega))<|(bf) ku H<|?_;refine WL.go rfl (OX.alloc HL rfl fun b4 w3 U s=>?_);have s3:=U.ext;have r6:=U.gY c2;have r9:b1≠b4:=U.ne f.lt;have Mf:b4≠b1:=Ne.symm r9;have c3:=c2.trans s3;have f:=f.ext s3;refine nx ?_;refine WL.go rfl (OX.kL xY s rfl rfl rfl rfl rfl fun w4 F _ s=>?_);have c4:=c3.own F r6;have f:=f.bS F (by simp [r9]);refine cq ?_;refine WC.je (t:=59) (v:=.bool (fJ x.ad x.ab i)) (aK [] w4) ?_<|?_
  ·
   refine WC.drawn (m:=43) (C:=aK [] w4) (T:=fun _=>aK []) (E:=bN [(2,fun v _=>v=.bool (el x.ab[i].key)),(7,fun v _=>v=.bool (aw x.ab[i].key)),(23,fun v _=>v=.int .i64 (bl x.ab[i - 1].key x.ab[i].key))]) (aU (⟨fun _ _ _ _ _ _ _ h=>h,⟨fun _ _ _ _ _ _ _ h=>h,⟨fun _ _ _ _ _ _ _ h=>h,trivial⟩⟩⟩)) mixed (by kernel_rfl) (aK.drew _ _)<|?_;refine DP .r (fun _ g=>PV.fa oQ rfl)<|DP .r (fun _ g=>PV.Du ak (s.ext g).range rfl rfl)<|?_;refine DW.e rfl rfl rfl rfl rfl (fun wx g hF=>OX.call Fo rfl rfl ((gl (k:=x.ab[i].key)).mono ?_))<|?_
   ·
    rintro _ wy ⟨rfl,hy⟩;exact⟨_,rfl,g.trans hy,hy,_,rfl,rfl⟩
   rintro _ wz _ rfl;refine(l9) (fun g19=>?_) (fun g19=>?_)
   ·
    refine aQ ?_;refine aQ ?_;refine aQ ?_;refine(cx) ?_;rintro w5 d _;have c5:=c4.trans d;have f:=f.ext d;have s:=s.ext d;exact(bY) (by unfold fJ;first | (simp only [o,B,g19];done) | (simp only [o,B,g19];rfl) | (simp only [o,g19];rfl) | (simp only [o,g19];done)) d
   refine DP .r (fun _ g=>PV.fa oQ rfl)<|DP .r (fun _ g=>PV.Du ak (s.ext g).range rfl rfl)<|?_;refine DW.e rfl rfl rfl rfl rfl (fun wx g hF=>OX.call Fl rfl rfl ((cJ (k:=x.ab[i].key)).mono ?_))<|?_
   ·
    rintro _ wy ⟨rfl,hy⟩;exact⟨_,rfl,g.trans hy,hy,_,rfl,rfl⟩
   rintro _ wz _ rfl;refine(l9) (fun p=>?_) (fun p=>?_)
   ·
    refine aQ ?_;refine aQ ?_;refine(cx) ?_;rintro w5 d _;have c5:=c4.trans d;have f:=f.ext d;have s:=s.ext d;exact(bY) (by unfold fJ;first | (simp only [o,B,g19,p];done) | (simp only [o,B,g19,p];rfl) | (simp only [o,g19,p];rfl) | (simp only [o,g19,p];done)) d
   refine(l9) (fun u=>?_) (fun u=>?_)
   ·
    have T2:i - 1<x.ab.length:=by omega
    have B:=getElem!_pos x.ab (i - 1) T2;have Xf:=of_decide_eq_true u;obtain⟨W5,W6,W7,yZ,_,V,W,_⟩:=SR.at hi (ae T2);have V:=RR.bT V;subst V;have W:=aW W c4 (by simp);refine DP .r (fun _ g=>PV.fa rP rfl)<|DP .r (fun _ g=>PV.ld1 jI (f.ext g).range rfl rfl)<|bJ ?_;refine DP .r (fun _ g=>PV.Dv qc (i - 1) yZ rfl rfl (by omega) (by omega))<|DP .r (fun _ g=>PV.fa oQ rfl)<|DP .r (fun _ g=>PV.Du ak (aW W g (by simp)) rfl rfl)<|DP .r (fun _ g=>PV.fa oQ rfl)<|DP .r (fun _ g=>PV.Du ak (s.ext g).range rfl rfl)<|?_;refine DW.e rfl rfl rfl rfl rfl (fun wx g hF=>OX.call LY rfl rfl ((jJ (k:=x.ab[i - 1].key) (q:=x.ab[i].key)).mono ?_))<|?_
    ·
     rintro _ wy ⟨rfl,hy⟩;exact⟨_,rfl,g.trans hy,hy,_,rfl,rfl⟩
    rintro _ wz _ rfl;refine(l9) (fun D=>?_) (fun D=>?_)
    ·
     refine aQ ?_;refine(cx) ?_;rintro w5 d _;have c5:=c4.trans d;have f:=f.ext d;have s:=s.ext d;exact(bY) (by unfold fJ;first | (simp only [o,B,g19,p,u,D];done) | (simp only [o,B,g19,p,u,D];rfl) | (simp only [o,g19,p,u,D];rfl) | (simp only [o,g19,p,u,D];done)) d
    refine DP .r (fun _ g=>PV.fa Ak rfl)<|DP .r (fun _ g=>PV.ld1 fq (s.ext g).range rfl rfl)<|DP .r (fun _ g=>PV.uR rM rfl)<|(l9) (fun z=>?_) (fun z=>?_)
    ·
     refine(cx) ?_;rintro w5 d _;have c5:=c4.trans d;have f:=f.ext d;have s:=s.ext d;exact(bY) (by unfold fJ;first | (simp only [o,B,g19,p,u,D,z];done) | (simp only [o,B,g19,p,u,D,z];rfl) | (simp only [o,g19,p,u,D,z];rfl) | (simp only [o,g19,p,u,D,z];done)) d
    refine DP .r (fun _ g=>PV.fa rU rfl)<|DP .r (fun _ g=>PV.ld1 aL (s.ext g).range rfl rfl)<|(l9) (fun A=>?_) (fun A=>?_)
    ·
     refine(cx) ?_;rintro w5 d _;have c5:=c4.trans d;have f:=f.ext d;have s:=s.ext d;exact(bY) (by unfold fJ;first | (simp only [o,B,g19,p,u,D,z,A];done) | (simp only [o,B,g19,p,u,D,z,A];rfl) | (simp only [o,g19,p,u,D,z,A];rfl) | (simp only [o,g19,p,u,D,z,A];done)) d
    refine DP .r (fun _ g=>PV.fa rU rfl)<|DP .r (fun _ g=>PV.ld1 aL (s.ext g).range rfl rfl)<|DP .r (fun _ g=>PV.fa ka rfl)<|DP .r (fun _ g=>PV.ld1 aL (f.ext g).range rfl rfl)<|(cx)<|?_;rintro w5 d _;have c5:=c4.trans d;have f:=f.ext d;have s:=s.ext d;exact(bY) (by unfold fJ;first | (simp only [o,B,g19,p,u,D,z,A];done) | (simp only [o,B,g19,p,u,D,z,A];rfl) | (simp only [o,g19,p,u,D,z,A];rfl) | (simp only [o,g19,p,u,D,z,A];done)) d
   refine aQ ?_;refine bJ ?_;refine DP .r (fun _ g=>PV.fa Ak rfl)<|DP .r (fun _ g=>PV.ld1 fq (s.ext g).range rfl rfl)<|DP .r (fun _ g=>PV.uR rM rfl)<|(l9) (fun z=>?_) (fun z=>?_)
   ·
    refine(cx) ?_;rintro w5 d _;have c5:=c4.trans d;have f:=f.ext d;have s:=s.ext d;exact(bY) (by unfold fJ;first | (simp only [o,B,g19,p,u,z];done) | (simp only [o,B,g19,p,u,z];rfl) | (simp only [o,g19,p,u,z];rfl) | (simp only [o,g19,p,u,z];done)) d
   refine DP .r (fun _ g=>PV.fa rU rfl)<|DP .r (fun _ g=>PV.ld1 aL (s.ext g).range rfl rfl)<|(l9) (fun A=>?_) (fun A=>?_)
   ·
    refine(cx) ?_;rintro w5 d _;have c5:=c4.trans d;have f:=f.ext d;have s:=s.ext d;exact(bY) (by unfold fJ;first | (simp only [o,B,g19,p,u,z,A];done) | (simp only [o,B,g19,p,u,z,A];rfl) | (simp only [o,g19,p,u,z,A];rfl) | (simp only [o,g19,p,u,z,A];done)) d
   refine DP .r (fun _ g=>PV.fa rU rfl)<|DP .r (fun _ g=>PV.ld1 aL (s.ext g).range rfl rfl)<|DP .r (fun _ g=>PV.fa ka rfl)<|DP .r (fun _ g=>PV.ld1 aL (f.ext g).range rfl rfl)<|(cx)<|?_;rintro w5 d _;have c5:=c4.trans d;have f:=f.ext d;have s:=s.ext d;exact(bY) (by unfold fJ;first | (simp only [o,B,g19,p,u,z,A];done) | (simp only [o,B,g19,p,u,z,A];rfl) | (simp only [o,g19,p,u,z,A];rfl) | (simp only [o,g19,p,u,z,A];done)) d
  intro w5 d;have c5:=c4.trans d;have f:=f.ext d;have s:=s.ext d;refine(aT) (fun X=>?_) fun X=>?_
  ·
   skip
   refine(bF) ?_;exact⟨false,rfl,⟨fun h=>(by cases h),fun h=>absurd (h.1 i _ (ae G)) (by simp [X])⟩,c5⟩
  refine eX ?_;refine EX.again (i+1) (Sub.k2 rfl rfl<|Sub.cons rfl<|Sub.gM rfl (by simp)<|Sub.nil) ⟨c5,f,by omega,cp (P:=fun j _=>fJ x.ad x.ab j=false) G L X⟩ (by omega)
 simp at g11
 have L:ve x.ad x.ab:=fun j y J=>L j y (by have:=(List.getElem?_eq_some_iff.1 J).1;omega) J;refine jg ?_;refine WP .r (PV.fa rQ rfl)<|(bq) fb f.range<|?_;refine WP .r (PV.fZ jk rfl)<|cD ?_;refine WC.loop (σ:=Nat) (db:=fun i=>[(1,.pointer (some ⟨b1,0,none⟩)),(62,.slice a2 n2 e2),(63,.int .i64 (n2:Int)),(64,.int .i64 (i:Int))]) (I:=fun i w'=>aK [] w w'∧bM w' b1 32 (x.row a1 n1 e1 a2 n2 e2)∧i≤n2∧∀(j:Nat) (y:Rec),j<i→x.ah[j]?=some y→y.av≤x.ad) (μ:=fun i=>n2 - i) 0 Sub.t ⟨c2,f,by omega,fun j y h=>by omega⟩ ?_;rintro i2 w3 ⟨c3,f,ae5,N⟩;refine(aT) (fun Y=>?_) fun Y=>?_
 ·
  simp at Y
  have G:i2<x.ah.length:=by omega
  obtain⟨TV,TW,TX,R,_,⟨q1,q2,q3,rfl,JB,Ii⟩,H,_⟩:=SR.at hr (ae G);refine df ?_;have H:=aW H c3 (by simp);refine nx ?_;refine WP .r (PV.dO jk R rfl rfl (by omega))<|(bf) dN H<|?_;refine WL.go rfl (OX.alloc oL rfl fun b6 w4 C7 Ij=>?_);have F:=C7.ext;have Ar:=C7.gY c3;have sa:b1≠b6:=C7.ne f.lt;have Mg:b6≠b1:=Ne.symm sa;have c4:=c3.trans F;have f:=f.ext F;refine WL.go rfl (OX.kL gk Ij rfl rfl rfl rfl rfl fun w5 d _ Ij=>?_);have c5:=c4.own d Ar;have f:=f.bS d (by simp [sa]);refine cD ?_;refine WP .r (PV.fa oO rfl)<|(bq) aL Ij.range<|?_;refine WP .r (PV.fa ka rfl)<|(bq) aL f.range<|(aT) (fun O=>?_) fun O=>?_
  ·
   simp at O
   refine(bF) ?_;exact⟨false,rfl,⟨fun h=>(by cases h),fun h=>absurd (h.2.1 i2 _ (ae G)) (by omega)⟩,c5⟩
  simp at O
  refine eX ?_;refine EX.again (i2+1) (Sub.k2 rfl rfl<|Sub.cons rfl<|Sub.gM rfl (by simp)<|Sub.nil) ⟨c5,f,by omega,cp (P:=fun _ (y:Rec)=>y.av≤x.ad) G N O⟩ (by omega)
 simp at Y
 have N:∀(j:Nat) (y:Rec),x.ah[j]?=some y→y.av≤x.ad:=fun j y J=>N j y (by have:=(List.getElem?_eq_some_iff.1 J).1;omega) J;refine fY ?_;refine WC.kj (t:=2) (v:=.bool (jZ x)) (aK [] w3) ?_<|?_
 ·
  refine nx ?_;refine WP .r (PV.fa ka rfl)<|(bq) aL f.range<|(cG) (fun K=>?_) (fun K=>?_)
  ·
   refine WP .r (PV.fa ka rfl)<|(bq) aL f.range<|(cG) (fun Q=>?_) (fun Q=>?_)
   ·
    refine WP .r (PV.fa rP rfl)<|(bq) jI f.range<|?_;refine WP .r (PV.fZ qc rfl)<|(cG) (fun RH=>?_) (fun RH=>?_)
    ·
     refine WP .r (PV.fa rQ rfl)<|(bq) fb f.range<|(cE) Wt (oT (hr.ext c3)) ?_;rintro _ w4 ⟨rfl,F⟩;have c4:=c3.trans F;have f:=f.ext F;exact(e8) (by unfold jZ;simp only [K,Q,RH,← hlen];first | rfl | simp) F
    exact(e8) (by unfold jZ;simp only [K,Q,RH,← hlen];first | rfl | simp) (aK.refl _ _)
   exact(e8) (by unfold jZ;simp only [K,Q,← hlen];first | rfl | simp) (aK.refl _ _)
  refine aQ ?_;exact(e8) (by unfold jZ;simp only [K,← hlen];first | rfl | simp) (aK.refl _ _)
 intro w4 F;have c4:=c3.trans F;have f:=f.ext F;refine(bF) ?_;exact⟨_,rfl,⟨fun h=>by have:=(pg x).1 h;exact⟨L,N,this⟩,fun h=>(pg x).2 h.2.2⟩,c4⟩
end Go.Rc

