/- Walks over the program, part WF. Conditions: as each theorem says. -/
import Derived.Test.YtfamnpoplgkkcaaGreatDoorOFacts
import Derived.Test.YtfamnpoplgkkcaaGreatDoorOWB
import Derived.Test.YtfamnpoplgkkcaaGreatDoorOBe
set_option linter.all false
namespace Go.Rc
open Go Go.Proofs Go.Proofs.Tryz
variable {x:cy}{a a2 a1:Option Addr}{n c n2 e2 n1 e1:Nat}{w:World}{M Z:Nat→Prop}{l:List Rec}{k:Key}
set_option maxHeartbeats 400000
theorem jn{x:Rec}(j:St w M Z w []) (hk:Rd RR.key 2 Z w a n c x.reads) (p:x.reads.length≤4000):Calls prog 48 #[.agg (x.row a n c).toArray] w fun e w'=>∃d f g,e=.returned (.agg (x.row d f g).toArray)∧St w M Z w' [As.os RR.key 41 2 d f g x.reads]:=by
 have q:=hk.len;refine enter func48 rfl ntmps48 rfl<|?_;have aO:=j;have st1:=aO.fr hk;have st2:=st1.dp RR.key 41 2;refine(dq) st2 fun b1 w1 r s m=>?_;refine(eN) m fun b2 w2 t u b=>?_;refine(aZ) dC b.b1<|?_;refine WL.ap rfl rfl b.p2 ((As.gr b.g3)) fun a5 v w3 y z o=>?_;refine nx ?_;refine WL.s1 o.p2 fun w4 _ h=>?_;refine(aY) cU h.b0<|(cF) fI h.p2 fun w5 A B i=>?_;refine(kR) cU i.b0<|?_;exact⟨_,_,_,rfl,i.p2.k1⟩
theorem Cg(D:St w M Z w []) (hl:Rd RR.dV 8 Z w a n c l) (Y:l.length≤1000000):Calls prog 93 #[.slice a n c] w fun e w'=>∃q s u Z',e=.returned (.slice q s u)∧bH w.heap.size Z Z'∧St w M Z' w' [As.os RR.dV 47 8 q s u l]:=by
 have hlen:=hl.len;have hle:=hl.le;refine enter func93 rfl ntmps93 rfl<|?_;have aO:=D;have st1:=aO.fr hl;have st2:=st1.dp RR.dV 47 8;refine aX ?_;refine ed ?_;refine WC.hh (σ:=Nat × (Nat→Prop) × (List Rec) × (Option Addr) × Nat × Nat) (dj:=fun(i,d,acc,f,b,g)=>[(3,.slice f b g),(6,.slice a n c),(7,.int .i64 (n:Int)),(8,.int .i64 (i:Int))]) (F:=fun(i,d,acc,f,b,g)=>[As.os RR.dV 47 8 f b g (acc)]) (I:=fun(i,d,acc,f,b,g)=>(i≤n)∧(bH w.heap.size Z d)∧(acc=l.take i)∧True) (μ:=fun(i,d,acc,f,b,g)=>n - i) (Zf:=fun(i,d,acc,f,b,g)=>d) (0,Z,[],none,0,0) (st2) Sub.t (⟨by omega,bH.refl _ _,by simp,trivial⟩)<|?_;rintro⟨i,d,acc,f,b,g⟩ w1 h ⟨hi,o,j,_⟩;simp only [CA,NA] at h hi o j ⊢;have qU:=((As.gs h.g0)).len
 have Kt:acc.length≤1000000:=by rw [j,List.length_take];omega
 refine(aR) (fun g9=>?_) fun g9=>?_
 ·
  simp at g9
  have v:i<l.length:=by omega
  refine db ?_;obtain⟨gH,kz,jY,E,gG,G,H,J⟩:=Rd.at (As.gr h.g1) v;obtain⟨q1,q2,q3,rfl,K,y⟩:=G;have L:=h.fg J H;have z:=L.fr K;refine nx ?_;refine WP .r (PV.dI ij E rfl rfl (by omega))<|(aY) cU (As.kH z.g1)<|(eN) z fun b5 w2 HM HN N=>?_;refine(cF) fI N fun w3 jO jZ B=>?_;refine(aY) cU B.b0<|?_;have m:=B;refine(bX) NB (jn m.e0 (As.gr m.g1) y) ?_;rintro _ w4 ⟨e1,e2,e3,rfl,C⟩;have O:=St.lr m C;have P:=St.bM C;have hsz:=m.size;have Q:=O.ba (by omega);have R:=o.trans (bH.dA (F:=fun x=>x∈aI e1) P) hsz;refine WL.go rfl (OX.aP (us:=l[i].row e1 e2 e3) nD rfl rfl rfl rfl fun b15 w5 S T=>?_);have p:=Q.de S T;refine WL.ap rfl rfl p.p5 (SR.dd (A:=fun _=>True) (x:=l[i]) (As.gb p.g0) trivial rfl (Rec.one _ _ _ _) ⟨e1,e2,e3,rfl,(As.gr p.g1),y⟩) fun U V w6 amw amx W=>?_;refine gL ?_;refine ef (i+1,_,acc++[l[i]],U,(b+1),V) ⟨W.p6.p1.k2,⟨by omega,R,by rw [j,List.take_succ_eq_append_getElem v],trivial⟩⟩
 simp at g9
 have X:acc=l:=by rw [j];exact List.take_of_length_le (by omega)
 subst X;refine(bs) ?_;exact⟨_,_,_,_,rfl,o,h.p1.drop⟩
theorem iz(D:St w M Z w []) (hl:Rd RR.dV 8 Z w a n c l):Calls prog 15 #[.slice a n c,k.val] w fun e w'=>∃y z A,e=.returned (.tuple #[.agg ((aC l k).row y z A).toArray,.bool (az l k).isSome])∧(aC l k).reads.length≤4000∧St w M Z w' [As.os RR.key 41 2 y z A (aC l k).reads]:=by
 have hlen:=hl.len;have hle:=hl.le;refine enter func15 rfl ntmps15 rfl<|?_;have aO:=D;have st1:=aO.fr hl;refine(dq) st1 fun b3 w1 Q R st2=>?_;refine(eN) st2 fun b4 w2 S T E=>?_;refine aX ?_;refine WC.bd (σ:=Nat) (dj:=fun i=>[(3,.pointer (some ⟨b3,0,none⟩)),(4,.pointer (some ⟨b4,0,none⟩)),(8,.slice a n c),(9,.int .i64 (n:Int)),(10,.int .i64 (i:Int))]) (F:=fun i=>[]) (I:=fun i=>(i≤n)∧(∀j x,j<i→l[j]?=some x→(x.key == k)=false)∧True) (μ:=fun i=>n - i) (0) (E) Sub.t (⟨by omega,fun j x h=>by omega,trivial⟩)<|?_;rintro i w3 m ⟨hi,o,_⟩;simp only [CA,NA] at m hi o ⊢;refine(aR) (fun g11=>?_) fun g11=>?_
 ·
  simp at g11
  have s:i<l.length:=by omega
  refine db ?_;obtain⟨U,V,W,G,X,H,J,K⟩:=Rd.at (As.gr m.g2) s;obtain⟨q1,Y,q3,rfl,L,B⟩:=H;have u:=m.fg K J;have d:=u.fr L;refine nx ?_;refine WP .r (PV.dI ij G rfl rfl (by omega))<|(aY) cU (As.kH d.g1)<|(eN) d fun b7 w4 Pn Po N=>?_;refine(cF) fI N fun w5 jO jZ f=>?_;refine(gX) ao f.b0<|(aY) ao f.b4<|?_;refine WP .r (PV.DL fH (p:=l[i].key) (q:=k) rfl rfl)<|(aR) (fun g17=>?_) fun g17=>?_
  ·
   simp at g17
   have g:az l k=some l[i]:=js s o (by simpa using g17)
   have b:aC l k=l[i]:=by unfold aC;rw [g];rfl
   refine(aY) cU f.b0<|?_;have v:=f;refine(bX) NB (jn v.e0 (As.gr v.g1) B) ?_;rintro _ w6 ⟨e1,e2,e3,rfl,O⟩;have P:=St.lr v O;refine(cF) fI P.p4 fun w7 qV mi C=>?_;refine kI ?_;refine EX.ew rfl (RS.cell cU rfl C.b0 rfl<|RS.tmp rfl<|RS.nil) rfl<|?_;exact⟨e1,e2,e3,by rw [g,b];rfl,by rw [b];exact B,by rw [b];exact C.p1.k1⟩
  simp at g17
  refine ed ?_;refine ef (i+1) ⟨f.p5.p5.p5.k3,⟨by omega,cG s o (by simpa using g17),trivial⟩⟩
 simp at g11
 have g:az l k=none:=pR (i:=i) (by omega) o
 have b:aC l k=mW:=by unfold aC;rw [g];rfl
 have u:=m.dp RR.key 41 2;refine(cF) fI u.p1 fun w4 zy tK d=>?_;refine cj ?_;refine EX.ew rfl (RS.cell cU rfl d.b0 rfl<|RS.tmp rfl<|RS.nil) rfl<|?_;exact⟨none,0,0,by rw [g,b];rfl,by rw [b];simp [mW],by rw [b];exact d.p1.k1⟩
theorem dY(hl:Rd RR.dV 8 Z w a n c l):Calls prog 15 #[.slice a n c,k.val] w fun e w'=>∃b d f,e=.returned (.tuple #[.agg ((aC l k).row b d f).toArray,.bool (az l k).isSome])∧aS [] w w':=
 (iz (M:=fun _=>False) (St.start fun _ g=>g.2) hl.cut).mono fun _ _ ⟨b,d,f,h1,_,h⟩=>⟨b,d,f,h1,h.cg⟩
theorem Ch{x:Rec}(h1:x.key.text.size≤4611686018427) (e:x.value.size≤4611686018427) (f:n≤4611686018427):CR prog 145 #[.agg (x.row a n c).toArray] w (.int .i64 (16+x.key.text.size+x.value.size+8*n:Int)):=by
 refine enter func145 rfl ntmps145 rfl<|?_;have c0:aS [] w w:=aS.refl _ _;refine bK ?_;refine WL.go rfl (OX.box rfl rfl rfl fun b1 w1 d b=>?_);have s1:=d.ext;have g:=d.iF c0;have c1:=c0.trans s1;refine db ?_;refine WP .r (PV.fa pn rfl)<|WP .r (PV.fa pj rfl)<|(aZ) fh b.range<|?_;refine WP .r (PV.tT rO rfl)<|nx ?_;refine WP .r (PV.fa u5 rfl)<|(aZ) fh b.range<|?_;refine WP .r (PV.tT rO rfl)<|nx ?_;refine WP .r (PV.fa zo rfl)<|(aZ) dC b.range<|?_;refine WP .r (PV.hV ek rfl)<|WP .r (PV.mul rfl rfl (by omega) (by omega))<|(bs) ?_;exact⟨rfl,c1⟩
theorem sT(D:St w M Z w []) (hl:Rd RR.dV 8 Z w a n c l) (W:l.length≤1000000):Calls prog 99 #[.slice a n c,k.val] w fun e w'=>∃s u v,e=.returned (.slice s u v)∧St w M Z w' [As.os RR.dV 47 8 s u v (ft l k)]:=by
 have hlen:=hl.len;refine enter func99 rfl ntmps99 rfl<|?_;have aO:=D;have st1:=aO.fr hl;have st2:=st1.dp RR.dV 47 8;refine(dq) st2 fun b3 w1 X Y E=>?_;refine aX ?_;refine db ?_;refine WC.bd (σ:=Nat × (List Rec) × (Option Addr) × Nat × Nat) (dj:=fun(i,acc,d,b,f)=>[(3,.pointer (some ⟨b3,0,none⟩)),(5,.slice d b f),(8,.slice a n c),(9,.int .i64 (n:Int)),(10,.int .i64 (i:Int))]) (F:=fun(i,acc,d,b,f)=>[As.os RR.dV 47 8 d b f (acc)]) (I:=fun(i,acc,d,b,f)=>(i≤n)∧(acc=ft (l.take i) k)∧True) (μ:=fun(i,acc,d,b,f)=>n - i) (0,[],none,0,0) (E.p1) Sub.t (⟨by omega,by simp [ft],trivial⟩)<|?_;rintro⟨i,acc,d,b,f⟩ w2 g ⟨hi,h,_⟩;simp only [CA,NA] at g hi h ⊢;have qU:=((As.gs g.g0)).len;have G:=rh (l.take i) k
 have amy:acc.length≤1000000:=by rw [List.length_take,← h] at G;omega
 refine(aR) (fun g11=>?_) fun g11=>?_
 ·
  simp at g11
  have y:i<l.length:=by omega
  have m:=DU (k:=k) y;refine db ?_;obtain⟨gH,kz,jY,H,gG,J,K,L⟩:=Rd.at (As.gr g.g2) y;obtain⟨q1,z,B,rfl,N,O⟩:=J;have P:=g.fg L K;have C:=P.fr N;refine nx ?_;refine WP .r (PV.dI ij H rfl rfl (by omega))<|(aY) cU (As.kH C.g1)<|(eN) C fun b7 w3 Pn Po Q=>?_;refine(cF) fI Q fun w4 jO jZ j=>?_;refine(gX) ao j.b0<|(aY) ao j.b4<|?_;refine WP .r (PV.Lk fH (p:=l[i].key) (q:=k) rfl rfl)<|(aR) (fun g17=>?_) fun g17=>?_
  ·
   simp at g17
   rw [if_neg g17] at m;refine(aY) cU j.b0<|?_;refine WL.go rfl (OX.aP (us:=l[i].row q1 z B) nD rfl rfl rfl rfl fun b20 w5 R S=>?_);have o:=j.de R S;refine WL.ap rfl rfl o.p4 (SR.dd (A:=fun _=>True) (x:=l[i]) (As.gb o.g0) trivial rfl (Rec.one _ _ _ _) ⟨q1,z,B,rfl,(As.gr o.g2),O⟩) fun a21 T w6 amz ad1 U=>?_;refine gL ?_;refine ef (i+1,acc++[l[i]],a21,(b+1),T) ⟨U.p6.p6.p2.k3,⟨by omega,by rw [m,h],trivial⟩⟩
  simp at g17
  rw [if_pos g17] at m;refine ed ?_;refine ef (i+1,acc,d,b,f) ⟨j.p5.p5.p5.k3,⟨by omega,by rw [m,h],trivial⟩⟩
 simp at g11
 have V:acc=ft l k:=by rw [h,List.take_of_length_le (by omega)]
 subst V;refine(bs) ?_;exact⟨_,_,_,rfl,g.p1.drop.p1.drop⟩
theorem vk{x:Rec}(gk:St w M Z w []) (hl:Rd RR.dV 8 Z w a n c l) (h6:l.length≤1000000) (hx:Rd RR.key 2 Z w a2 n2 e2 x.reads) (C:x.reads.length≤4000):Calls prog 194 #[.slice a n c,.agg (x.row a2 n2 e2).toArray] w fun e w'=>∃U V W Z',e=.returned (.slice U V W)∧bH w.heap.size Z Z'∧St w M Z' w' [As.os RR.dV 47 8 U V W (ey l x)]:=by
 have hlen:=hl.len;refine enter func194 rfl ntmps194 rfl<|?_;have aO:=gk;have st1:=aO.fr hl;have st2:=st1.fr hx;have iT:=st2.dp RR.dV 47 8;refine(dq) iT fun b3 w1 HO wE ik=>?_;refine aX ?_;refine ju ?_;refine WC.hh (σ:=Nat × Bool × (Nat→Prop) × (List Rec) × (Option Addr) × Nat × Nat) (dj:=fun(i,put,m,out,g,b,h)=>[(3,.pointer (some ⟨b3,0,none⟩)),(5,.slice g b h),(6,.bool put),(10,.slice a n c),(11,.int .i64 (n:Int)),(12,.int .i64 (i:Int))]) (F:=fun(i,put,m,out,g,b,h)=>[As.os RR.dV 47 8 g b h (out)]) (I:=fun(i,put,m,out,g,b,h)=>(i≤n)∧(bH w.heap.size Z m)∧(out++ff x (l.drop i) put=ey l x)∧True) (μ:=fun(i,put,m,out,g,b,h)=>n - i) (Zf:=fun(i,put,m,out,g,b,h)=>m) (0,false,Z,[],none,0,0) (ik.p1) Sub.t (⟨by omega,bH.refl _ _,rfl,trivial⟩)<|?_;rintro⟨i,put,m,out,g,b,h⟩ w2 o ⟨hi,s,hinv,_⟩;simp only [CA,NA] at o hi s hinv ⊢;have qU:=((As.gs o.g0)).len
 have hol:out.length≤1000001:=by have h1:=congrArg List.length hinv;have h2:=rf x l false;simp only [ey,List.length_append] at h1;omega
 refine(aR) (fun g13=>?_) fun g13=>?_
 ·
  simp at g13
  have X:i<l.length:=by omega
  have Y:ff x (l.drop i) put=(if decide (0≤bA l[i].key x.key) && !put then [x] else [])++(if bA l[i].key x.key=0 then [] else [l[i]])++ff x (l.drop (i+1)) (put || decide (0≤bA l[i].key x.key)):=by rw [List.drop_eq_getElem_cons X];rfl
  refine db ?_;obtain⟨gH,kz,jY,cR,gG,eZ,et,eI⟩:=Rd.at (As.gr o.g3) X;obtain⟨q1,D,E,rfl,GI,Ci⟩:=eZ;have u:=o.fg eI et;have G:=u.fr GI;refine nx ?_;refine WP .r (PV.dI ij cR rfl rfl (by omega))<|(aY) cU (As.kH G.g1)<|(eN) G fun b8 w3 Lq XZ K=>?_;refine(cF) fI K fun w4 jO jZ p=>?_;refine(gX) ao p.b0<|(gX) ao p.b4<|(eS) (j7 (k:=l[i].key) (q:=x.key)) p fun w5 s5 y=>?_;refine db ?_;refine WC.dU (t:=26) (v:=.bool (decide (0≤bA l[i].key x.key) && !put)) y ?_<|?_
  ·
   refine(dc) (fun g23=>?_) (fun g23=>?_)
   ·
    exact(cw) (by simp only [g23];first | rfl | simp) (y)
   exact(cw) (by simp only [g23];first | rfl | simp) (y)
  intro w6 z;refine(aR) (fun H=>?_) fun H=>?_
  ·
   simp at H
   obtain⟨hA,hB⟩:=H;subst hB
   have f:ff x (l.drop i) false=[x]++(if bA l[i].key x.key=0 then [] else [l[i]])++ff x (l.drop (i+1)) true:=by rw [Y];simp [hA]
   refine(aY) cU z.b4<|?_;have j:=z;refine(bX) NB (jn j.e0 (As.gr j.g5) C) ?_;rintro _ w7 ⟨f1,f2,f3,rfl,jB⟩;have L:=St.lr j jB;have N:=St.bM jB;have hsz:=j.size;have da:=L.ba (by omega);have J:=s.trans (bH.dA (F:=fun x=>x∈aI f1) N) hsz;refine WL.go rfl (OX.aP (us:=x.row f1 f2 f3) nD rfl rfl rfl rfl fun b30 w8 X0 X1=>?_);have O:=da.de X0 X1;refine WL.ap rfl rfl O.p5 (SR.dd (A:=fun _=>True) (x:=x) (As.gb O.g0) trivial rfl (Rec.one _ _ _ _) ⟨f1,f2,f3,rfl,(As.gr O.g1),C⟩) fun a31 ad4 w9 amA ad5 P=>?_;refine(aR) (fun d=>?_) fun d=>?_
   ·
    simp at d
    rw [if_neg d] at f;refine(aY) cU P.b3<|?_;refine WL.go rfl (OX.aP (us:=l[i].row q1 D E) nD rfl rfl rfl rfl fun b36 iN Q R=>?_);have S:=P.de Q R;refine WL.ap rfl rfl S.p1 (SR.dd (A:=fun _=>True) (x:=l[i]) (As.gb S.g0) trivial rfl (Rec.one _ _ _ _) ⟨q1,D,E,rfl,(As.gr S.g5),Ci⟩) fun a37 T iV X2 X3 dZ=>?_;refine gL ?_;refine ef (i+1,true,_,_,a37,((b+1)+1),T) ⟨dZ.p9.p9.p9.p3.k4,⟨by omega,J,by rw [← hinv,f];simp,trivial⟩⟩
   simp at d
   rw [if_pos d] at f;refine ed ?_;refine ef (i+1,true,_,_,a31,(b+1),ad4) ⟨P.p8.p8.p8.p3.k4,⟨by omega,J,by rw [← hinv,f];simp,trivial⟩⟩
  have f:ff x (l.drop i) put=[]++(if bA l[i].key x.key=0 then [] else [l[i]])++ff x (l.drop (i+1)) put:=by
   rw [Y]
   cases put
   ·
    simp at H;rw [decide_eq_false (by omega)];rfl
   simp
  refine(aR) (fun d=>?_) fun d=>?_
  ·
   simp at d
   rw [if_neg d] at f;refine(aY) cU z.b0<|?_;refine WL.go rfl (OX.aP (us:=l[i].row q1 D E) nD rfl rfl rfl rfl fun b36 w7 Q R=>?_);have j:=z.de Q R;refine WL.ap rfl rfl j.p4 (SR.dd (A:=fun _=>True) (x:=l[i]) (As.gb j.g0) trivial rfl (Rec.one _ _ _ _) ⟨q1,D,E,rfl,(As.gr j.g2),Ci⟩) fun a37 T w8 X2 X3 L=>?_;refine gL ?_;refine ef (i+1,put,_,_,a37,(b+1),T) ⟨L.p7.p7.p7.p3.k4,⟨by omega,s,by rw [← hinv,f];simp,trivial⟩⟩
  simp at d
  rw [if_pos d] at f;refine ed ?_;refine ef (i+1,put,_,_,g,b,h) ⟨z.p6.p6.p6.p6.k4,⟨by omega,s,by rw [← hinv,f];simp,trivial⟩⟩
 simp at g13
 have hY:l.drop i=[]:=List.drop_eq_nil_of_le (by omega);rw [hY] at hinv;refine(aR) (fun B=>?_) fun B=>?_
 ·
  simp at B
  subst B;refine(aY) cU o.b1<|?_;have u:=o;refine(bX) NB (jn u.e0 (As.gr u.g2) C) ?_;rintro _ w3 ⟨f1,f2,f3,rfl,kq⟩;have G:=St.lr u kq;have N:=St.bM kq;have hsz:=u.size;have K:=G.ba (by omega);have J:=s.trans (bH.dA (F:=fun x=>x∈aI f1) N) hsz;refine WL.go rfl (OX.aP (us:=x.row f1 f2 f3) nD rfl rfl rfl rfl fun b44 w4 NH Sg=>?_);have p:=K.de NH Sg;refine WL.ap rfl rfl p.p2 (SR.dd (A:=fun _=>True) (x:=x) (As.gb p.g0) trivial rfl (Rec.one _ _ _ _) ⟨f1,f2,f3,rfl,(As.gr p.g1),C⟩) fun a45 amC w5 amD amE y=>?_;refine(bs) ?_;exact⟨_,_,_,_,rfl,J,by rw [← hinv];exact y.k1⟩
 simp at B
 subst B;refine(bs) ?_;exact⟨_,_,_,_,rfl,s,by rw [← hinv];simp only [ff,List.append_nil,if_true];exact o.k1⟩
theorem zz{x:Rec}(hk:Rd RR.key 2 Z w a n c x.reads):CR prog 83 #[.agg (x.row a n c).toArray] w (.bool (eE x)):=by
 have hlen:=SR.len hk;have hle:=SR.le hk;refine enter func83 rfl ntmps83 rfl<|?_;have c0:aS [] w w:=aS.refl _ _;refine bK ?_;refine WL.go rfl (OX.box rfl rfl rfl fun b1 w1 H b=>?_);have s1:=H.ext;have Q:=H.iF c0;have c1:=c0.trans s1;refine fO ?_;refine WP .r (PV.fa zo rfl)<|(aZ) dC b.range<|?_;refine WP .r (PV.hV ek rfl)<|cj ?_;refine WC.loop (σ:=Nat) (dj:=fun i=>[(1,.pointer (some ⟨b1,0,none⟩)),(6,.slice a n c),(7,.int .i64 (n:Int)),(8,.int .i64 (i:Int))]) (I:=fun i w'=>aS [] w w'∧bQ w' b1 47 (x.row a n c)∧i≤n∧∀j y,j<i→x.reads[j]?=some y→fN y=true) (μ:=fun i=>n - i) 0 Sub.t ⟨c1,b,by omega,fun j y h=>by omega⟩ ?_;rintro i w2 ⟨c2,b,hi,J⟩;refine(aR) (fun g9=>?_) fun g9=>?_
 ·
  simp at g9
  have B:i<x.reads.length:=by omega
  refine db ?_;obtain⟨R,S,T,L,_,C,D,_⟩:=SR.at hk (ak B);have C:=RR.a8 C;subst C;have D:=aW D c2 (by simp);refine nx ?_;refine WP .r (PV.dI ek L rfl rfl (by omega))<|(aY) ao D<|?_;refine WL.go rfl (OX.alloc EM rfl fun b4 w3 E u=>?_);have d:=E.ext;have N:=E.iF c2;have K:b1≠b4:=E.ne b.lt;have U:b4≠b1:=Ne.symm K;have c3:=c2.trans d;have b:=b.ext d;refine WL.go rfl (OX.mg gQ u rfl rfl rfl rfl rfl fun w4 e _ u=>?_);have c4:=c3.own e N;have b:=b.bV e (by simp [K]);refine(aY) ao u.range<|(bX) Kg (iM (k:=x.reads[i])) ?_;rintro _ w5 ⟨rfl,p⟩;have c5:=c4.trans p;have b:=b.ext p;have u:=u.ext p;refine(aR) (fun g14=>?_) fun g14=>?_
  ·
   simp at g14
   have F:eE x=false:=by unfold eE;rw [Bool.and_eq_false_iff];left;rw [List.all_eq_false];exact⟨_,List.getElem_mem B,by simp [g14]⟩
   refine(bs) ?_;exact⟨by rw [F],c5⟩
  simp at g14
  refine ed ?_;refine EX.again (i+1) (Sub.k2 rfl rfl<|Sub.cons rfl<|Sub.iW rfl (by simp)<|Sub.nil) ⟨c5,b,by omega,cG B J g14⟩ (by omega)
 simp at g9
 have F:eE x=gh x:=by
  unfold eE
  rw [show x.reads.all fN=true from List.all_eq_true.2 fun y O=>by obtain⟨j,P,rfl⟩:=List.mem_iff_getElem.1 O;exact J j _ (by omega) (ak P)]
  rfl
 refine fO ?_;refine WC.lA (t:=2) (v:=.bool (gh x)) (aS [] w2) ?_<|?_
 ·
  refine nx ?_;refine WP .r (PV.fa pn rfl)<|(gX) ao b.range<|(bX) Kg (iM (k:=x.key)) ?_;rintro _ w3 ⟨rfl,d⟩;have c3:=c2.trans d;have b:=b.ext d;refine(dc) (fun g19=>?_) (fun g19=>?_)
  ·
   refine WP .r (PV.fa pn rfl)<|(gX) ao b.range<|(bX) HG (ep (k:=x.key)) ?_;rintro _ w4 ⟨rfl,e⟩;have c4:=c3.trans e;have b:=b.ext e;refine(dc) (fun f=>?_) (fun f=>?_)
   ·
    refine WP .r (PV.fa u5 rfl)<|(aZ) fh b.range<|?_;refine WP .r (PV.tT rO rfl)<|(dc) (fun g=>?_) (fun g=>?_)
    ·
     refine WP .r (PV.fa zo rfl)<|(aZ) dC b.range<|?_;refine WP .r (PV.hV ek rfl)<|(dc) (fun m=>?_) (fun m=>?_)
     ·
      refine WP .r (PV.fa u6 rfl)<|(aZ) aN b.range<|(dc) (fun o=>?_) (fun o=>?_)
      ·
       refine WP .r (PV.fa u6 rfl)<|(aZ) aN b.range<|?_;refine WP .r (PV.fa po rfl)<|(aZ) aN b.range<|(dc) (fun q=>?_) (fun q=>?_)
       ·
        refine WP .r (PV.fa po rfl)<|(aZ) aN b.range<|(dc) (fun s=>?_) (fun s=>?_)
        ·
         refine WP .r (PV.fa EN rfl)<|(aZ) aN b.range<|(dc) (fun z=>?_) (fun z=>?_)
         ·
          refine WP .r (PV.fa EN rfl)<|(aZ) aN b.range<|(dc) (fun A=>?_) (fun A=>?_)
          ·
           refine WP .r (PV.fa EO rfl)<|(aZ) dG b.range<|(dc) (fun G=>?_) (fun G=>?_)
           ·
            exact(gz) (by unfold gh;simp only [g19,f,g,m,o,q,s,z,A,G,← hlen];first | rfl | simp) (d.trans e)
           refine WP .r (PV.fa pn rfl)<|(gX) ao b.range<|(bX) HF (df (k:=x.key)) ?_;rintro _ w5 ⟨rfl,p⟩;have c5:=c4.trans p;have b:=b.ext p;exact(gz) (by unfold gh;simp only [g19,f,g,m,o,q,s,z,A,G,← hlen];first | rfl | simp) ((d.trans e).trans p)
          exact(gz) (by unfold gh;simp only [g19,f,g,m,o,q,s,z,A,← hlen];first | rfl | simp) (d.trans e)
         refine aX ?_;exact(gz) (by unfold gh;simp only [g19,f,g,m,o,q,s,z,← hlen];first | rfl | simp) (d.trans e)
        refine aX ?_;exact(gz) (by unfold gh;simp only [g19,f,g,m,o,q,s,← hlen];first | rfl | simp) (d.trans e)
       refine aX ?_;refine aX ?_;exact(gz) (by unfold gh;simp only [g19,f,g,m,o,q,← hlen];first | rfl | simp) (d.trans e)
      refine aX ?_;refine aX ?_;exact(gz) (by unfold gh;simp only [g19,f,g,m,o,← hlen];first | rfl | simp) (d.trans e)
     refine aX ?_;refine aX ?_;refine aX ?_;exact(gz) (by unfold gh;simp only [g19,f,g,m,← hlen];first | rfl | simp) (d.trans e)
    refine aX ?_;refine aX ?_;refine aX ?_;exact(gz) (by unfold gh;simp only [g19,f,g,← hlen];first | rfl | simp) (d.trans e)
   refine aX ?_;refine aX ?_;refine aX ?_;refine aX ?_;exact(gz) (by unfold gh;simp only [g19,f,← hlen];first | rfl | simp) (d.trans e)
  refine aX ?_;refine aX ?_;refine aX ?_;refine aX ?_;exact(gz) (by unfold gh;simp only [g19,← hlen];first | rfl | simp) d
 intro w3 d;have c3:=c2.trans d;have b:=b.ext d;refine(bs) ?_;exact⟨by rw [F],c3⟩
theorem tx(hl:Rd RR.dV 8 Z w a n c l):Calls prog 41 #[.slice a n c] w fun e w'=>∃b:Bool,e=.returned (.bool b)∧(b=true↔mX l)∧aS [] w w':=by
 have hlen:=SR.len hl;have hle:=SR.le hl;refine enter func41 rfl ntmps41 rfl<|?_;have c0:aS [] w w:=aS.refl _ _;refine kI ?_;refine WP .r (PV.hV ij rfl)<|cj ?_;refine WC.loop (σ:=Nat) (dj:=fun i=>[(0,.slice a n c),(5,.slice a n c),(6,.int .i64 (n:Int)),(7,.int .i64 (i:Int))]) (I:=fun i w'=>aS [] w w'∧i≤n∧∀j y,j<i→l[j]?=some y→pS l j y) (μ:=fun i=>n - i) 0 Sub.t ⟨c0,by omega,fun j y h=>by omega⟩ ?_;rintro i w1 ⟨c1,hi,u⟩;refine(aR) (fun g8=>?_) fun g8=>?_
 ·
  simp at g8
  have p:i<l.length:=by omega
  have d:=getElem!_pos l i p;obtain⟨Q,R,S,K,_,⟨q1,U,V,rfl,L,W⟩,z,_⟩:=SR.at hl (ak p);refine db ?_;have z:=aW z c1 (by simp);refine bK ?_;refine WP .r (PV.dI ij K rfl rfl (by omega))<|(aY) cU z<|?_;refine WL.go rfl (OX.alloc nF rfl fun b4 w2 F f=>?_);have s2:=F.ext;have N:=F.iF c1;have c2:=c1.trans s2;refine nx ?_;refine WL.go rfl (OX.mg fI f rfl rfl rfl rfl rfl fun w3 O _ f=>?_);have c3:=c2.own O N;refine bY ?_;refine WC.ka (t:=30) (v:=.bool (rj l i)) (aS [] w3) ?_<|?_
  ·
   refine WC.drawn (m:=15) (C:=aS [] w3) (T:=fun _=>aS []) (E:=cA [(1,fun v _=>v=.bool (eE l[i]))]) (bj (⟨fun _ _ _ _ _ _ _ h=>h,trivial⟩)) mixed (by kernel_rfl) (aS.drew _ _)<|?_;refine DP .r (fun _ o=>PV.GR cU (f.ext o).range rfl rfl)<|?_;refine DW.e rfl rfl rfl rfl rfl (fun X o Y=>OX.call adL rfl rfl ((zz (L.ext (c3.trans o))).mono ?_))<|?_
   ·
    rintro _ wy ⟨rfl,G⟩;exact⟨_,rfl,o.trans G,G,_,rfl,rfl⟩
   rintro _ wz _ rfl;refine(ob) (fun g15=>?_) (fun g15=>?_)
   ·
    refine(cP) ?_;rintro w4 g _;have c4:=c3.trans g;have f:=f.ext g;exact(cw) (by unfold rj;first | (simp only [d,s,g15];done) | (simp only [d,s,g15];rfl) | (simp only [d,g15];rfl) | (simp only [d];rw [Bool.not_eq_true'] at g15;simp [g15]) | (simp only [d];simp at g15 g18;simp [g15,g18])) g
   refine(ob) (fun g18=>?_) (fun g18=>?_)
   ·
    have H:i - 1<l.length:=by omega
    have s:=getElem!_pos l (i - 1) H;have ad6:=of_decide_eq_true g18;obtain⟨bx2,ox2,rx2,P,_,⟨p1,p2,p3,rfl,_,_⟩,A,_⟩:=SR.at hl (ak H);have A:=aW A c3 (by simp);refine bY ?_;refine DP .r (fun _ o=>PV.DJ ij (i - 1) P rfl rfl (by omega) (by omega))<|DP .r (fun _ o=>PV.fa pn rfl)<|DP .r (fun _ o=>PV.wa ao (aW A o (by simp)) rfl rfl)<|DP .r (fun _ o=>PV.fa pn rfl)<|DP .r (fun _ o=>PV.wa ao (f.ext o).range rfl rfl)<|(cP)<|?_;rintro w4 g _;have c4:=c3.trans g;have f:=f.ext g;refine(bX) R2 (j7 (k:=l[i - 1].key) (q:=l[i].key)) ?_;rintro _ w5 ⟨rfl,B⟩;have c5:=c4.trans B;have f:=f.ext B;exact(cw) (by unfold rj;first | (simp only [d,s,g15,g18];done) | (simp only [d,s,g15,g18];rfl) | (simp only [d,g15,g18];rfl) | (simp only [d];rw [Bool.not_eq_true'] at g15;simp [g15]) | (simp only [d];simp at g15 g18;simp [g15,g18])) (g.trans B)
   refine(cP) ?_;rintro w4 g _;have c4:=c3.trans g;have f:=f.ext g;exact(cw) (by unfold rj;first | (simp only [d,s,g15,g18];done) | (simp only [d,s,g15,g18];rfl) | (simp only [d,g15,g18];rfl) | (simp only [d];rw [Bool.not_eq_true'] at g15;simp [g15]) | (simp only [d];simp at g15 g18;simp [g15,g18])) g
  intro w4 g;have c4:=c3.trans g;have f:=f.ext g;refine(aR) (fun D=>?_) fun D=>?_
  ·
   skip
   refine(bs) ?_;exact⟨false,rfl,⟨fun h=>(by cases h),fun h=>absurd ((pT p).2 (h.2 i _ (ak p))) (by simp [D])⟩,c4⟩
  refine ed ?_;refine EX.again (i+1) (Sub.k2 rfl rfl<|Sub.cons rfl<|Sub.iW rfl (by simp)<|Sub.nil) ⟨c4,by omega,cG p u ((pT p).1 D)⟩ (by omega)
 ·
  simp at g8
  have u:∀j y,l[j]?=some y→pS l j y:=fun j x J=>u j x (by have:=(List.getElem?_eq_some_iff.1 J).1;omega) J;refine gL ?_;refine WP .r (PV.hV ij rfl)<|(bs) ?_;exact⟨_,rfl,⟨fun h=>⟨by simp at h;omega,u⟩,fun h=>by have:=h.1;simp;omega⟩,c1⟩
 -- k7 eR G17.T
set_option maxHeartbeats 400000
theorem rU(hl:Rd RR.dV 8 Z w a n c l):CR prog 41 #[.slice a n c] w (.bool (pY l)):=
 (tx hl).mono fun _ _ ⟨b,h1,d,e⟩=>⟨by rw [h1,DZ d],e⟩
theorem fA(s:St w M Z w []) (hi:Rd RR.aD 4 Z w a1 n1 e1 x.ab) (hr:Rd RR.dV 8 Z w a2 n2 e2 x.ah) (t:x.ah.length≤1000000) (C:x.ab.length≤1000000):Calls prog 51 #[.agg (x.row a1 n1 e1 a2 n2 e2).toArray] w fun e w'=>∃f g h i j m Z',e=.returned (.agg (x.row f g h i j m).toArray)∧bH w.heap.size Z Z'∧St w M Z' w' [As.os RR.aD 88 4 f g h x.ab,As.os RR.dV 47 8 i j m x.ah]:=by
 have D:=hi.len;have E:=hr.len;refine enter func51 rfl ntmps51 rfl<|?_;have aO:=s;have st1:=aO.fr hi;have st2:=st1.fr hr;have u:=st2.dp RR.aD 88 4;refine(dq) u fun b1 w1 F G v=>?_;refine(eN) v fun b2 w2 H I d=>?_;refine(aZ) iX d.b1<|?_;refine WL.ap rfl rfl d.p2 ((As.gr d.g4)) fun a5 J w3 K L y=>?_;refine nx ?_;refine WL.s1 y.p2 fun w4 _ o=>?_;refine(aZ) dt o.b0<|?_;have b:=o;refine(bX) adP (Cg b.e0 (As.gr b.g3) t) ?_;rintro _ w5 ⟨f1,f2,f3,N,rfl,p,z⟩;have A:=St.lv b z p;have B:=p.le b.size;refine nx ?_;refine WL.s1 A.p1 fun w6 _ q=>?_;refine(aY) aL q.b0<|(cF) dR q.p3 fun w7 O P r=>?_;refine(kR) aL r.b0<|?_;exact⟨_,_,_,_,_,_,_,rfl,B,r.p2.p3.k2⟩
theorem sU(hi:Rd RR.aD 4 Z w a1 n1 e1 x.ab) (hr:Rd RR.dV 8 Z w a2 n2 e2 x.ah) {k:Key}:CR prog 55 #[.agg (x.row a1 n1 e1 a2 n2 e2).toArray,k.val] w (.agg (bw x.ab k).cells.toArray):=by
 have hlen:=SR.len hi;have hle:=SR.le hi;refine enter func55 rfl ntmps55 rfl<|?_;have c0:aS [] w w:=aS.refl _ _;refine bK ?_;refine WL.go rfl (OX.box rfl rfl rfl fun b2 w1 H e=>?_);have s1:=H.ext;have U:=H.iF c0;have c1:=c0.trans s1;refine WL.go rfl (OX.box rfl rfl rfl fun b3 w2 u b=>?_);have s2:=u.ext;have V:=u.iF c1;have O:b2≠b3:=u.ne e.lt;have W:b3≠b2:=Ne.symm O;have c2:=c1.trans s2;have e:=e.ext s2;refine WL.go rfl (OX.alloc MT rfl fun b4 w3 m d=>?_);have v:=m.ext;have J:=m.iF c2;have P:b2≠b4:=m.ne e.lt;have X:b4≠b2:=Ne.symm P;have z:b3≠b4:=m.ne b.lt;have Y:b4≠b3:=Ne.symm z;have c3:=c2.trans v;have e:=e.ext v;have b:=b.ext v;refine db ?_;refine WP .r (PV.fa u4 rfl)<|(aZ) iX e.range<|?_;refine WP .r (PV.hV qu rfl)<|cj ?_;refine WC.loop (σ:=Nat) (dj:=fun i=>[(3,.pointer (some ⟨b3,0,none⟩)),(4,.pointer (some ⟨b4,0,none⟩)),(8,.slice a1 n1 e1),(9,.int .i64 (n1:Int)),(10,.int .i64 (i:Int))]) (I:=fun i w'=>aS [] w w'∧bQ w' b3 41 [.int .i64 k.kind,.string k.text]∧bQ w' b4 88 [.int .i64 0,.string ⟨#[]⟩,.string ⟨#[]⟩,.int .i64 0]∧i≤n1∧(∀j y,j<i→x.ab[j]?=some y→(y.key == k)=false)) (μ:=fun i=>n1 - i) 0 Sub.t ⟨c3,b,d,by omega,fun j x h=>by omega⟩ ?_;rintro i w4 ⟨c4,b,d,hi1,A⟩;refine(aR) (fun g11=>?_) fun g11=>?_
 ·
  simp at g11
  have B:i<x.ab.length:=by omega
  refine db ?_;obtain⟨bx1,ox1,rx1,Q,_,C,D,_⟩:=SR.at hi (ak B);have C:=RR.a8 C;subst C;have D:=aW D c4 (by simp);refine nx ?_;refine WP .r (PV.dI qu Q rfl rfl (by omega))<|(aY) kl D<|?_;refine WL.go rfl (OX.alloc MT rfl fun o w5 s f=>?_);have g:=s.ext;have R:=s.iF c4;have K:b3≠o:=s.ne b.lt;have Sh:o≠b3:=Ne.symm K;have L:b4≠o:=s.ne d.lt;have S:o≠b4:=Ne.symm L;have c5:=c4.trans g;have b:=b.ext g;have d:=d.ext g;refine WL.go rfl (OX.mg zn f rfl rfl rfl rfl rfl fun w6 E _ f=>?_);have N:=c5.own E R;have b:=b.bV E (by simp [K]);have d:=d.bV E (by simp [L]);refine cj ?_;refine WP .r (PV.fa rR rfl)<|(gX) ao f.range<|(aY) ao b.range<|?_;refine WP .r (PV.DL fH (p:=x.ab[i].key) (q:=k) rfl rfl)<|(aR) (fun g17=>?_) fun g17=>?_
  ·
   simp at g17
   have F:bw x.ab k=x.ab[i]:=by unfold bw;rw [js B A (by simpa using g17)];rfl
   refine(aY) kl f.range<|?_;refine WL.go rfl (OX.mg zn d rfl rfl rfl rfl rfl fun w7 G _ d=>?_);have T:=N.own G J;have b:=b.bV G (by simp [z]);have f:=f.bV G (by simp [S]);refine(kR) kl d.range<|?_;exact⟨by rw [F],T⟩
  simp at g17
  refine ed ?_;refine EX.again (i+1) (Sub.k4 rfl rfl rfl rfl<|Sub.iW rfl (by simp)<|Sub.nil) ⟨N,b,d,by omega,cG B A (by simpa using g17)⟩ (by omega)
 simp at g11
 have F:bw x.ab k=⟨k,⟨#[]⟩,0⟩:=by unfold bw;rw [pR (i:=i) (by omega) A];rfl
 refine(aY) ao b.range<|?_;refine WP .r (PV.bz (us:=(cv.mk k ⟨#[]⟩ 0).cells) MR rfl rfl rfl)<|?_;refine WL.go rfl (OX.mg zn d rfl rfl rfl rfl rfl fun w5 g _ d=>?_);have c5:=c4.own g J;have b:=b.bV g (by simp [z]);refine(kR) kl d.range<|?_;exact⟨by rw [F],c5⟩
theorem rV(hi:Rd RR.aD 4 Z w a1 n1 e1 x.ab) (hr:Rd RR.dV 8 Z w a2 n2 e2 x.ah) {k:Key}:CR prog 24 #[.agg (x.row a1 n1 e1 a2 n2 e2).toArray,k.val] w (.string (bw x.ab k).value):=by
 refine enter func24 rfl ntmps24 rfl<|?_;have c0:aS [] w w:=aS.refl _ _;refine bK ?_;refine WL.go rfl (OX.box rfl rfl rfl fun b2 w1 h b=>?_);have s1:=h.ext;have j:=h.iF c0;have c1:=c0.trans s1;refine WL.go rfl (OX.box rfl rfl rfl fun b3 w2 d e=>?_);have s2:=d.ext;have m:=d.iF c1;have i:b2≠b3:=d.ne b.lt;have o:b3≠b2:=Ne.symm i;have c2:=c1.trans s2;have b:=b.ext s2;refine(aY) aL b.range<|(aY) ao e.range<|(bX) Wr (sU (k:=k) (hi.ext c2) (hr.ext c2)) ?_;rintro _ w3 ⟨rfl,g⟩;have c3:=c2.trans g;have b:=b.ext g;have e:=e.ext g;refine WP .r (PV.um (fs:=[_,_,_]) (f:=1) (off:=2) (T:=88) underlying88 rfl rfl (show ∀w,(isAgg 9).run _ w=.ok false w from isAgg9) rfl rfl)<|(bs) ?_;exact⟨rfl,c3⟩
theorem Cj(hi:Rd RR.aD 4 Z w a1 n1 e1 x.ab) (hr:Rd RR.dV 8 Z w a2 n2 e2 x.ah) {k:Key}:CR prog 260 #[.agg (x.row a1 n1 e1 a2 n2 e2).toArray,k.val] w (.int .i64 (bw x.ab k).changed):=by
 refine enter func260 rfl ntmps260 rfl<|?_;have c0:aS [] w w:=aS.refl _ _;refine bK ?_;refine WL.go rfl (OX.box rfl rfl rfl fun b2 w1 h b=>?_);have s1:=h.ext;have j:=h.iF c0;have c1:=c0.trans s1;refine WL.go rfl (OX.box rfl rfl rfl fun b3 w2 d e=>?_);have s2:=d.ext;have m:=d.iF c1;have i:b2≠b3:=d.ne b.lt;have o:b3≠b2:=Ne.symm i;have c2:=c1.trans s2;have b:=b.ext s2;refine(aY) aL b.range<|(aY) ao e.range<|(bX) Wr (sU (k:=k) (hi.ext c2) (hr.ext c2)) ?_;rintro _ w3 ⟨rfl,g⟩;have c3:=c2.trans g;have b:=b.ext g;have e:=e.ext g;refine WP .r (PV.um (fs:=[_,_,_]) (f:=2) (off:=3) (T:=88) underlying88 rfl rfl (show ∀w,(isAgg 3).run _ w=.ok false w from isAgg3) rfl rfl)<|(bs) ?_;exact⟨rfl,c3⟩
theorem iO(hi:Rd RR.aD 4 Z w a1 n1 e1 x.ab) (hr:Rd RR.dV 8 Z w a2 n2 e2 x.ah):Calls prog 12 #[.agg (x.row a1 n1 e1 a2 n2 e2).toArray] w fun e w'=>∃b:Bool,e=.returned (.bool b)∧(b=true↔gU x)∧aS [] w w':=by
 have hlen:=SR.len hi;have hle:=SR.le hi;have vg:=SR.len hr;have vl:=SR.le hr;refine enter func12 rfl ntmps12 rfl<|?_;have c0:aS [] w w:=aS.refl _ _;refine bK ?_;refine WL.go rfl (OX.box rfl rfl rfl fun b1 w1 X4 f=>?_);have s1:=X4.ext;have ad8:=X4.iF c0;have c1:=c0.trans s1;refine fO ?_;refine WP .r (PV.fa u4 rfl)<|(aZ) iX f.range<|?_;refine WP .r (PV.hV qu rfl)<|cj ?_;refine WC.loop (σ:=Nat) (dj:=fun i=>[(1,.pointer (some ⟨b1,0,none⟩)),(8,.slice a1 n1 e1),(9,.int .i64 (n1:Int)),(10,.int .i64 (i:Int))]) (I:=fun i w'=>aS [] w w'∧bQ w' b1 31 (x.row a1 n1 e1 a2 n2 e2)∧i≤n1∧∀j y,j<i→x.ab[j]?=some y→ia x.ad x.ab j=false) (μ:=fun i=>n1 - i) 0 Sub.t ⟨c1,f,by omega,fun j y h=>by omega⟩ ?_;rintro i w2 ⟨c2,f,eJ,N⟩;refine(aR) (fun g11=>?_) fun g11=>?_
 ·
  simp at g11
  have G:i<x.ab.length:=by omega
  have o:=getElem!_pos x.ab i G;obtain⟨bx1,ox1,rx1,S,_,U,J,_⟩:=SR.at hi (ak G);have U:=RR.a8 U;subst U;refine db ?_;have J:=aW J c2 (by simp);refine bK ?_;refine WP .r (PV.dI qu S rfl rfl (by omega))<|(aY) kl J<|?_;refine WL.go rfl (OX.alloc MT rfl fun b4 w3 V s=>?_);have s3:=V.ext;have vh:=V.iF c2;have vm:b1≠b4:=V.ne f.lt;have Si:b4≠b1:=Ne.symm vm;have c3:=c2.trans s3;have f:=f.ext s3;refine nx ?_;refine WL.go rfl (OX.mg zn s rfl rfl rfl rfl rfl fun w4 F _ s=>?_);have c4:=c3.own F vh;have f:=f.bV F (by simp [vm]);refine bY ?_;refine WC.ka (t:=59) (v:=.bool (ia x.ad x.ab i)) (aS [] w4) ?_<|?_
  ·
   refine WC.drawn (m:=43) (C:=aS [] w4) (T:=fun _=>aS []) (E:=cA [(2,fun v _=>v=.bool (fN x.ab[i].key)),(7,fun v _=>v=.bool (ay x.ab[i].key)),(23,fun v _=>v=.int .i64 (bA x.ab[i - 1].key x.ab[i].key))]) (bj (⟨fun _ _ _ _ _ _ _ h=>h,⟨fun _ _ _ _ _ _ _ h=>h,⟨fun _ _ _ _ _ _ _ h=>h,trivial⟩⟩⟩)) mixed (by kernel_rfl) (aS.drew _ _)<|?_;refine DP .r (fun _ g=>PV.fa rR rfl)<|DP .r (fun _ g=>PV.wa ao (s.ext g).range rfl rfl)<|?_;refine DW.e rfl rfl rfl rfl rfl (fun wx g hF=>OX.call Kg rfl rfl ((iM (k:=x.ab[i].key)).mono ?_))<|?_
   ·
    rintro _ wy ⟨rfl,H⟩;exact⟨_,rfl,g.trans H,H,_,rfl,rfl⟩
   rintro _ wz _ rfl;refine(ob) (fun g19=>?_) (fun g19=>?_)
   ·
    refine aX ?_;refine aX ?_;refine aX ?_;refine(cP) ?_;rintro w5 d _;have c5:=c4.trans d;have f:=f.ext d;have s:=s.ext d;exact(cw) (by unfold ia;first | (simp only [o,B,g19];done) | (simp only [o,B,g19];rfl) | (simp only [o,g19];rfl) | (simp only [o,g19];done)) d
   refine DP .r (fun _ g=>PV.fa rR rfl)<|DP .r (fun _ g=>PV.wa ao (s.ext g).range rfl rfl)<|?_;refine DW.e rfl rfl rfl rfl rfl (fun wx g hF=>OX.call HG rfl rfl ((ep (k:=x.ab[i].key)).mono ?_))<|?_
   ·
    rintro _ wy ⟨rfl,H⟩;exact⟨_,rfl,g.trans H,H,_,rfl,rfl⟩
   rintro _ wz _ rfl;refine(ob) (fun p=>?_) (fun p=>?_)
   ·
    refine aX ?_;refine aX ?_;refine(cP) ?_;rintro w5 d _;have c5:=c4.trans d;have f:=f.ext d;have s:=s.ext d;exact(cw) (by unfold ia;first | (simp only [o,B,g19,p];done) | (simp only [o,B,g19,p];rfl) | (simp only [o,g19,p];rfl) | (simp only [o,g19,p];done)) d
   refine(ob) (fun u=>?_) (fun u=>?_)
   ·
    have Uy:i - 1<x.ab.length:=by omega
    have B:=getElem!_pos x.ab (i - 1) Uy;have ad6:=of_decide_eq_true u;obtain⟨bx2,ox2,rx2,Dy,_,W,X,_⟩:=SR.at hi (ak Uy);have W:=RR.a8 W;subst W;have X:=aW X c4 (by simp);refine DP .r (fun _ g=>PV.fa u4 rfl)<|DP .r (fun _ g=>PV.ld1 iX (f.ext g).range rfl rfl)<|bK ?_;refine DP .r (fun _ g=>PV.DJ qu (i - 1) Dy rfl rfl (by omega) (by omega))<|DP .r (fun _ g=>PV.fa rR rfl)<|DP .r (fun _ g=>PV.wa ao (aW X g (by simp)) rfl rfl)<|DP .r (fun _ g=>PV.fa rR rfl)<|DP .r (fun _ g=>PV.wa ao (s.ext g).range rfl rfl)<|?_;refine DW.e rfl rfl rfl rfl rfl (fun wx g hF=>OX.call R2 rfl rfl ((j7 (k:=x.ab[i - 1].key) (q:=x.ab[i].key)).mono ?_))<|?_
    ·
     rintro _ wy ⟨rfl,H⟩;exact⟨_,rfl,g.trans H,H,_,rfl,rfl⟩
    rintro _ wz _ rfl;refine(ob) (fun D=>?_) (fun D=>?_)
    ·
     refine aX ?_;refine(cP) ?_;rintro w5 d _;have c5:=c4.trans d;have f:=f.ext d;have s:=s.ext d;exact(cw) (by unfold ia;first | (simp only [o,B,g19,p,u,D];done) | (simp only [o,B,g19,p,u,D];rfl) | (simp only [o,g19,p,u,D];rfl) | (simp only [o,g19,p,u,D];done)) d
    refine DP .r (fun _ g=>PV.fa EP rfl)<|DP .r (fun _ g=>PV.ld1 fh (s.ext g).range rfl rfl)<|DP .r (fun _ g=>PV.tT rO rfl)<|(ob) (fun z=>?_) (fun z=>?_)
    ·
     refine(cP) ?_;rintro w5 d _;have c5:=c4.trans d;have f:=f.ext d;have s:=s.ext d;exact(cw) (by unfold ia;first | (simp only [o,B,g19,p,u,D,z];done) | (simp only [o,B,g19,p,u,D,z];rfl) | (simp only [o,g19,p,u,D,z];rfl) | (simp only [o,g19,p,u,D,z];done)) d
    refine DP .r (fun _ g=>PV.fa u7 rfl)<|DP .r (fun _ g=>PV.ld1 aN (s.ext g).range rfl rfl)<|(ob) (fun A=>?_) (fun A=>?_)
    ·
     refine(cP) ?_;rintro w5 d _;have c5:=c4.trans d;have f:=f.ext d;have s:=s.ext d;exact(cw) (by unfold ia;first | (simp only [o,B,g19,p,u,D,z,A];done) | (simp only [o,B,g19,p,u,D,z,A];rfl) | (simp only [o,g19,p,u,D,z,A];rfl) | (simp only [o,g19,p,u,D,z,A];done)) d
    refine DP .r (fun _ g=>PV.fa u7 rfl)<|DP .r (fun _ g=>PV.ld1 aN (s.ext g).range rfl rfl)<|DP .r (fun _ g=>PV.fa kX rfl)<|DP .r (fun _ g=>PV.ld1 aN (f.ext g).range rfl rfl)<|(cP)<|?_;rintro w5 d _;have c5:=c4.trans d;have f:=f.ext d;have s:=s.ext d;exact(cw) (by unfold ia;first | (simp only [o,B,g19,p,u,D,z,A];done) | (simp only [o,B,g19,p,u,D,z,A];rfl) | (simp only [o,g19,p,u,D,z,A];rfl) | (simp only [o,g19,p,u,D,z,A];done)) d
   refine aX ?_;refine bK ?_;refine DP .r (fun _ g=>PV.fa EP rfl)<|DP .r (fun _ g=>PV.ld1 fh (s.ext g).range rfl rfl)<|DP .r (fun _ g=>PV.tT rO rfl)<|(ob) (fun z=>?_) (fun z=>?_)
   ·
    refine(cP) ?_;rintro w5 d _;have c5:=c4.trans d;have f:=f.ext d;have s:=s.ext d;exact(cw) (by unfold ia;first | (simp only [o,B,g19,p,u,z];done) | (simp only [o,B,g19,p,u,z];rfl) | (simp only [o,g19,p,u,z];rfl) | (simp only [o,g19,p,u,z];done)) d
   refine DP .r (fun _ g=>PV.fa u7 rfl)<|DP .r (fun _ g=>PV.ld1 aN (s.ext g).range rfl rfl)<|(ob) (fun A=>?_) (fun A=>?_)
   ·
    refine(cP) ?_;rintro w5 d _;have c5:=c4.trans d;have f:=f.ext d;have s:=s.ext d;exact(cw) (by unfold ia;first | (simp only [o,B,g19,p,u,z,A];done) | (simp only [o,B,g19,p,u,z,A];rfl) | (simp only [o,g19,p,u,z,A];rfl) | (simp only [o,g19,p,u,z,A];done)) d
   refine DP .r (fun _ g=>PV.fa u7 rfl)<|DP .r (fun _ g=>PV.ld1 aN (s.ext g).range rfl rfl)<|DP .r (fun _ g=>PV.fa kX rfl)<|DP .r (fun _ g=>PV.ld1 aN (f.ext g).range rfl rfl)<|(cP)<|?_;rintro w5 d _;have c5:=c4.trans d;have f:=f.ext d;have s:=s.ext d;exact(cw) (by unfold ia;first | (simp only [o,B,g19,p,u,z,A];done) | (simp only [o,B,g19,p,u,z,A];rfl) | (simp only [o,g19,p,u,z,A];rfl) | (simp only [o,g19,p,u,z,A];done)) d
  intro w5 d;have c5:=c4.trans d;have f:=f.ext d;have s:=s.ext d;refine(aR) (fun Y=>?_) fun Y=>?_
  ·
   skip
   refine(bs) ?_;exact⟨false,rfl,⟨fun h=>(by cases h),fun h=>absurd (h.1 i _ (ak G)) (by simp [Y])⟩,c5⟩
  refine ed ?_;refine EX.again (i+1) (Sub.k2 rfl rfl<|Sub.cons rfl<|Sub.iW rfl (by simp)<|Sub.nil) ⟨c5,f,by omega,cG (P:=fun j _=>ia x.ad x.ab j=false) G N Y⟩ (by omega)
 simp at g11
 have N:yI x.ad x.ab:=fun j y K=>N j y (by have:=(List.getElem?_eq_some_iff.1 K).1;omega) K;refine gL ?_;refine WP .r (PV.fa rP rfl)<|(aZ) dt f.range<|?_;refine WP .r (PV.hV ij rfl)<|cj ?_;refine WC.loop (σ:=Nat) (dj:=fun i=>[(1,.pointer (some ⟨b1,0,none⟩)),(62,.slice a2 n2 e2),(63,.int .i64 (n2:Int)),(64,.int .i64 (i:Int))]) (I:=fun i w'=>aS [] w w'∧bQ w' b1 31 (x.row a1 n1 e1 a2 n2 e2)∧i≤n2∧∀(j:Nat) (y:Rec),j<i→x.ah[j]?=some y→y.av≤x.ad) (μ:=fun i=>n2 - i) 0 Sub.t ⟨c2,f,by omega,fun j y h=>by omega⟩ ?_;rintro i2 w3 ⟨c3,f,amF,O⟩;refine(aR) (fun Ku=>?_) fun Ku=>?_
 ·
  simp at Ku
  have G:i2<x.ah.length:=by omega
  obtain⟨bx1,ox1,rx1,S,_,⟨q1,q2,q3,rfl,GI,Ci⟩,J,_⟩:=SR.at hr (ak G);refine db ?_;have J:=aW J c3 (by simp);refine nx ?_;refine WP .r (PV.dI ij S rfl rfl (by omega))<|(aY) cU J<|?_;refine WL.go rfl (OX.alloc nF rfl fun b6 w4 Dx Is=>?_);have F:=Dx.ext;have E7:=Dx.iF c3;have vo:b1≠b6:=Dx.ne f.lt;have Sj:b6≠b1:=Ne.symm vo;have c4:=c3.trans F;have f:=f.ext F;refine WL.go rfl (OX.mg fI Is rfl rfl rfl rfl rfl fun w5 d _ Is=>?_);have c5:=c4.own d E7;have f:=f.bV d (by simp [vo]);refine cj ?_;refine WP .r (PV.fa po rfl)<|(aZ) aN Is.range<|?_;refine WP .r (PV.fa kX rfl)<|(aZ) aN f.range<|(aR) (fun Q=>?_) fun Q=>?_
  ·
   simp at Q
   refine(bs) ?_;exact⟨false,rfl,⟨fun h=>(by cases h),fun h=>absurd (h.2.1 i2 _ (ak G)) (by omega)⟩,c5⟩
  simp at Q
  refine ed ?_;refine EX.again (i2+1) (Sub.k2 rfl rfl<|Sub.cons rfl<|Sub.iW rfl (by simp)<|Sub.nil) ⟨c5,f,by omega,cG (P:=fun _ (y:Rec)=>y.av≤x.ad) G O Q⟩ (by omega)
 simp at Ku
 have O:∀(j:Nat) (y:Rec),x.ah[j]?=some y→y.av≤x.ad:=fun j y K=>O j y (by have:=(List.getElem?_eq_some_iff.1 K).1;omega) K;refine fO ?_;refine WC.lA (t:=2) (v:=.bool (lU x)) (aS [] w3) ?_<|?_
 ·
  refine nx ?_;refine WP .r (PV.fa kX rfl)<|(aZ) aN f.range<|(dc) (fun L=>?_) (fun L=>?_)
  ·
   refine WP .r (PV.fa kX rfl)<|(aZ) aN f.range<|(dc) (fun R=>?_) (fun R=>?_)
   ·
    refine WP .r (PV.fa u4 rfl)<|(aZ) iX f.range<|?_;refine WP .r (PV.hV qu rfl)<|(dc) (fun Pp=>?_) (fun Pp=>?_)
    ·
     refine WP .r (PV.fa rP rfl)<|(aZ) dt f.range<|(bX) adk (rU (hr.ext c3)) ?_;rintro _ w4 ⟨rfl,F⟩;have c4:=c3.trans F;have f:=f.ext F;exact(gz) (by unfold lU;simp only [L,R,Pp,← hlen];first | rfl | simp) F
    exact(gz) (by unfold lU;simp only [L,R,Pp,← hlen];first | rfl | simp) (aS.refl _ _)
   exact(gz) (by unfold lU;simp only [L,R,← hlen];first | rfl | simp) (aS.refl _ _)
  refine aX ?_;exact(gz) (by unfold lU;simp only [L,← hlen];first | rfl | simp) (aS.refl _ _)
 intro w4 F;have c4:=c3.trans F;have f:=f.ext F;refine(bs) ?_;exact⟨_,rfl,⟨fun h=>by have:=(sy x).1 h;exact⟨N,O,this⟩,fun h=>(sy x).2 h.2.2⟩,c4⟩
end Go.Rc

