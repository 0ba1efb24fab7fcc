/- Walks over the program, part WF. Conditions: as each theorem says. -/
import Derived.Test.YtfamnpoplgkkcaaGreatDoorSFacts
import Derived.Test.YtfamnpoplgkkcaaGreatDoorSWB
import Derived.Test.YtfamnpoplgkkcaaGreatDoorSBe
set_option linter.all false
namespace Go.Rc
open Go Go.Proofs Go.Proofs.Tryz
variable {x:cz}{a a2 a1:Option Addr}{n c n2 e2 n1 e1:Nat}{w:World}{M Z:Nat→Prop}{l:List Rec}{k:Key}
set_option maxHeartbeats 400000
theorem jr{x:Rec}(j:St w M Z w []) (hk:Rd RR.key 2 Z w a n c x.reads) (p:x.reads.length≤4000):Calls prog 48 #[.agg (x.row a n c).toArray] w fun e w'=>∃d f g,e=.returned (.agg (x.row d f g).toArray)∧St w M Z w' [As.os RR.key 41 2 d f g x.reads]:=by
 have q:=hk.len;refine enter func48 rfl ntmps48 rfl<|?_;have aQ:=j;have st1:=aQ.fr hk;have st2:=st1.dp RR.key 41 2;refine(dz) st2 fun b1 w1 r s m=>?_;refine(eT) m fun b2 w2 t u b=>?_;refine(aZ) dK b.b1<|?_;refine WL.ap rfl rfl b.p2 ((As.gr b.g3)) fun a5 v w3 y z o=>?_;refine nx ?_;refine WL.s1 o.p2 fun w4 _ h=>?_;refine(aX) dh h.b0<|(cI) fI h.p2 fun w5 A B i=>?_;refine(kV) dh i.b0<|?_;exact⟨_,_,_,rfl,i.p2.k1⟩
theorem Cu(D:St w M Z w []) (hl:Rd RR.ew 8 Z w a n c l) (Y:l.length≤1000000):Calls prog 93 #[.slice a n c] w fun e w'=>∃q s u Z',e=.returned (.slice q s u)∧bJ w.heap.size Z Z'∧St w M Z' w' [As.os RR.ew 47 8 q s u l]:=by
 have hlen:=hl.len;have hle:=hl.le;refine enter func93 rfl ntmps93 rfl<|?_;have aQ:=D;have st1:=aQ.fr hl;have st2:=st1.dp RR.ew 47 8;refine aW ?_;refine eD ?_;refine WC.gY (σ:=Nat × (Nat→Prop) × (List Rec) × (Option Addr) × Nat × Nat) (dn:=fun(i,d,acc,f,b,g)=>[(3,.slice f b g),(6,.slice a n c),(7,.int .i64 (n:Int)),(8,.int .i64 (i:Int))]) (F:=fun(i,d,acc,f,b,g)=>[As.os RR.ew 47 8 f b g (acc)]) (I:=fun(i,d,acc,f,b,g)=>(i≤n)∧(bJ w.heap.size Z d)∧(acc=l.take i)∧True) (μ:=fun(i,d,acc,f,b,g)=>n - i) (Zf:=fun(i,d,acc,f,b,g)=>d) (0,Z,[],none,0,0) (st2) Sub.t (⟨by omega,bJ.refl _ _,by simp,trivial⟩)<|?_;rintro⟨i,d,acc,f,b,g⟩ w1 h ⟨hi,o,j,_⟩;simp only [CA,NA] at h hi o j ⊢;have ru:=((As.gs h.g0)).len
 have KT:acc.length≤1000000:=by rw [j,List.length_take];omega
 refine(aS) (fun g9=>?_) fun g9=>?_
 ·
  simp at g9
  have v:i<l.length:=by omega
  refine dd ?_;obtain⟨gJ,kF,jV,E,gI,G,H,J⟩:=Rd.at (As.gr h.g1) v;obtain⟨q1,q2,q3,rfl,K,y⟩:=G;have L:=h.fg J H;have z:=L.fr K;refine nx ?_;refine WP .r (PV.dV iV E rfl rfl (by omega))<|(aX) dh (As.kT z.g1)<|(eT) z fun b5 w2 H9 Ia N=>?_;refine(cI) fI N fun w3 jW ka B=>?_;refine(aX) dh B.b0<|?_;have m:=B;refine(bY) N6 (jr m.e0 (As.gr m.g1) y) ?_;rintro _ w4 ⟨e1,e2,e3,rfl,C⟩;have O:=St.lr m C;have P:=St.bN C;have hsz:=m.size;have Q:=O.a8 (by omega);have R:=o.trans (bJ.dC (F:=fun x=>x∈aJ e1) P) hsz;refine WL.go rfl (OX.aP (us:=l[i].row e1 e2 e3) nH rfl rfl rfl rfl fun b15 w5 S T=>?_);have p:=Q.cZ S T;refine WL.ap rfl rfl p.p5 (SR.dc (A:=fun _=>True) (x:=l[i]) (As.gb p.g0) trivial rfl (Rec.one _ _ _ _) ⟨e1,e2,e3,rfl,(As.gr p.g1),y⟩) fun U V w6 anh ani W=>?_;refine gK ?_;refine ez (i+1,_,acc++[l[i]],U,(b+1),V) ⟨W.p6.p1.k2,⟨by omega,R,by rw [j,List.take_succ_eq_append_getElem v],trivial⟩⟩
 simp at g9
 have X:acc=l:=by rw [j];exact List.take_of_length_le (by omega)
 subst X;refine(bA) ?_;exact⟨_,_,_,_,rfl,o,h.p1.drop⟩
theorem gS(D:St w M Z w []) (hl:Rd RR.ew 8 Z w a n c l):Calls prog 15 #[.slice a n c,k.val] w fun e w'=>∃y z A,e=.returned (.tuple #[.agg ((aC l k).row y z A).toArray,.bool (aB l k).isSome])∧(aC l k).reads.length≤4000∧St w M Z w' [As.os RR.key 41 2 y z A (aC l k).reads]:=by
 have hlen:=hl.len;have hle:=hl.le;refine enter func15 rfl ntmps15 rfl<|?_;have aQ:=D;have st1:=aQ.fr hl;refine(dz) st1 fun b3 w1 Q R st2=>?_;refine(eT) st2 fun b4 w2 S T E=>?_;refine aW ?_;refine WC.bm (σ:=Nat) (dn:=fun i=>[(3,.pointer (some ⟨b3,0,none⟩)),(4,.pointer (some ⟨b4,0,none⟩)),(8,.slice a n c),(9,.int .i64 (n:Int)),(10,.int .i64 (i:Int))]) (F:=fun i=>[]) (I:=fun i=>(i≤n)∧(∀j x,j<i→l[j]?=some x→(x.key == k)=false)∧True) (μ:=fun i=>n - i) (0) (E) Sub.t (⟨by omega,fun j x h=>by omega,trivial⟩)<|?_;rintro i w3 m ⟨hi,o,_⟩;simp only [CA,NA] at m hi o ⊢;refine(aS) (fun g11=>?_) fun g11=>?_
 ·
  simp at g11
  have s:i<l.length:=by omega
  refine dd ?_;obtain⟨U,V,W,G,X,H,J,K⟩:=Rd.at (As.gr m.g2) s;obtain⟨q1,Y,q3,rfl,L,B⟩:=H;have u:=m.fg K J;have d:=u.fr L;refine nx ?_;refine WP .r (PV.dV iV G rfl rfl (by omega))<|(aX) dh (As.kT d.g1)<|(eT) d fun b7 w4 SF SG N=>?_;refine(cI) fI N fun w5 jW ka f=>?_;refine(ia) ao f.b0<|(aX) ao f.b4<|?_;refine WP .r (PV.Gl fS (p:=l[i].key) (q:=k) rfl rfl)<|(aS) (fun g17=>?_) fun g17=>?_
  ·
   simp at g17
   have g:aB l k=some l[i]:=jv s o (by simpa using g17)
   have b:aC l k=l[i]:=by unfold aC;rw [g];rfl
   refine(aX) dh f.b0<|?_;have v:=f;refine(bY) N6 (jr v.e0 (As.gr v.g1) B) ?_;rintro _ w6 ⟨e1,e2,e3,rfl,O⟩;have P:=St.lr v O;refine(cI) fI P.p4 fun w7 ry mu C=>?_;refine kU ?_;refine EX.et rfl (RS.cell dh rfl C.b0 rfl<|RS.tmp rfl<|RS.nil) rfl<|?_;exact⟨e1,e2,e3,by rw [g,b];rfl,by rw [b];exact B,by rw [b];exact C.p1.k1⟩
  simp at g17
  refine eD ?_;refine ez (i+1) ⟨f.p5.p5.p5.k3,⟨by omega,cJ s o (by simpa using g17),trivial⟩⟩
 simp at g11
 have g:aB l k=none:=nc (i:=i) (by omega) o
 have b:aC l k=nb:=by unfold aC;rw [g];rfl
 have u:=m.dp RR.key 41 2;refine(cI) fI u.p1 fun w4 zH tR d=>?_;refine ck ?_;refine EX.et rfl (RS.cell dh rfl d.b0 rfl<|RS.tmp rfl<|RS.nil) rfl<|?_;exact⟨none,0,0,by rw [g,b];rfl,by rw [b];simp [nb],by rw [b];exact d.p1.k1⟩
theorem dZ(hl:Rd RR.ew 8 Z w a n c l):Calls prog 15 #[.slice a n c,k.val] w fun e w'=>∃b d f,e=.returned (.tuple #[.agg ((aC l k).row b d f).toArray,.bool (aB l k).isSome])∧aU [] w w':=
 (gS (M:=fun _=>False) (St.start fun _ g=>g.2) hl.cut).mono fun _ _ ⟨b,d,f,h1,_,h⟩=>⟨b,d,f,h1,h.cg⟩
theorem Cv{x:Rec}(h1:x.key.text.size≤4611686018427) (e:x.value.size≤4611686018427) (f:n≤4611686018427):CR prog 145 #[.agg (x.row a n c).toArray] w (.int .i64 (16+x.key.text.size+x.value.size+8*n:Int)):=by
 refine enter func145 rfl ntmps145 rfl<|?_;have c0:aU [] w w:=aU.refl _ _;refine bO ?_;refine WL.go rfl (OX.box rfl rfl rfl fun b1 w1 d b=>?_);have s1:=d.ext;have g:=d.iG c0;have c1:=c0.trans s1;refine dd ?_;refine WP .r (PV.fa pD rfl)<|WP .r (PV.fa pC rfl)<|(aZ) e7 b.range<|?_;refine WP .r (PV.tY r6 rfl)<|nx ?_;refine WP .r (PV.fa vg rfl)<|(aZ) e7 b.range<|?_;refine WP .r (PV.tY r6 rfl)<|nx ?_;refine WP .r (PV.fa zz rfl)<|(aZ) dK b.range<|?_;refine WP .r (PV.ic ey rfl)<|WP .r (PV.mul rfl rfl (by omega) (by omega))<|(bA) ?_;exact⟨rfl,c1⟩
theorem tc(D:St w M Z w []) (hl:Rd RR.ew 8 Z w a n c l) (W:l.length≤1000000):Calls prog 99 #[.slice a n c,k.val] w fun e w'=>∃s u v,e=.returned (.slice s u v)∧St w M Z w' [As.os RR.ew 47 8 s u v (fo l k)]:=by
 have hlen:=hl.len;refine enter func99 rfl ntmps99 rfl<|?_;have aQ:=D;have st1:=aQ.fr hl;have st2:=st1.dp RR.ew 47 8;refine(dz) st2 fun b3 w1 X Y E=>?_;refine aW ?_;refine dd ?_;refine WC.bm (σ:=Nat × (List Rec) × (Option Addr) × Nat × Nat) (dn:=fun(i,acc,d,b,f)=>[(3,.pointer (some ⟨b3,0,none⟩)),(5,.slice d b f),(8,.slice a n c),(9,.int .i64 (n:Int)),(10,.int .i64 (i:Int))]) (F:=fun(i,acc,d,b,f)=>[As.os RR.ew 47 8 d b f (acc)]) (I:=fun(i,acc,d,b,f)=>(i≤n)∧(acc=fo (l.take i) k)∧True) (μ:=fun(i,acc,d,b,f)=>n - i) (0,[],none,0,0) (E.p1) Sub.t (⟨by omega,by simp [fo],trivial⟩)<|?_;rintro⟨i,acc,d,b,f⟩ w2 g ⟨hi,h,_⟩;simp only [CA,NA] at g hi h ⊢;have ru:=((As.gs g.g0)).len;have G:=rE (l.take i) k
 have anj:acc.length≤1000000:=by rw [List.length_take,← h] at G;omega
 refine(aS) (fun g11=>?_) fun g11=>?_
 ·
  simp at g11
  have y:i<l.length:=by omega
  have m:=Eb (k:=k) y;refine dd ?_;obtain⟨gJ,kF,jV,H,gI,J,K,L⟩:=Rd.at (As.gr g.g2) y;obtain⟨q1,z,B,rfl,N,O⟩:=J;have P:=g.fg L K;have C:=P.fr N;refine nx ?_;refine WP .r (PV.dV iV H rfl rfl (by omega))<|(aX) dh (As.kT C.g1)<|(eT) C fun b7 w3 SF SG Q=>?_;refine(cI) fI Q fun w4 jW ka j=>?_;refine(ia) ao j.b0<|(aX) ao j.b4<|?_;refine WP .r (PV.LP fS (p:=l[i].key) (q:=k) rfl rfl)<|(aS) (fun g17=>?_) fun g17=>?_
  ·
   simp at g17
   rw [if_neg g17] at m;refine(aX) dh j.b0<|?_;refine WL.go rfl (OX.aP (us:=l[i].row q1 z B) nH rfl rfl rfl rfl fun b20 w5 R S=>?_);have o:=j.cZ R S;refine WL.ap rfl rfl o.p4 (SR.dc (A:=fun _=>True) (x:=l[i]) (As.gb o.g0) trivial rfl (Rec.one _ _ _ _) ⟨q1,z,B,rfl,(As.gr o.g2),O⟩) fun a21 T w6 ank aeq U=>?_;refine gK ?_;refine ez (i+1,acc++[l[i]],a21,(b+1),T) ⟨U.p6.p6.p2.k3,⟨by omega,by rw [m,h],trivial⟩⟩
  simp at g17
  rw [if_pos g17] at m;refine eD ?_;refine ez (i+1,acc,d,b,f) ⟨j.p5.p5.p5.k3,⟨by omega,by rw [m,h],trivial⟩⟩
 simp at g11
 have V:acc=fo l k:=by rw [h,List.take_of_length_le (by omega)]
 subst V;refine(bA) ?_;exact⟨_,_,_,rfl,g.p1.drop.p1.drop⟩
theorem vw{x:Rec}(gp:St w M Z w []) (hl:Rd RR.ew 8 Z w a n c l) (h6:l.length≤1000000) (hx:Rd RR.key 2 Z w a2 n2 e2 x.reads) (C:x.reads.length≤4000):Calls prog 194 #[.slice a n c,.agg (x.row a2 n2 e2).toArray] w fun e w'=>∃U V W Z',e=.returned (.slice U V W)∧bJ w.heap.size Z Z'∧St w M Z' w' [As.os RR.ew 47 8 U V W (eu l x)]:=by
 have hlen:=hl.len;refine enter func194 rfl ntmps194 rfl<|?_;have aQ:=gp;have st1:=aQ.fr hl;have st2:=st1.fr hx;have ir:=st2.dp RR.ew 47 8;refine(dz) ir fun b3 w1 Ib wO hJ=>?_;refine aW ?_;refine i7 ?_;refine WC.gY (σ:=Nat × Bool × (Nat→Prop) × (List Rec) × (Option Addr) × Nat × Nat) (dn:=fun(i,put,m,out,g,b,h)=>[(3,.pointer (some ⟨b3,0,none⟩)),(5,.slice g b h),(6,.bool put),(10,.slice a n c),(11,.int .i64 (n:Int)),(12,.int .i64 (i:Int))]) (F:=fun(i,put,m,out,g,b,h)=>[As.os RR.ew 47 8 g b h (out)]) (I:=fun(i,put,m,out,g,b,h)=>(i≤n)∧(bJ w.heap.size Z m)∧(out++fe x (l.drop i) put=eu l x)∧True) (μ:=fun(i,put,m,out,g,b,h)=>n - i) (Zf:=fun(i,put,m,out,g,b,h)=>m) (0,false,Z,[],none,0,0) (hJ.p1) Sub.t (⟨by omega,bJ.refl _ _,rfl,trivial⟩)<|?_;rintro⟨i,put,m,out,g,b,h⟩ w2 o ⟨hi,s,hinv,_⟩;simp only [CA,NA] at o hi s hinv ⊢;have ru:=((As.gs o.g0)).len
 have hol:out.length≤1000001:=by have h1:=congrArg List.length hinv;have h2:=rD x l false;simp only [eu,List.length_append] at h1;omega
 refine(aS) (fun g13=>?_) fun g13=>?_
 ·
  simp at g13
  have X:i<l.length:=by omega
  have Y:fe x (l.drop i) put=(if decide (0≤bD l[i].key x.key) && !put then [x] else [])++(if bD l[i].key x.key=0 then [] else [l[i]])++fe x (l.drop (i+1)) (put || decide (0≤bD l[i].key x.key)):=by rw [List.drop_eq_getElem_cons X];rfl
  refine dd ?_;obtain⟨gJ,kF,jV,cR,gI,fw,ek,eJ⟩:=Rd.at (As.gr o.g3) X;obtain⟨q1,D,E,rfl,IQ,DT⟩:=fw;have u:=o.fg eJ ek;have G:=u.fr IQ;refine nx ?_;refine WP .r (PV.dV iV cR rfl rfl (by omega))<|(aX) dh (As.kT G.g1)<|(eT) G fun b8 w3 LZ Yq K=>?_;refine(cI) fI K fun w4 jW ka p=>?_;refine(ia) ao p.b0<|(ia) ao p.b4<|(eV) (j9 (k:=l[i].key) (q:=x.key)) p fun w5 s5 y=>?_;refine dd ?_;refine WC.dJ (t:=26) (v:=.bool (decide (0≤bD l[i].key x.key) && !put)) y ?_<|?_
  ·
   refine(de) (fun g23=>?_) (fun g23=>?_)
   ·
    exact(bZ) (by simp only [g23];first | rfl | simp) (y)
   exact(bZ) (by simp only [g23];first | rfl | simp) (y)
  intro w6 z;refine(aS) (fun H=>?_) fun H=>?_
  ·
   simp at H
   obtain⟨hA,hB⟩:=H;subst hB
   have f:fe x (l.drop i) false=[x]++(if bD l[i].key x.key=0 then [] else [l[i]])++fe x (l.drop (i+1)) true:=by rw [Y];simp [hA]
   refine(aX) dh z.b4<|?_;have j:=z;refine(bY) N6 (jr j.e0 (As.gr j.g5) C) ?_;rintro _ w7 ⟨f1,f2,f3,rfl,jB⟩;have L:=St.lr j jB;have N:=St.bN jB;have hsz:=j.size;have cW:=L.a8 (by omega);have J:=s.trans (bJ.dC (F:=fun x=>x∈aJ f1) N) hsz;refine WL.go rfl (OX.aP (us:=x.row f1 f2 f3) nH rfl rfl rfl rfl fun b30 w8 Yr Ys=>?_);have O:=cW.cZ Yr Ys;refine WL.ap rfl rfl O.p5 (SR.dc (A:=fun _=>True) (x:=x) (As.gb O.g0) trivial rfl (Rec.one _ _ _ _) ⟨f1,f2,f3,rfl,(As.gr O.g1),C⟩) fun a31 aet w9 anl aeu P=>?_;refine(aS) (fun d=>?_) fun d=>?_
   ·
    simp at d
    rw [if_neg d] at f;refine(aX) dh P.b3<|?_;refine WL.go rfl (OX.aP (us:=l[i].row q1 D E) nH rfl rfl rfl rfl fun b36 iP Q R=>?_);have S:=P.cZ Q R;refine WL.ap rfl rfl S.p1 (SR.dc (A:=fun _=>True) (x:=l[i]) (As.gb S.g0) trivial rfl (Rec.one _ _ _ _) ⟨q1,D,E,rfl,(As.gr S.g5),DT⟩) fun a37 T iW Yt Yu eb=>?_;refine gK ?_;refine ez (i+1,true,_,_,a37,((b+1)+1),T) ⟨eb.p9.p9.p9.p3.k4,⟨by omega,J,by rw [← hinv,f];simp,trivial⟩⟩
   simp at d
   rw [if_pos d] at f;refine eD ?_;refine ez (i+1,true,_,_,a31,(b+1),aet) ⟨P.p8.p8.p8.p3.k4,⟨by omega,J,by rw [← hinv,f];simp,trivial⟩⟩
  have f:fe x (l.drop i) put=[]++(if bD l[i].key x.key=0 then [] else [l[i]])++fe x (l.drop (i+1)) put:=by
   rw [Y]
   cases put
   ·
    simp at H;rw [decide_eq_false (by omega)];rfl
   simp
  refine(aS) (fun d=>?_) fun d=>?_
  ·
   simp at d
   rw [if_neg d] at f;refine(aX) dh z.b0<|?_;refine WL.go rfl (OX.aP (us:=l[i].row q1 D E) nH rfl rfl rfl rfl fun b36 w7 Q R=>?_);have j:=z.cZ Q R;refine WL.ap rfl rfl j.p4 (SR.dc (A:=fun _=>True) (x:=l[i]) (As.gb j.g0) trivial rfl (Rec.one _ _ _ _) ⟨q1,D,E,rfl,(As.gr j.g2),DT⟩) fun a37 T w8 Yt Yu L=>?_;refine gK ?_;refine ez (i+1,put,_,_,a37,(b+1),T) ⟨L.p7.p7.p7.p3.k4,⟨by omega,s,by rw [← hinv,f];simp,trivial⟩⟩
  simp at d
  rw [if_pos d] at f;refine eD ?_;refine ez (i+1,put,_,_,g,b,h) ⟨z.p6.p6.p6.p6.k4,⟨by omega,s,by rw [← hinv,f];simp,trivial⟩⟩
 simp at g13
 have ig:l.drop i=[]:=List.drop_eq_nil_of_le (by omega);rw [ig] at hinv;refine(aS) (fun B=>?_) fun B=>?_
 ·
  simp at B
  subst B;refine(aX) dh o.b1<|?_;have u:=o;refine(bY) N6 (jr u.e0 (As.gr u.g2) C) ?_;rintro _ w3 ⟨f1,f2,f3,rfl,ky⟩;have G:=St.lr u ky;have N:=St.bN ky;have hsz:=u.size;have K:=G.a8 (by omega);have J:=s.trans (bJ.dC (F:=fun x=>x∈aJ f1) N) hsz;refine WL.go rfl (OX.aP (us:=x.row f1 f2 f3) nH rfl rfl rfl rfl fun b44 w4 Ob SH=>?_);have p:=K.cZ Ob SH;refine WL.ap rfl rfl p.p2 (SR.dc (A:=fun _=>True) (x:=x) (As.gb p.g0) trivial rfl (Rec.one _ _ _ _) ⟨f1,f2,f3,rfl,(As.gr p.g1),C⟩) fun a45 ann w5 ano anp y=>?_;refine(bA) ?_;exact⟨_,_,_,_,rfl,J,by rw [← hinv];exact y.k1⟩
 simp at B
 subst B;refine(bA) ?_;exact⟨_,_,_,_,rfl,s,by rw [← hinv];simp only [fe,List.append_nil,if_true];exact o.k1⟩
theorem zI{x:Rec}(hk:Rd RR.key 2 Z w a n c x.reads):CR prog 83 #[.agg (x.row a n c).toArray] w (.bool (eF x)):=by
 have hlen:=SR.len hk;have hle:=SR.le hk;refine enter func83 rfl ntmps83 rfl<|?_;have c0:aU [] w w:=aU.refl _ _;refine bO ?_;refine WL.go rfl (OX.box rfl rfl rfl fun b1 w1 H b=>?_);have s1:=H.ext;have Q:=H.iG c0;have c1:=c0.trans s1;refine fH ?_;refine WP .r (PV.fa zz rfl)<|(aZ) dK b.range<|?_;refine WP .r (PV.ic ey rfl)<|ck ?_;refine WC.loop (σ:=Nat) (dn:=fun i=>[(1,.pointer (some ⟨b1,0,none⟩)),(6,.slice a n c),(7,.int .i64 (n:Int)),(8,.int .i64 (i:Int))]) (I:=fun i w'=>aU [] w w'∧bR w' b1 47 (x.row a n c)∧i≤n∧∀j y,j<i→x.reads[j]?=some y→fN y=true) (μ:=fun i=>n - i) 0 Sub.t ⟨c1,b,by omega,fun j y h=>by omega⟩ ?_;rintro i w2 ⟨c2,b,hi,J⟩;refine(aS) (fun g9=>?_) fun g9=>?_
 ·
  simp at g9
  have B:i<x.reads.length:=by omega
  refine dd ?_;obtain⟨R,S,T,L,_,C,D,_⟩:=SR.at hk (ak B);have C:=RR.ba C;subst C;have D:=a7 D c2 (by simp);refine nx ?_;refine WP .r (PV.dV ey L rfl rfl (by omega))<|(aX) ao D<|?_;refine WL.go rfl (OX.alloc E8 rfl fun b4 w3 E u=>?_);have d:=E.ext;have N:=E.iG c2;have K:b1≠b4:=E.ne b.lt;have U:b4≠b1:=Ne.symm K;have c3:=c2.trans d;have b:=b.ext d;refine WL.go rfl (OX.mq gR u rfl rfl rfl rfl rfl fun w4 e _ u=>?_);have c4:=c3.own e N;have b:=b.bW e (by simp [K]);refine(aX) ao u.range<|(bY) KC (iO (k:=x.reads[i])) ?_;rintro _ w5 ⟨rfl,p⟩;have c5:=c4.trans p;have b:=b.ext p;have u:=u.ext p;refine(aS) (fun g14=>?_) fun g14=>?_
  ·
   simp at g14
   have F:eF x=false:=by unfold eF;rw [Bool.and_eq_false_iff];left;rw [List.all_eq_false];exact⟨_,List.getElem_mem B,by simp [g14]⟩
   refine(bA) ?_;exact⟨by rw [F],c5⟩
  simp at g14
  refine eD ?_;refine EX.again (i+1) (Sub.k2 rfl rfl<|Sub.cons rfl<|Sub.iX rfl (by simp)<|Sub.nil) ⟨c5,b,by omega,cJ B J g14⟩ (by omega)
 simp at g9
 have F:eF x=gi x:=by
  unfold eF
  rw [show x.reads.all fN=true from List.all_eq_true.2 fun y O=>by obtain⟨j,P,rfl⟩:=List.mem_iff_getElem.1 O;exact J j _ (by omega) (ak P)]
  rfl
 refine fH ?_;refine WC.lE (t:=2) (v:=.bool (gi x)) (aU [] w2) ?_<|?_
 ·
  refine nx ?_;refine WP .r (PV.fa pD rfl)<|(ia) ao b.range<|(bY) KC (iO (k:=x.key)) ?_;rintro _ w3 ⟨rfl,d⟩;have c3:=c2.trans d;have b:=b.ext d;refine(de) (fun g19=>?_) (fun g19=>?_)
  ·
   refine WP .r (PV.fa pD rfl)<|(ia) ao b.range<|(bY) H3 (ei (k:=x.key)) ?_;rintro _ w4 ⟨rfl,e⟩;have c4:=c3.trans e;have b:=b.ext e;refine(de) (fun f=>?_) (fun f=>?_)
   ·
    refine WP .r (PV.fa vg rfl)<|(aZ) e7 b.range<|?_;refine WP .r (PV.tY r6 rfl)<|(de) (fun g=>?_) (fun g=>?_)
    ·
     refine WP .r (PV.fa zz rfl)<|(aZ) dK b.range<|?_;refine WP .r (PV.ic ey rfl)<|(de) (fun m=>?_) (fun m=>?_)
     ·
      refine WP .r (PV.fa vh rfl)<|(aZ) aO b.range<|(de) (fun o=>?_) (fun o=>?_)
      ·
       refine WP .r (PV.fa vh rfl)<|(aZ) aO b.range<|?_;refine WP .r (PV.fa pE rfl)<|(aZ) aO b.range<|(de) (fun q=>?_) (fun q=>?_)
       ·
        refine WP .r (PV.fa pE rfl)<|(aZ) aO b.range<|(de) (fun s=>?_) (fun s=>?_)
        ·
         refine WP .r (PV.fa E9 rfl)<|(aZ) aO b.range<|(de) (fun z=>?_) (fun z=>?_)
         ·
          refine WP .r (PV.fa E9 rfl)<|(aZ) aO b.range<|(de) (fun A=>?_) (fun A=>?_)
          ·
           refine WP .r (PV.fa Fa rfl)<|(aZ) dA b.range<|(de) (fun G=>?_) (fun G=>?_)
           ·
            exact(gu) (by unfold gi;simp only [g19,f,g,m,o,q,s,z,A,G,← hlen];first | rfl | simp) (d.trans e)
           refine WP .r (PV.fa pD rfl)<|(ia) ao b.range<|(bY) H0 (df (k:=x.key)) ?_;rintro _ w5 ⟨rfl,p⟩;have c5:=c4.trans p;have b:=b.ext p;exact(gu) (by unfold gi;simp only [g19,f,g,m,o,q,s,z,A,G,← hlen];first | rfl | simp) ((d.trans e).trans p)
          exact(gu) (by unfold gi;simp only [g19,f,g,m,o,q,s,z,A,← hlen];first | rfl | simp) (d.trans e)
         refine aW ?_;exact(gu) (by unfold gi;simp only [g19,f,g,m,o,q,s,z,← hlen];first | rfl | simp) (d.trans e)
        refine aW ?_;exact(gu) (by unfold gi;simp only [g19,f,g,m,o,q,s,← hlen];first | rfl | simp) (d.trans e)
       refine aW ?_;refine aW ?_;exact(gu) (by unfold gi;simp only [g19,f,g,m,o,q,← hlen];first | rfl | simp) (d.trans e)
      refine aW ?_;refine aW ?_;exact(gu) (by unfold gi;simp only [g19,f,g,m,o,← hlen];first | rfl | simp) (d.trans e)
     refine aW ?_;refine aW ?_;refine aW ?_;exact(gu) (by unfold gi;simp only [g19,f,g,m,← hlen];first | rfl | simp) (d.trans e)
    refine aW ?_;refine aW ?_;refine aW ?_;exact(gu) (by unfold gi;simp only [g19,f,g,← hlen];first | rfl | simp) (d.trans e)
   refine aW ?_;refine aW ?_;refine aW ?_;refine aW ?_;exact(gu) (by unfold gi;simp only [g19,f,← hlen];first | rfl | simp) (d.trans e)
  refine aW ?_;refine aW ?_;refine aW ?_;refine aW ?_;exact(gu) (by unfold gi;simp only [g19,← hlen];first | rfl | simp) d
 intro w3 d;have c3:=c2.trans d;have b:=b.ext d;refine(bA) ?_;exact⟨by rw [F],c3⟩
theorem tF(hl:Rd RR.ew 8 Z w a n c l):Calls prog 41 #[.slice a n c] w fun e w'=>∃b:Bool,e=.returned (.bool b)∧(b=true↔nh l)∧aU [] w w':=by
 have hlen:=SR.len hl;have hle:=SR.le hl;refine enter func41 rfl ntmps41 rfl<|?_;have c0:aU [] w w:=aU.refl _ _;refine kU ?_;refine WP .r (PV.ic iV rfl)<|ck ?_;refine WC.loop (σ:=Nat) (dn:=fun i=>[(0,.slice a n c),(5,.slice a n c),(6,.int .i64 (n:Int)),(7,.int .i64 (i:Int))]) (I:=fun i w'=>aU [] w w'∧i≤n∧∀j y,j<i→l[j]?=some y→qb l j y) (μ:=fun i=>n - i) 0 Sub.t ⟨c0,by omega,fun j y h=>by omega⟩ ?_;rintro i w1 ⟨c1,hi,u⟩;refine(aS) (fun g8=>?_) fun g8=>?_
 ·
  simp at g8
  have p:i<l.length:=by omega
  have d:=getElem!_pos l i p;obtain⟨Q,R,S,K,_,⟨q1,U,V,rfl,L,W⟩,z,_⟩:=SR.at hl (ak p);refine dd ?_;have z:=a7 z c1 (by simp);refine bO ?_;refine WP .r (PV.dV iV K rfl rfl (by omega))<|(aX) dh z<|?_;refine WL.go rfl (OX.alloc nJ rfl fun b4 w2 F f=>?_);have s2:=F.ext;have N:=F.iG c1;have c2:=c1.trans s2;refine nx ?_;refine WL.go rfl (OX.mq fI f rfl rfl rfl rfl rfl fun w3 O _ f=>?_);have c3:=c2.own O N;refine cm ?_;refine WC.ke (t:=30) (v:=.bool (rF l i)) (aU [] w3) ?_<|?_
  ·
   refine WC.drawn (m:=15) (C:=aU [] w3) (T:=fun _=>aU []) (E:=cF [(1,fun v _=>v=.bool (eF l[i]))]) (bj (⟨fun _ _ _ _ _ _ _ h=>h,trivial⟩)) mixed (by kernel_rfl) (aU.drew _ _)<|?_;refine DP .r (fun _ o=>PV.Hb dh (f.ext o).range rfl rfl)<|?_;refine DW.e rfl rfl rfl rfl rfl (fun X o Y=>OX.call aea rfl rfl ((zI (L.ext (c3.trans o))).mono ?_))<|?_
   ·
    rintro _ wy ⟨rfl,G⟩;exact⟨_,rfl,o.trans G,G,_,rfl,rfl⟩
   rintro _ wz _ rfl;refine(om) (fun g15=>?_) (fun g15=>?_)
   ·
    refine(cS) ?_;rintro w4 g _;have c4:=c3.trans g;have f:=f.ext g;exact(bZ) (by unfold rF;first | (simp only [d,s,g15];done) | (simp only [d,s,g15];rfl) | (simp only [d,g15];rfl) | (simp only [d];rw [Bool.not_eq_true'] at g15;simp [g15]) | (simp only [d];simp at g15 g18;simp [g15,g18])) g
   refine(om) (fun g18=>?_) (fun g18=>?_)
   ·
    have H:i - 1<l.length:=by omega
    have s:=getElem!_pos l (i - 1) H;have aev:=of_decide_eq_true g18;obtain⟨bx2,ox2,rx2,P,_,⟨p1,p2,p3,rfl,_,_⟩,A,_⟩:=SR.at hl (ak H);have A:=a7 A c3 (by simp);refine cm ?_;refine DP .r (fun _ o=>PV.D3 iV (i - 1) P rfl rfl (by omega) (by omega))<|DP .r (fun _ o=>PV.fa pD rfl)<|DP .r (fun _ o=>PV.wA ao (a7 A o (by simp)) rfl rfl)<|DP .r (fun _ o=>PV.fa pD rfl)<|DP .r (fun _ o=>PV.wA ao (f.ext o).range rfl rfl)<|(cS)<|?_;rintro w4 g _;have c4:=c3.trans g;have f:=f.ext g;refine(bY) Sn (j9 (k:=l[i - 1].key) (q:=l[i].key)) ?_;rintro _ w5 ⟨rfl,B⟩;have c5:=c4.trans B;have f:=f.ext B;exact(bZ) (by unfold rF;first | (simp only [d,s,g15,g18];done) | (simp only [d,s,g15,g18];rfl) | (simp only [d,g15,g18];rfl) | (simp only [d];rw [Bool.not_eq_true'] at g15;simp [g15]) | (simp only [d];simp at g15 g18;simp [g15,g18])) (g.trans B)
   refine(cS) ?_;rintro w4 g _;have c4:=c3.trans g;have f:=f.ext g;exact(bZ) (by unfold rF;first | (simp only [d,s,g15,g18];done) | (simp only [d,s,g15,g18];rfl) | (simp only [d,g15,g18];rfl) | (simp only [d];rw [Bool.not_eq_true'] at g15;simp [g15]) | (simp only [d];simp at g15 g18;simp [g15,g18])) g
  intro w4 g;have c4:=c3.trans g;have f:=f.ext g;refine(aS) (fun D=>?_) fun D=>?_
  ·
   skip
   refine(bA) ?_;exact⟨false,rfl,⟨fun h=>(by cases h),fun h=>absurd ((qc p).2 (h.2 i _ (ak p))) (by simp [D])⟩,c4⟩
  refine eD ?_;refine EX.again (i+1) (Sub.k2 rfl rfl<|Sub.cons rfl<|Sub.iX rfl (by simp)<|Sub.nil) ⟨c4,by omega,cJ p u ((qc p).1 D)⟩ (by omega)
 ·
  simp at g8
  have u:∀j y,l[j]?=some y→qb l j y:=fun j x J=>u j x (by have:=(List.getElem?_eq_some_iff.1 J).1;omega) J;refine gK ?_;refine WP .r (PV.ic iV rfl)<|(bA) ?_;exact⟨_,rfl,⟨fun h=>⟨by simp at h;omega,u⟩,fun h=>by have:=h.1;simp;omega⟩,c1⟩
 -- pG gT G17.T
set_option maxHeartbeats 400000
theorem sc(hl:Rd RR.ew 8 Z w a n c l):CR prog 41 #[.slice a n c] w (.bool (qi l)):=
 (tF hl).mono fun _ _ ⟨b,h1,d,e⟩=>⟨by rw [h1,Ef d],e⟩
theorem fx(s:St w M Z w []) (hi:Rd RR.aD 4 Z w a1 n1 e1 x.ab) (hr:Rd RR.ew 8 Z w a2 n2 e2 x.ah) (t:x.ah.length≤1000000) (C:x.ab.length≤1000000):Calls prog 51 #[.agg (x.row a1 n1 e1 a2 n2 e2).toArray] w fun e w'=>∃f g h i j m Z',e=.returned (.agg (x.row f g h i j m).toArray)∧bJ w.heap.size Z Z'∧St w M Z' w' [As.os RR.aD 88 4 f g h x.ab,As.os RR.ew 47 8 i j m x.ah]:=by
 have D:=hi.len;have E:=hr.len;refine enter func51 rfl ntmps51 rfl<|?_;have aQ:=s;have st1:=aQ.fr hi;have st2:=st1.fr hr;have u:=st2.dp RR.aD 88 4;refine(dz) u fun b1 w1 F G v=>?_;refine(eT) v fun b2 w2 H I d=>?_;refine(aZ) kO d.b1<|?_;refine WL.ap rfl rfl d.p2 ((As.gr d.g4)) fun a5 J w3 K L y=>?_;refine nx ?_;refine WL.s1 y.p2 fun w4 _ o=>?_;refine(aZ) dF o.b0<|?_;have b:=o;refine(bY) aee (Cu b.e0 (As.gr b.g3) t) ?_;rintro _ w5 ⟨f1,f2,f3,N,rfl,p,z⟩;have A:=St.lv b z p;have B:=p.le b.size;refine nx ?_;refine WL.s1 A.p1 fun w6 _ q=>?_;refine(aX) aN q.b0<|(cI) dP q.p3 fun w7 O P r=>?_;refine(kV) aN r.b0<|?_;exact⟨_,_,_,_,_,_,_,rfl,B,r.p2.p3.k2⟩
theorem td(hi:Rd RR.aD 4 Z w a1 n1 e1 x.ab) (hr:Rd RR.ew 8 Z w a2 n2 e2 x.ah) {k:Key}:CR prog 55 #[.agg (x.row a1 n1 e1 a2 n2 e2).toArray,k.val] w (.agg (bw x.ab k).cells.toArray):=by
 have hlen:=SR.len hi;have hle:=SR.le hi;refine enter func55 rfl ntmps55 rfl<|?_;have c0:aU [] w w:=aU.refl _ _;refine bO ?_;refine WL.go rfl (OX.box rfl rfl rfl fun b2 w1 H e=>?_);have s1:=H.ext;have U:=H.iG c0;have c1:=c0.trans s1;refine WL.go rfl (OX.box rfl rfl rfl fun b3 w2 u b=>?_);have s2:=u.ext;have V:=u.iG c1;have O:b2≠b3:=u.ne e.lt;have W:b3≠b2:=Ne.symm O;have c2:=c1.trans s2;have e:=e.ext s2;refine WL.go rfl (OX.alloc Nx rfl fun b4 w3 m d=>?_);have v:=m.ext;have J:=m.iG c2;have P:b2≠b4:=m.ne e.lt;have X:b4≠b2:=Ne.symm P;have z:b3≠b4:=m.ne b.lt;have Y:b4≠b3:=Ne.symm z;have c3:=c2.trans v;have e:=e.ext v;have b:=b.ext v;refine dd ?_;refine WP .r (PV.fa vf rfl)<|(aZ) kO e.range<|?_;refine WP .r (PV.ic tE rfl)<|ck ?_;refine WC.loop (σ:=Nat) (dn:=fun i=>[(3,.pointer (some ⟨b3,0,none⟩)),(4,.pointer (some ⟨b4,0,none⟩)),(8,.slice a1 n1 e1),(9,.int .i64 (n1:Int)),(10,.int .i64 (i:Int))]) (I:=fun i w'=>aU [] w w'∧bR w' b3 41 [.int .i64 k.kind,.string k.text]∧bR w' b4 88 [.int .i64 0,.string ⟨#[]⟩,.string ⟨#[]⟩,.int .i64 0]∧i≤n1∧(∀j y,j<i→x.ab[j]?=some y→(y.key == k)=false)) (μ:=fun i=>n1 - i) 0 Sub.t ⟨c3,b,d,by omega,fun j x h=>by omega⟩ ?_;rintro i w4 ⟨c4,b,d,hi1,A⟩;refine(aS) (fun g11=>?_) fun g11=>?_
 ·
  simp at g11
  have B:i<x.ab.length:=by omega
  refine dd ?_;obtain⟨bx1,ox1,rx1,Q,_,C,D,_⟩:=SR.at hi (ak B);have C:=RR.ba C;subst C;have D:=a7 D c4 (by simp);refine nx ?_;refine WP .r (PV.dV tE Q rfl rfl (by omega))<|(aX) mA D<|?_;refine WL.go rfl (OX.alloc Nx rfl fun o w5 s f=>?_);have g:=s.ext;have R:=s.iG c4;have K:b3≠o:=s.ne b.lt;have SI:o≠b3:=Ne.symm K;have L:b4≠o:=s.ne d.lt;have S:o≠b4:=Ne.symm L;have c5:=c4.trans g;have b:=b.ext g;have d:=d.ext g;refine WL.go rfl (OX.mq Ck f rfl rfl rfl rfl rfl fun w6 E _ f=>?_);have N:=c5.own E R;have b:=b.bW E (by simp [K]);have d:=d.bW E (by simp [L]);refine ck ?_;refine WP .r (PV.fa r9 rfl)<|(ia) ao f.range<|(aX) ao b.range<|?_;refine WP .r (PV.Gl fS (p:=x.ab[i].key) (q:=k) rfl rfl)<|(aS) (fun g17=>?_) fun g17=>?_
  ·
   simp at g17
   have F:bw x.ab k=x.ab[i]:=by unfold bw;rw [jv B A (by simpa using g17)];rfl
   refine(aX) mA f.range<|?_;refine WL.go rfl (OX.mq Ck d rfl rfl rfl rfl rfl fun w7 G _ d=>?_);have T:=N.own G J;have b:=b.bW G (by simp [z]);have f:=f.bW G (by simp [S]);refine(kV) mA d.range<|?_;exact⟨by rw [F],T⟩
  simp at g17
  refine eD ?_;refine EX.again (i+1) (Sub.k4 rfl rfl rfl rfl<|Sub.iX rfl (by simp)<|Sub.nil) ⟨N,b,d,by omega,cJ B A (by simpa using g17)⟩ (by omega)
 simp at g11
 have F:bw x.ab k=⟨k,⟨#[]⟩,0⟩:=by unfold bw;rw [nc (i:=i) (by omega) A];rfl
 refine(aX) ao b.range<|?_;refine WP .r (PV.bC (us:=(cB.mk k ⟨#[]⟩ 0).cells) Nv rfl rfl rfl)<|?_;refine WL.go rfl (OX.mq Ck d rfl rfl rfl rfl rfl fun w5 g _ d=>?_);have c5:=c4.own g J;have b:=b.bW g (by simp [z]);refine(kV) mA d.range<|?_;exact⟨by rw [F],c5⟩
theorem se(hi:Rd RR.aD 4 Z w a1 n1 e1 x.ab) (hr:Rd RR.ew 8 Z w a2 n2 e2 x.ah) {k:Key}:CR prog 24 #[.agg (x.row a1 n1 e1 a2 n2 e2).toArray,k.val] w (.string (bw x.ab k).value):=by
 refine enter func24 rfl ntmps24 rfl<|?_;have c0:aU [] w w:=aU.refl _ _;refine bO ?_;refine WL.go rfl (OX.box rfl rfl rfl fun b2 w1 h b=>?_);have s1:=h.ext;have j:=h.iG c0;have c1:=c0.trans s1;refine WL.go rfl (OX.box rfl rfl rfl fun b3 w2 d e=>?_);have s2:=d.ext;have m:=d.iG c1;have i:b2≠b3:=d.ne b.lt;have o:b3≠b2:=Ne.symm i;have c2:=c1.trans s2;have b:=b.ext s2;refine(aX) aN b.range<|(aX) ao e.range<|(bY) W4 (td (k:=k) (hi.ext c2) (hr.ext c2)) ?_;rintro _ w3 ⟨rfl,g⟩;have c3:=c2.trans g;have b:=b.ext g;have e:=e.ext g;refine WP .r (PV.uv (fs:=[_,_,_]) (f:=1) (off:=2) (T:=88) underlying88 rfl rfl (show ∀w,(isAgg 9).run _ w=.ok false w from isAgg9) rfl rfl)<|(bA) ?_;exact⟨rfl,c3⟩
theorem Cw(hi:Rd RR.aD 4 Z w a1 n1 e1 x.ab) (hr:Rd RR.ew 8 Z w a2 n2 e2 x.ah) {k:Key}:CR prog 260 #[.agg (x.row a1 n1 e1 a2 n2 e2).toArray,k.val] w (.int .i64 (bw x.ab k).changed):=by
 refine enter func260 rfl ntmps260 rfl<|?_;have c0:aU [] w w:=aU.refl _ _;refine bO ?_;refine WL.go rfl (OX.box rfl rfl rfl fun b2 w1 h b=>?_);have s1:=h.ext;have j:=h.iG c0;have c1:=c0.trans s1;refine WL.go rfl (OX.box rfl rfl rfl fun b3 w2 d e=>?_);have s2:=d.ext;have m:=d.iG c1;have i:b2≠b3:=d.ne b.lt;have o:b3≠b2:=Ne.symm i;have c2:=c1.trans s2;have b:=b.ext s2;refine(aX) aN b.range<|(aX) ao e.range<|(bY) W4 (td (k:=k) (hi.ext c2) (hr.ext c2)) ?_;rintro _ w3 ⟨rfl,g⟩;have c3:=c2.trans g;have b:=b.ext g;have e:=e.ext g;refine WP .r (PV.uv (fs:=[_,_,_]) (f:=2) (off:=3) (T:=88) underlying88 rfl rfl (show ∀w,(isAgg 3).run _ w=.ok false w from isAgg3) rfl rfl)<|(bA) ?_;exact⟨rfl,c3⟩
theorem jX(hi:Rd RR.aD 4 Z w a1 n1 e1 x.ab) (hr:Rd RR.ew 8 Z w a2 n2 e2 x.ah):Calls prog 12 #[.agg (x.row a1 n1 e1 a2 n2 e2).toArray] w fun e w'=>∃b:Bool,e=.returned (.bool b)∧(b=true↔hV x)∧aU [] w w':=by
 have hlen:=SR.len hi;have hle:=SR.le hi;have vo:=SR.len hr;have vx:=SR.le hr;refine enter func12 rfl ntmps12 rfl<|?_;have c0:aU [] w w:=aU.refl _ _;refine bO ?_;refine WL.go rfl (OX.box rfl rfl rfl fun b1 w1 Yv f=>?_);have s1:=Yv.ext;have aew:=Yv.iG c0;have c1:=c0.trans s1;refine fH ?_;refine WP .r (PV.fa vf rfl)<|(aZ) kO f.range<|?_;refine WP .r (PV.ic tE rfl)<|ck ?_;refine WC.loop (σ:=Nat) (dn:=fun i=>[(1,.pointer (some ⟨b1,0,none⟩)),(8,.slice a1 n1 e1),(9,.int .i64 (n1:Int)),(10,.int .i64 (i:Int))]) (I:=fun i w'=>aU [] w w'∧bR w' b1 31 (x.row a1 n1 e1 a2 n2 e2)∧i≤n1∧∀j y,j<i→x.ab[j]?=some y→ij x.ad x.ab j=false) (μ:=fun i=>n1 - i) 0 Sub.t ⟨c1,f,by omega,fun j y h=>by omega⟩ ?_;rintro i w2 ⟨c2,f,eS,N⟩;refine(aS) (fun g11=>?_) fun g11=>?_
 ·
  simp at g11
  have G:i<x.ab.length:=by omega
  have o:=getElem!_pos x.ab i G;obtain⟨bx1,ox1,rx1,S,_,U,J,_⟩:=SR.at hi (ak G);have U:=RR.ba U;subst U;refine dd ?_;have J:=a7 J c2 (by simp);refine bO ?_;refine WP .r (PV.dV tE S rfl rfl (by omega))<|(aX) mA J<|?_;refine WL.go rfl (OX.alloc Nx rfl fun b4 w3 V s=>?_);have s3:=V.ext;have vq:=V.iG c2;have vy:b1≠b4:=V.ne f.lt;have SJ:b4≠b1:=Ne.symm vy;have c3:=c2.trans s3;have f:=f.ext s3;refine nx ?_;refine WL.go rfl (OX.mq Ck s rfl rfl rfl rfl rfl fun w4 F _ s=>?_);have c4:=c3.own F vq;have f:=f.bW F (by simp [vy]);refine cm ?_;refine WC.ke (t:=59) (v:=.bool (ij x.ad x.ab i)) (aU [] w4) ?_<|?_
  ·
   refine WC.drawn (m:=43) (C:=aU [] w4) (T:=fun _=>aU []) (E:=cF [(2,fun v _=>v=.bool (fN x.ab[i].key)),(7,fun v _=>v=.bool (ay x.ab[i].key)),(23,fun v _=>v=.int .i64 (bD x.ab[i - 1].key x.ab[i].key))]) (bj (⟨fun _ _ _ _ _ _ _ h=>h,⟨fun _ _ _ _ _ _ _ h=>h,⟨fun _ _ _ _ _ _ _ h=>h,trivial⟩⟩⟩)) mixed (by kernel_rfl) (aU.drew _ _)<|?_;refine DP .r (fun _ g=>PV.fa r9 rfl)<|DP .r (fun _ g=>PV.wA ao (s.ext g).range rfl rfl)<|?_;refine DW.e rfl rfl rfl rfl rfl (fun wx g hF=>OX.call KC rfl rfl ((iO (k:=x.ab[i].key)).mono ?_))<|?_
   ·
    rintro _ wy ⟨rfl,H⟩;exact⟨_,rfl,g.trans H,H,_,rfl,rfl⟩
   rintro _ wz _ rfl;refine(om) (fun g19=>?_) (fun g19=>?_)
   ·
    refine aW ?_;refine aW ?_;refine aW ?_;refine(cS) ?_;rintro w5 d _;have c5:=c4.trans d;have f:=f.ext d;have s:=s.ext d;exact(bZ) (by unfold ij;first | (simp only [o,B,g19];done) | (simp only [o,B,g19];rfl) | (simp only [o,g19];rfl) | (simp only [o,g19];done)) d
   refine DP .r (fun _ g=>PV.fa r9 rfl)<|DP .r (fun _ g=>PV.wA ao (s.ext g).range rfl rfl)<|?_;refine DW.e rfl rfl rfl rfl rfl (fun wx g hF=>OX.call H3 rfl rfl ((ei (k:=x.ab[i].key)).mono ?_))<|?_
   ·
    rintro _ wy ⟨rfl,H⟩;exact⟨_,rfl,g.trans H,H,_,rfl,rfl⟩
   rintro _ wz _ rfl;refine(om) (fun p=>?_) (fun p=>?_)
   ·
    refine aW ?_;refine aW ?_;refine(cS) ?_;rintro w5 d _;have c5:=c4.trans d;have f:=f.ext d;have s:=s.ext d;exact(bZ) (by unfold ij;first | (simp only [o,B,g19,p];done) | (simp only [o,B,g19,p];rfl) | (simp only [o,g19,p];rfl) | (simp only [o,g19,p];done)) d
   refine(om) (fun u=>?_) (fun u=>?_)
   ·
    have UY:i - 1<x.ab.length:=by omega
    have B:=getElem!_pos x.ab (i - 1) UY;have aev:=of_decide_eq_true u;obtain⟨bx2,ox2,rx2,DS,_,W,X,_⟩:=SR.at hi (ak UY);have W:=RR.ba W;subst W;have X:=a7 X c4 (by simp);refine DP .r (fun _ g=>PV.fa vf rfl)<|DP .r (fun _ g=>PV.ld1 kO (f.ext g).range rfl rfl)<|bO ?_;refine DP .r (fun _ g=>PV.D3 tE (i - 1) DS rfl rfl (by omega) (by omega))<|DP .r (fun _ g=>PV.fa r9 rfl)<|DP .r (fun _ g=>PV.wA ao (a7 X g (by simp)) rfl rfl)<|DP .r (fun _ g=>PV.fa r9 rfl)<|DP .r (fun _ g=>PV.wA ao (s.ext g).range rfl rfl)<|?_;refine DW.e rfl rfl rfl rfl rfl (fun wx g hF=>OX.call Sn rfl rfl ((j9 (k:=x.ab[i - 1].key) (q:=x.ab[i].key)).mono ?_))<|?_
    ·
     rintro _ wy ⟨rfl,H⟩;exact⟨_,rfl,g.trans H,H,_,rfl,rfl⟩
    rintro _ wz _ rfl;refine(om) (fun D=>?_) (fun D=>?_)
    ·
     refine aW ?_;refine(cS) ?_;rintro w5 d _;have c5:=c4.trans d;have f:=f.ext d;have s:=s.ext d;exact(bZ) (by unfold ij;first | (simp only [o,B,g19,p,u,D];done) | (simp only [o,B,g19,p,u,D];rfl) | (simp only [o,g19,p,u,D];rfl) | (simp only [o,g19,p,u,D];done)) d
    refine DP .r (fun _ g=>PV.fa Fb rfl)<|DP .r (fun _ g=>PV.ld1 e7 (s.ext g).range rfl rfl)<|DP .r (fun _ g=>PV.tY r6 rfl)<|(om) (fun z=>?_) (fun z=>?_)
    ·
     refine(cS) ?_;rintro w5 d _;have c5:=c4.trans d;have f:=f.ext d;have s:=s.ext d;exact(bZ) (by unfold ij;first | (simp only [o,B,g19,p,u,D,z];done) | (simp only [o,B,g19,p,u,D,z];rfl) | (simp only [o,g19,p,u,D,z];rfl) | (simp only [o,g19,p,u,D,z];done)) d
    refine DP .r (fun _ g=>PV.fa vi rfl)<|DP .r (fun _ g=>PV.ld1 aO (s.ext g).range rfl rfl)<|(om) (fun A=>?_) (fun A=>?_)
    ·
     refine(cS) ?_;rintro w5 d _;have c5:=c4.trans d;have f:=f.ext d;have s:=s.ext d;exact(bZ) (by unfold ij;first | (simp only [o,B,g19,p,u,D,z,A];done) | (simp only [o,B,g19,p,u,D,z,A];rfl) | (simp only [o,g19,p,u,D,z,A];rfl) | (simp only [o,g19,p,u,D,z,A];done)) d
    refine DP .r (fun _ g=>PV.fa vi rfl)<|DP .r (fun _ g=>PV.ld1 aO (s.ext g).range rfl rfl)<|DP .r (fun _ g=>PV.fa lh rfl)<|DP .r (fun _ g=>PV.ld1 aO (f.ext g).range rfl rfl)<|(cS)<|?_;rintro w5 d _;have c5:=c4.trans d;have f:=f.ext d;have s:=s.ext d;exact(bZ) (by unfold ij;first | (simp only [o,B,g19,p,u,D,z,A];done) | (simp only [o,B,g19,p,u,D,z,A];rfl) | (simp only [o,g19,p,u,D,z,A];rfl) | (simp only [o,g19,p,u,D,z,A];done)) d
   refine aW ?_;refine bO ?_;refine DP .r (fun _ g=>PV.fa Fb rfl)<|DP .r (fun _ g=>PV.ld1 e7 (s.ext g).range rfl rfl)<|DP .r (fun _ g=>PV.tY r6 rfl)<|(om) (fun z=>?_) (fun z=>?_)
   ·
    refine(cS) ?_;rintro w5 d _;have c5:=c4.trans d;have f:=f.ext d;have s:=s.ext d;exact(bZ) (by unfold ij;first | (simp only [o,B,g19,p,u,z];done) | (simp only [o,B,g19,p,u,z];rfl) | (simp only [o,g19,p,u,z];rfl) | (simp only [o,g19,p,u,z];done)) d
   refine DP .r (fun _ g=>PV.fa vi rfl)<|DP .r (fun _ g=>PV.ld1 aO (s.ext g).range rfl rfl)<|(om) (fun A=>?_) (fun A=>?_)
   ·
    refine(cS) ?_;rintro w5 d _;have c5:=c4.trans d;have f:=f.ext d;have s:=s.ext d;exact(bZ) (by unfold ij;first | (simp only [o,B,g19,p,u,z,A];done) | (simp only [o,B,g19,p,u,z,A];rfl) | (simp only [o,g19,p,u,z,A];rfl) | (simp only [o,g19,p,u,z,A];done)) d
   refine DP .r (fun _ g=>PV.fa vi rfl)<|DP .r (fun _ g=>PV.ld1 aO (s.ext g).range rfl rfl)<|DP .r (fun _ g=>PV.fa lh rfl)<|DP .r (fun _ g=>PV.ld1 aO (f.ext g).range rfl rfl)<|(cS)<|?_;rintro w5 d _;have c5:=c4.trans d;have f:=f.ext d;have s:=s.ext d;exact(bZ) (by unfold ij;first | (simp only [o,B,g19,p,u,z,A];done) | (simp only [o,B,g19,p,u,z,A];rfl) | (simp only [o,g19,p,u,z,A];rfl) | (simp only [o,g19,p,u,z,A];done)) d
  intro w5 d;have c5:=c4.trans d;have f:=f.ext d;have s:=s.ext d;refine(aS) (fun Y=>?_) fun Y=>?_
  ·
   skip
   refine(bA) ?_;exact⟨false,rfl,⟨fun h=>(by cases h),fun h=>absurd (h.1 i _ (ak G)) (by simp [Y])⟩,c5⟩
  refine eD ?_;refine EX.again (i+1) (Sub.k2 rfl rfl<|Sub.cons rfl<|Sub.iX rfl (by simp)<|Sub.nil) ⟨c5,f,by omega,cJ (P:=fun j _=>ij x.ad x.ab j=false) G N Y⟩ (by omega)
 simp at g11
 have N:yU x.ad x.ab:=fun j y K=>N j y (by have:=(List.getElem?_eq_some_iff.1 K).1;omega) K;refine gK ?_;refine WP .r (PV.fa r7 rfl)<|(aZ) dF f.range<|?_;refine WP .r (PV.ic iV rfl)<|ck ?_;refine WC.loop (σ:=Nat) (dn:=fun i=>[(1,.pointer (some ⟨b1,0,none⟩)),(62,.slice a2 n2 e2),(63,.int .i64 (n2:Int)),(64,.int .i64 (i:Int))]) (I:=fun i w'=>aU [] w w'∧bR w' b1 31 (x.row a1 n1 e1 a2 n2 e2)∧i≤n2∧∀(j:Nat) (y:Rec),j<i→x.ah[j]?=some y→y.av≤x.ad) (μ:=fun i=>n2 - i) 0 Sub.t ⟨c2,f,by omega,fun j y h=>by omega⟩ ?_;rintro i2 w3 ⟨c3,f,anr,O⟩;refine(aS) (fun KU=>?_) fun KU=>?_
 ·
  simp at KU
  have G:i2<x.ah.length:=by omega
  obtain⟨bx1,ox1,rx1,S,_,⟨q1,q2,q3,rfl,IQ,DT⟩,J,_⟩:=SR.at hr (ak G);refine dd ?_;have J:=a7 J c3 (by simp);refine nx ?_;refine WP .r (PV.dV iV S rfl rfl (by omega))<|(aX) dh J<|?_;refine WL.go rfl (OX.alloc nJ rfl fun b6 w4 Fi KW=>?_);have F:=Fi.ext;have Fo:=Fi.iG c3;have vz:b1≠b6:=Fi.ne f.lt;have SK:b6≠b1:=Ne.symm vz;have c4:=c3.trans F;have f:=f.ext F;refine WL.go rfl (OX.mq fI KW rfl rfl rfl rfl rfl fun w5 d _ KW=>?_);have c5:=c4.own d Fo;have f:=f.bW d (by simp [vz]);refine ck ?_;refine WP .r (PV.fa pE rfl)<|(aZ) aO KW.range<|?_;refine WP .r (PV.fa lh rfl)<|(aZ) aO f.range<|(aS) (fun Q=>?_) fun Q=>?_
  ·
   simp at Q
   refine(bA) ?_;exact⟨false,rfl,⟨fun h=>(by cases h),fun h=>absurd (h.2.1 i2 _ (ak G)) (by omega)⟩,c5⟩
  simp at Q
  refine eD ?_;refine EX.again (i2+1) (Sub.k2 rfl rfl<|Sub.cons rfl<|Sub.iX rfl (by simp)<|Sub.nil) ⟨c5,f,by omega,cJ (P:=fun _ (y:Rec)=>y.av≤x.ad) G O Q⟩ (by omega)
 simp at KU
 have O:∀(j:Nat) (y:Rec),x.ah[j]?=some y→y.av≤x.ad:=fun j y K=>O j y (by have:=(List.getElem?_eq_some_iff.1 K).1;omega) K;refine fH ?_;refine WC.lE (t:=2) (v:=.bool (lY x)) (aU [] w3) ?_<|?_
 ·
  refine nx ?_;refine WP .r (PV.fa lh rfl)<|(aZ) aO f.range<|(de) (fun L=>?_) (fun L=>?_)
  ·
   refine WP .r (PV.fa lh rfl)<|(aZ) aO f.range<|(de) (fun R=>?_) (fun R=>?_)
   ·
    refine WP .r (PV.fa vf rfl)<|(aZ) kO f.range<|?_;refine WP .r (PV.ic tE rfl)<|(de) (fun Yw=>?_) (fun Yw=>?_)
    ·
     refine WP .r (PV.fa r7 rfl)<|(aZ) dF f.range<|(bY) adK (sc (hr.ext c3)) ?_;rintro _ w4 ⟨rfl,F⟩;have c4:=c3.trans F;have f:=f.ext F;exact(gu) (by unfold lY;simp only [L,R,Yw,← hlen];first | rfl | simp) F
    exact(gu) (by unfold lY;simp only [L,R,Yw,← hlen];first | rfl | simp) (aU.refl _ _)
   exact(gu) (by unfold lY;simp only [L,R,← hlen];first | rfl | simp) (aU.refl _ _)
  refine aW ?_;exact(gu) (by unfold lY;simp only [L,← hlen];first | rfl | simp) (aU.refl _ _)
 intro w4 F;have c4:=c3.trans F;have f:=f.ext F;refine(bA) ?_;exact⟨_,rfl,⟨fun h=>by have:=(sJ x).1 h;exact⟨N,O,this⟩,fun h=>(sJ x).2 h.2.2⟩,c4⟩
end Go.Rc

