/- Walks over the program, part WF. Conditions: as each theorem says. -/
import Derived.Test.YtcongbofepbmeaaGreatDoorFFacts
import Derived.Test.YtcongbofepbmeaaGreatDoorFWB
import Derived.Test.YtcongbofepbmeaaGreatDoorFBe
set_option linter.all false
namespace Go.Rc
open Go Go.Proofs Go.Proofs.Tryz
variable {x:cA}{a a2 a1:Option Addr}{n c n2 e2 n1 e1:Nat}{w:World}{M Z:Nat→Prop}{l:List Rec}{k:Key}
set_option maxHeartbeats 400000
theorem iF{x:Rec}(j:St w M Z w []) (hk:Rd RR.key 2 Z w a n c x.reads) (p:x.reads.length≤4000):Calls prog 172 #[.agg (x.row a n c).toArray] w fun e w'=>∃d f g,e=.returned (.agg (x.row d f g).toArray)∧St w M Z w' [As.os RR.key 29 2 d f g x.reads]:=by
 have q:=hk.len;refine enter func172 rfl ntmps172 rfl<|?_;have aR:=j;have st1:=aR.fr hk;have st2:=st1.df RR.key 29 2;refine(dE) st2 fun b1 w1 r s m=>?_;refine(ff) m fun b2 w2 t u b=>?_;refine(aU) eZ b.b1<|?_;refine WL.ap rfl rfl b.p2 ((As.gr b.g3)) fun a5 v w3 y z o=>?_;refine nx ?_;refine WL.s1 o.p2 fun w4 _ h=>?_;refine(aT) dA h.b0<|(cD) gp h.p2 fun w5 A B i=>?_;refine(ky) dA i.b0<|?_;exact⟨_,_,_,rfl,i.p2.k1⟩
theorem Bb(D:St w M Z w []) (hl:Rd RR.ed 8 Z w a n c l) (Y:l.length≤1000000):Calls prog 94 #[.slice a n c] w fun e w'=>∃q s u Z',e=.returned (.slice q s u)∧bA w.heap.size Z Z'∧St w M Z' w' [As.os RR.ed 34 8 q s u l]:=by
 have hlen:=hl.len;have hle:=hl.le;refine enter func94 rfl ntmps94 rfl<|?_;have aR:=D;have st1:=aR.fr hl;have st2:=st1.df RR.ed 34 8;refine aO ?_;refine eP ?_;refine WC.ie (σ:=Nat × (Nat→Prop) × (List Rec) × (Option Addr) × Nat × Nat) (dm:=fun(i,d,acc,f,b,g)=>[(3,.slice f b g),(6,.slice a n c),(7,.int .i64 (n:Int)),(8,.int .i64 (i:Int))]) (F:=fun(i,d,acc,f,b,g)=>[As.os RR.ed 34 8 f b g (acc)]) (I:=fun(i,d,acc,f,b,g)=>(i≤n)∧(bA w.heap.size Z d)∧(acc=l.take i)∧True) (μ:=fun(i,d,acc,f,b,g)=>n - i) (Zf:=fun(i,d,acc,f,b,g)=>d) (0,Z,[],none,0,0) (st2) Sub.t (⟨by omega,bA.refl _ _,by simp,trivial⟩)<|?_;rintro⟨i,d,acc,f,b,g⟩ w1 h ⟨hi,o,j,_⟩;simp only [CA,NA] at h hi o j ⊢;have r7:=((As.gs h.g0)).len
 have Lc:acc.length≤1000000:=by rw [j,List.length_take];omega
 refine(aN) (fun g9=>?_) fun g9=>?_
 ·
  simp at g9
  have v:i<l.length:=by omega
  refine cS ?_;obtain⟨ia,lP,lk,E,gP,G,H,J⟩:=Rd.at (As.gr h.g1) v;obtain⟨q1,q2,q3,rfl,K,y⟩:=G;have L:=h.fg J H;have z:=L.fr K;refine nx ?_;refine WP .r (PV.ei iy E rfl rfl (by omega))<|(aT) dA (As.ma z.g1)<|(ff) z fun b5 w2 EV EW N=>?_;refine(cD) gp N fun w3 ko ly B=>?_;refine(aT) dA B.b0<|?_;have m:=B;refine(bL) EP (iF m.e0 (As.gr m.g1) y) ?_;rintro _ w4 ⟨e1,e2,e3,rfl,C⟩;have O:=St.lr m C;have P:=St.bB C;have hsz:=m.size;have Q:=O.a8 (by omega);have R:=o.trans (bA.dx (F:=fun x=>x∈aG e1) P) hsz;refine WL.go rfl (OX.aP (us:=l[i].row e1 e2 e3) oF rfl rfl rfl rfl fun b15 w5 S T=>?_);have p:=Q.dy S T;refine WL.ap rfl rfl p.p5 (SR.dn (A:=fun _=>True) (x:=l[i]) (As.gb p.g0) trivial rfl (Rec.one _ _ _ _) ⟨e1,e2,e3,rfl,(As.gr p.g1),y⟩) fun U V w6 ahk ahl W=>?_;refine iC ?_;refine dY (i+1,_,acc++[l[i]],U,(b+1),V) ⟨W.p6.p1.k2,⟨by omega,R,by rw [j,List.take_succ_eq_append_getElem v],trivial⟩⟩
 simp at g9
 have X:acc=l:=by rw [j];exact List.take_of_length_le (by omega)
 subst X;refine(bm) ?_;exact⟨_,_,_,_,rfl,o,h.p1.drop⟩
theorem iW(D:St w M Z w []) (hl:Rd RR.ed 8 Z w a n c l):Calls prog 182 #[.slice a n c,k.val] w fun e w'=>∃y z A,e=.returned (.tuple #[.agg ((aF l k).row y z A).toArray,.bool (aH l k).isSome])∧(aF l k).reads.length≤4000∧St w M Z w' [As.os RR.key 29 2 y z A (aF l k).reads]:=by
 have hlen:=hl.len;have hle:=hl.le;refine enter func182 rfl ntmps182 rfl<|?_;have aR:=D;have st1:=aR.fr hl;refine(dE) st1 fun b3 w1 Q R st2=>?_;refine(ff) st2 fun b4 w2 S T E=>?_;refine aO ?_;refine WC.bd (σ:=Nat) (dm:=fun i=>[(3,.pointer (some ⟨b3,0,none⟩)),(4,.pointer (some ⟨b4,0,none⟩)),(8,.slice a n c),(9,.int .i64 (n:Int)),(10,.int .i64 (i:Int))]) (F:=fun i=>[]) (I:=fun i=>(i≤n)∧(∀j x,j<i→l[j]?=some x→(x.key == k)=false)∧True) (μ:=fun i=>n - i) (0) (E) Sub.t (⟨by omega,fun j x h=>by omega,trivial⟩)<|?_;rintro i w3 m ⟨hi,o,_⟩;simp only [CA,NA] at m hi o ⊢;refine(aN) (fun g11=>?_) fun g11=>?_
 ·
  simp at g11
  have s:i<l.length:=by omega
  refine cS ?_;obtain⟨U,V,W,G,X,H,J,K⟩:=Rd.at (As.gr m.g2) s;obtain⟨q1,Y,q3,rfl,L,B⟩:=H;have u:=m.fg K J;have d:=u.fr L;refine nx ?_;refine WP .r (PV.ei iy G rfl rfl (by omega))<|(aT) dA (As.ma d.g1)<|(ff) d fun b7 w4 Um Un N=>?_;refine(cD) gp N fun w5 ko ly f=>?_;refine(il) ak f.b0<|(aT) ak f.b4<|?_;refine WP .r (PV.Fg ft (p:=l[i].key) (q:=k) rfl rfl)<|(aN) (fun g17=>?_) fun g17=>?_
  ·
   simp at g17
   have g:aH l k=some l[i]:=kf s o (by simpa using g17)
   have b:aF l k=l[i]:=by unfold aF;rw [g];rfl
   refine(aT) dA f.b0<|?_;have v:=f;refine(bL) EP (iF v.e0 (As.gr v.g1) B) ?_;rintro _ w6 ⟨e1,e2,e3,rfl,O⟩;have P:=St.lr v O;refine(cD) gp P.p4 fun w7 r8 mr C=>?_;refine kQ ?_;refine EX.fL rfl (RS.cell dA rfl C.b0 rfl<|RS.tmp rfl<|RS.nil) rfl<|?_;exact⟨e1,e2,e3,by rw [g,b];rfl,by rw [b];exact B,by rw [b];exact C.p1.k1⟩
  simp at g17
  refine eP ?_;refine dY (i+1) ⟨f.p5.p5.p5.k3,⟨by omega,bO s o (by simpa using g17),trivial⟩⟩
 simp at g11
 have g:aH l k=none:=sV (i:=i) (by omega) o
 have b:aF l k=zG:=by unfold aF;rw [g];rfl
 have u:=m.df RR.key 29 2;refine(cD) gp u.p1 fun w4 Bc wQ d=>?_;refine cX ?_;refine EX.fL rfl (RS.cell dA rfl d.b0 rfl<|RS.tmp rfl<|RS.nil) rfl<|?_;exact⟨none,0,0,by rw [g,b];rfl,by rw [b];simp [zG],by rw [b];exact d.p1.k1⟩
theorem dN(hl:Rd RR.ed 8 Z w a n c l):Calls prog 182 #[.slice a n c,k.val] w fun e w'=>∃b d f,e=.returned (.tuple #[.agg ((aF l k).row b d f).toArray,.bool (aH l k).isSome])∧aQ [] w w':=
 (iW (M:=fun _=>False) (St.start fun _ g=>g.2) hl.cut).mono fun _ _ ⟨b,d,f,h1,_,h⟩=>⟨b,d,f,h1,h.cg⟩
theorem Bd{x:Rec}(h1:x.key.text.size≤4611686018427) (e:x.value.size≤4611686018427) (f:n≤4611686018427):CR prog 181 #[.agg (x.row a n c).toArray] w (.int .i64 (16+x.key.text.size+x.value.size+8*n:Int)):=by
 refine enter func181 rfl ntmps181 rfl<|?_;have c0:aQ [] w w:=aQ.refl _ _;refine bz ?_;refine WL.go rfl (OX.box rfl rfl rfl fun b1 w1 d b=>?_);have s1:=d.ext;have g:=d.gS c0;have c1:=c0.trans s1;refine cS ?_;refine WP .r (PV.fa oI rfl)<|WP .r (PV.fa oH rfl)<|(aU) eY b.range<|?_;refine WP .r (PV.sH qn rfl)<|nx ?_;refine WP .r (PV.fa uh rfl)<|(aU) eY b.range<|?_;refine WP .r (PV.sH qn rfl)<|nx ?_;refine WP .r (PV.fa yp rfl)<|(aU) eZ b.range<|?_;refine WP .r (PV.gE eI rfl)<|WP .r (PV.mul rfl rfl (by omega) (by omega))<|(bm) ?_;exact⟨rfl,c1⟩
theorem rF(D:St w M Z w []) (hl:Rd RR.ed 8 Z w a n c l) (W:l.length≤1000000):Calls prog 104 #[.slice a n c,k.val] w fun e w'=>∃s u v,e=.returned (.slice s u v)∧St w M Z w' [As.os RR.ed 34 8 s u v (gh l k)]:=by
 have hlen:=hl.len;refine enter func104 rfl ntmps104 rfl<|?_;have aR:=D;have st1:=aR.fr hl;have st2:=st1.df RR.ed 34 8;refine(dE) st2 fun b3 w1 X Y E=>?_;refine aO ?_;refine cS ?_;refine WC.bd (σ:=Nat × (List Rec) × (Option Addr) × Nat × Nat) (dm:=fun(i,acc,d,b,f)=>[(3,.pointer (some ⟨b3,0,none⟩)),(5,.slice d b f),(8,.slice a n c),(9,.int .i64 (n:Int)),(10,.int .i64 (i:Int))]) (F:=fun(i,acc,d,b,f)=>[As.os RR.ed 34 8 d b f (acc)]) (I:=fun(i,acc,d,b,f)=>(i≤n)∧(acc=gh (l.take i) k)∧True) (μ:=fun(i,acc,d,b,f)=>n - i) (0,[],none,0,0) (E.p1) Sub.t (⟨by omega,by simp [gh],trivial⟩)<|?_;rintro⟨i,acc,d,b,f⟩ w2 g ⟨hi,h,_⟩;simp only [CA,NA] at g hi h ⊢;have r7:=((As.gs g.g0)).len;have G:=pV (l.take i) k
 have ahm:acc.length≤1000000:=by rw [List.length_take,← h] at G;omega
 refine(aN) (fun g11=>?_) fun g11=>?_
 ·
  simp at g11
  have y:i<l.length:=by omega
  have m:=Cp (k:=k) y;refine cS ?_;obtain⟨ia,lP,lk,H,gP,J,K,L⟩:=Rd.at (As.gr g.g2) y;obtain⟨q1,z,B,rfl,N,O⟩:=J;have P:=g.fg L K;have C:=P.fr N;refine nx ?_;refine WP .r (PV.ei iy H rfl rfl (by omega))<|(aT) dA (As.ma C.g1)<|(ff) C fun b7 w3 Um Un Q=>?_;refine(cD) gp Q fun w4 ko ly j=>?_;refine(il) ak j.b0<|(aT) ak j.b4<|?_;refine WP .r (PV.Hg ft (p:=l[i].key) (q:=k) rfl rfl)<|(aN) (fun g17=>?_) fun g17=>?_
  ·
   simp at g17
   rw [if_neg g17] at m;refine(aT) dA j.b0<|?_;refine WL.go rfl (OX.aP (us:=l[i].row q1 z B) oF rfl rfl rfl rfl fun W8 w5 R S=>?_);have o:=j.dy R S;refine WL.ap rfl rfl o.p4 (SR.dn (A:=fun _=>True) (x:=l[i]) (As.gb o.g0) trivial rfl (Rec.one _ _ _ _) ⟨q1,z,B,rfl,(As.gr o.g2),O⟩) fun a21 T w6 ahn aho U=>?_;refine iC ?_;refine dY (i+1,acc++[l[i]],a21,(b+1),T) ⟨U.p6.p6.p2.k3,⟨by omega,by rw [m,h],trivial⟩⟩
  simp at g17
  rw [if_pos g17] at m;refine eP ?_;refine dY (i+1,acc,d,b,f) ⟨j.p5.p5.p5.k3,⟨by omega,by rw [m,h],trivial⟩⟩
 simp at g11
 have V:acc=gh l k:=by rw [h,List.take_of_length_le (by omega)]
 subst V;refine(bm) ?_;exact⟨_,_,_,rfl,g.p1.drop.p1.drop⟩
theorem uz{x:Rec}(gg:St w M Z w []) (hl:Rd RR.ed 8 Z w a n c l) (h6:l.length≤1000000) (hx:Rd RR.key 2 Z w a2 n2 e2 x.reads) (C:x.reads.length≤4000):Calls prog 355 #[.slice a n c,.agg (x.row a2 n2 e2).toArray] w fun e w'=>∃U V W Z',e=.returned (.slice U V W)∧bA w.heap.size Z Z'∧St w M Z' w' [As.os RR.ed 34 8 U V W (fb l x)]:=by
 have hlen:=hl.len;refine enter func355 rfl ntmps355 rfl<|?_;have aR:=gg;have st1:=aR.fr hl;have st2:=st1.fr hx;have j5:=st2.df RR.ed 34 8;refine(dE) j5 fun b3 w1 GS xy i6=>?_;refine aO ?_;refine j8 ?_;refine WC.ie (σ:=Nat × Bool × (Nat→Prop) × (List Rec) × (Option Addr) × Nat × Nat) (dm:=fun(i,put,m,out,g,b,h)=>[(3,.pointer (some ⟨b3,0,none⟩)),(5,.slice g b h),(6,.bool put),(10,.slice a n c),(11,.int .i64 (n:Int)),(12,.int .i64 (i:Int))]) (F:=fun(i,put,m,out,g,b,h)=>[As.os RR.ed 34 8 g b h (out)]) (I:=fun(i,put,m,out,g,b,h)=>(i≤n)∧(bA w.heap.size Z m)∧(out++eL x (l.drop i) put=fb l x)∧True) (μ:=fun(i,put,m,out,g,b,h)=>n - i) (Zf:=fun(i,put,m,out,g,b,h)=>m) (0,false,Z,[],none,0,0) (i6.p1) Sub.t (⟨by omega,bA.refl _ _,rfl,trivial⟩)<|?_;rintro⟨i,put,m,out,g,b,h⟩ w2 o ⟨hi,s,hinv,_⟩;simp only [CA,NA] at o hi s hinv ⊢;have r7:=((As.gs o.g0)).len
 have W9:out.length≤1000001:=by have h1:=congrArg List.length hinv;have h2:=pU x l false;simp only [fb,List.length_append] at h1;omega
 refine(aN) (fun g13=>?_) fun g13=>?_
 ·
  simp at g13
  have X:i<l.length:=by omega
  have Y:eL x (l.drop i) put=(if decide (0≤bp l[i].key x.key) && !put then [x] else [])++(if bp l[i].key x.key=0 then [] else [l[i]])++eL x (l.drop (i+1)) (put || decide (0≤bp l[i].key x.key)):=by rw [List.drop_eq_getElem_cons X];rfl
  refine cS ?_;obtain⟨ia,lP,lk,ck,gP,fT,e5,e6⟩:=Rd.at (As.gr o.g3) X;obtain⟨q1,D,E,rfl,Gj,Dx⟩:=fT;have u:=o.fg e6 e5;have G:=u.fr Gj;refine nx ?_;refine WP .r (PV.ei iy ck rfl rfl (by omega))<|(aT) dA (As.ma G.g1)<|(ff) G fun b8 w3 Js Uo K=>?_;refine(cD) gp K fun w4 ko ly p=>?_;refine(il) ak p.b0<|(il) ak p.b4<|(dH) (jA (k:=l[i].key) (q:=x.key)) p fun w5 s5 y=>?_;refine cS ?_;refine WC.cI (t:=26) (v:=.bool (decide (0≤bp l[i].key x.key) && !put)) y ?_<|?_
  ·
   refine(bW) (fun g23=>?_) (fun g23=>?_)
   ·
    exact(br) (by simp only [g23];first | rfl | simp) (y)
   exact(br) (by simp only [g23];first | rfl | simp) (y)
  intro w6 z;refine(aN) (fun H=>?_) fun H=>?_
  ·
   simp at H
   obtain⟨hA,hB⟩:=H;subst hB
   have f:eL x (l.drop i) false=[x]++(if bp l[i].key x.key=0 then [] else [l[i]])++eL x (l.drop (i+1)) true:=by rw [Y];simp [hA]
   refine(aT) dA z.b4<|?_;have j:=z;refine(bL) EP (iF j.e0 (As.gr j.g5) C) ?_;rintro _ w7 ⟨f1,f2,f3,rfl,jb⟩;have L:=St.lr j jb;have N:=St.bB jb;have hsz:=j.size;have cF:=L.a8 (by omega);have J:=s.trans (bA.dx (F:=fun x=>x∈aG f1) N) hsz;refine WL.go rfl (OX.aP (us:=x.row f1 f2 f3) oF rfl rfl rfl rfl fun ZD w8 Up Uq=>?_);have O:=cF.dy Up Uq;refine WL.ap rfl rfl O.p5 (SR.dn (A:=fun _=>True) (x:=x) (As.gb O.g0) trivial rfl (Rec.one _ _ _ _) ⟨f1,f2,f3,rfl,(As.gr O.g1),C⟩) fun a31 ZE w9 ahp ahq P=>?_;refine(aN) (fun d=>?_) fun d=>?_
   ·
    simp at d
    rw [if_neg d] at f;refine(aT) dA P.b3<|?_;refine WL.go rfl (OX.aP (us:=l[i].row q1 D E) oF rfl rfl rfl rfl fun b36 jB Q R=>?_);have S:=P.dy Q R;refine WL.ap rfl rfl S.p1 (SR.dn (A:=fun _=>True) (x:=l[i]) (As.gb S.g0) trivial rfl (Rec.one _ _ _ _) ⟨q1,D,E,rfl,(As.gr S.g5),Dx⟩) fun a37 T iV Ur Us fH=>?_;refine iC ?_;refine dY (i+1,true,_,_,a37,((b+1)+1),T) ⟨fH.p9.p9.p9.p3.k4,⟨by omega,J,by rw [← hinv,f];simp,trivial⟩⟩
   simp at d
   rw [if_pos d] at f;refine eP ?_;refine dY (i+1,true,_,_,a31,(b+1),ZE) ⟨P.p8.p8.p8.p3.k4,⟨by omega,J,by rw [← hinv,f];simp,trivial⟩⟩
  have f:eL x (l.drop i) put=[]++(if bp l[i].key x.key=0 then [] else [l[i]])++eL x (l.drop (i+1)) put:=by
   rw [Y]
   cases put
   ·
    simp at H;rw [decide_eq_false (by omega)];rfl
   simp
  refine(aN) (fun d=>?_) fun d=>?_
  ·
   simp at d
   rw [if_neg d] at f;refine(aT) dA z.b0<|?_;refine WL.go rfl (OX.aP (us:=l[i].row q1 D E) oF rfl rfl rfl rfl fun b36 w7 Q R=>?_);have j:=z.dy Q R;refine WL.ap rfl rfl j.p4 (SR.dn (A:=fun _=>True) (x:=l[i]) (As.gb j.g0) trivial rfl (Rec.one _ _ _ _) ⟨q1,D,E,rfl,(As.gr j.g2),Dx⟩) fun a37 T w8 Ur Us L=>?_;refine iC ?_;refine dY (i+1,put,_,_,a37,(b+1),T) ⟨L.p7.p7.p7.p3.k4,⟨by omega,s,by rw [← hinv,f];simp,trivial⟩⟩
  simp at d
  rw [if_pos d] at f;refine eP ?_;refine dY (i+1,put,_,_,g,b,h) ⟨z.p6.p6.p6.p6.k4,⟨by omega,s,by rw [← hinv,f];simp,trivial⟩⟩
 simp at g13
 have hV:l.drop i=[]:=List.drop_eq_nil_of_le (by omega);rw [hV] at hinv;refine(aN) (fun B=>?_) fun B=>?_
 ·
  simp at B
  subst B;refine(aT) dA o.b1<|?_;have u:=o;refine(bL) EP (iF u.e0 (As.gr u.g2) C) ?_;rintro _ w3 ⟨f1,f2,f3,rfl,lQ⟩;have G:=St.lr u lQ;have N:=St.bB lQ;have hsz:=u.size;have K:=G.a8 (by omega);have J:=s.trans (bA.dx (F:=fun x=>x∈aG f1) N) hsz;refine WL.go rfl (OX.aP (us:=x.row f1 f2 f3) oF rfl rfl rfl rfl fun b44 w4 ZF ZG=>?_);have p:=K.dy ZF ZG;refine WL.ap rfl rfl p.p2 (SR.dn (A:=fun _=>True) (x:=x) (As.gb p.g0) trivial rfl (Rec.one _ _ _ _) ⟨f1,f2,f3,rfl,(As.gr p.g1),C⟩) fun a45 Ut w5 Uu ZH y=>?_;refine(bm) ?_;exact⟨_,_,_,_,rfl,J,by rw [← hinv];exact y.k1⟩
 simp at B
 subst B;refine(bm) ?_;exact⟨_,_,_,_,rfl,s,by rw [← hinv];simp only [eL,List.append_nil,if_true];exact o.k1⟩
theorem yw{x:Rec}(hk:Rd RR.key 2 Z w a n c x.reads):CR prog 173 #[.agg (x.row a n c).toArray] w (.bool (dc x)):=by
 have hlen:=SR.len hk;have hle:=SR.le hk;refine enter func173 rfl ntmps173 rfl<|?_;have c0:aQ [] w w:=aQ.refl _ _;refine bz ?_;refine WL.go rfl (OX.box rfl rfl rfl fun b1 w1 G b=>?_);have s1:=G.ext;have O:=G.gS c0;have c1:=c0.trans s1;refine gw ?_;refine WP .r (PV.fa yp rfl)<|(aU) eZ b.range<|?_;refine WP .r (PV.gE eI rfl)<|cX ?_;refine WC.loop (σ:=Nat) (dm:=fun i=>[(1,.pointer (some ⟨b1,0,none⟩)),(6,.slice a n c),(7,.int .i64 (n:Int)),(8,.int .i64 (i:Int))]) (I:=fun i w'=>aQ [] w w'∧cC w' b1 34 (x.row a n c)∧i≤n∧∀j y,j<i→x.reads[j]?=some y→cH y=true) (μ:=fun i=>n - i) 0 Sub.t ⟨c1,b,by omega,fun j y h=>by omega⟩ ?_;rintro i w2 ⟨c2,b,hi,H⟩;refine(aN) (fun g9=>?_) fun g9=>?_
 ·
  simp at g9
  have A:i<x.reads.length:=by omega
  refine cS ?_;obtain⟨P,Q,R,K,_,B,C,_⟩:=SR.at hk (ai A);have B:=RR.bN B;subst B;have C:=aV C c2 (by simp);refine nx ?_;refine WP .r (PV.ei eI K rfl rfl (by omega))<|(aT) ak C<|?_;refine WL.go rfl (OX.alloc Dh rfl fun b4 w3 D s=>?_);have s3:=D.ext;have L:=D.gS c2;have J:b1≠b4:=D.ne b.lt;have S:b4≠b1:=Ne.symm J;have c3:=c2.trans s3;have b:=b.ext s3;refine WL.go rfl (OX.lW gR s rfl rfl rfl rfl rfl fun w4 d _ s=>?_);have c4:=c3.own d L;have b:=b.bT d (by simp [J]);refine(aT) ak s.range<|(bL) Ie (hh (k:=x.reads[i])) ?_;rintro _ w5 ⟨rfl,o⟩;have c5:=c4.trans o;have b:=b.ext o;have s:=s.ext o;refine(aN) (fun g14=>?_) fun g14=>?_
  ·
   simp at g14
   have E:dc x=false:=by unfold dc;rw [Bool.and_eq_false_iff];left;rw [List.all_eq_false];exact⟨_,List.getElem_mem A,by simp [g14]⟩
   refine(bm) ?_;exact⟨by rw [E],c5⟩
  simp at g14
  refine eP ?_;refine EX.again (i+1) (Sub.k2 rfl rfl<|Sub.cons rfl<|Sub.ib rfl (by simp)<|Sub.nil) ⟨c5,b,by omega,bO A H g14⟩ (by omega)
 simp at g9
 have E:dc x=fm x:=by
  unfold dc
  rw [show x.reads.all cH=true from List.all_eq_true.2 fun y hy=>by obtain⟨j,N,rfl⟩:=List.mem_iff_getElem.1 hy;exact H j _ (by omega) (ai N)]
  rfl
 refine gw ?_;refine WC.kV (t:=2) (v:=.bool (fm x)) (aQ [] w2) ?_<|?_
 ·
  refine nx ?_;refine WP .r (PV.fa oI rfl)<|(il) ak b.range<|(bL) Ie (hh (k:=x.key)) ?_;rintro _ w3 ⟨rfl,s3⟩;have c3:=c2.trans s3;have b:=b.ext s3;refine(bW) (fun g19=>?_) (fun g19=>?_)
  ·
   refine WP .r (PV.fa oI rfl)<|(il) ak b.range<|(bL) Ge (de (k:=x.key)) ?_;rintro _ w4 ⟨rfl,d⟩;have c4:=c3.trans d;have b:=b.ext d;refine(bW) (fun e=>?_) (fun e=>?_)
   ·
    refine WP .r (PV.fa uh rfl)<|(aU) eY b.range<|?_;refine WP .r (PV.sH qn rfl)<|(bW) (fun f=>?_) (fun f=>?_)
    ·
     refine WP .r (PV.fa yp rfl)<|(aU) eZ b.range<|?_;refine WP .r (PV.gE eI rfl)<|(bW) (fun g=>?_) (fun g=>?_)
     ·
      refine WP .r (PV.fa ui rfl)<|(aU) aK b.range<|(bW) (fun m=>?_) (fun m=>?_)
      ·
       refine WP .r (PV.fa ui rfl)<|(aU) aK b.range<|?_;refine WP .r (PV.fa oJ rfl)<|(aU) aK b.range<|(bW) (fun p=>?_) (fun p=>?_)
       ·
        refine WP .r (PV.fa oJ rfl)<|(aU) aK b.range<|(bW) (fun q=>?_) (fun q=>?_)
        ·
         refine WP .r (PV.fa Di rfl)<|(aU) aK b.range<|(bW) (fun u=>?_) (fun u=>?_)
         ·
          refine WP .r (PV.fa Di rfl)<|(aU) aK b.range<|(bW) (fun z=>?_) (fun z=>?_)
          ·
           refine WP .r (PV.fa Dj rfl)<|(aU) dM b.range<|(bW) (fun F=>?_) (fun F=>?_)
           ·
            exact(eN) (by unfold fm;simp only [g19,e,f,g,m,p,q,u,z,F,← hlen];first | rfl | simp) (s3.trans d)
           refine WP .r (PV.fa oI rfl)<|(il) ak b.range<|(bL) Gd (cQ (k:=x.key)) ?_;rintro _ w5 ⟨rfl,o⟩;have c5:=c4.trans o;have b:=b.ext o;exact(eN) (by unfold fm;simp only [g19,e,f,g,m,p,q,u,z,F,← hlen];first | rfl | simp) ((s3.trans d).trans o)
          exact(eN) (by unfold fm;simp only [g19,e,f,g,m,p,q,u,z,← hlen];first | rfl | simp) (s3.trans d)
         refine aO ?_;exact(eN) (by unfold fm;simp only [g19,e,f,g,m,p,q,u,← hlen];first | rfl | simp) (s3.trans d)
        refine aO ?_;exact(eN) (by unfold fm;simp only [g19,e,f,g,m,p,q,← hlen];first | rfl | simp) (s3.trans d)
       refine aO ?_;refine aO ?_;exact(eN) (by unfold fm;simp only [g19,e,f,g,m,p,← hlen];first | rfl | simp) (s3.trans d)
      refine aO ?_;refine aO ?_;exact(eN) (by unfold fm;simp only [g19,e,f,g,m,← hlen];first | rfl | simp) (s3.trans d)
     refine aO ?_;refine aO ?_;refine aO ?_;exact(eN) (by unfold fm;simp only [g19,e,f,g,← hlen];first | rfl | simp) (s3.trans d)
    refine aO ?_;refine aO ?_;refine aO ?_;exact(eN) (by unfold fm;simp only [g19,e,f,← hlen];first | rfl | simp) (s3.trans d)
   refine aO ?_;refine aO ?_;refine aO ?_;refine aO ?_;exact(eN) (by unfold fm;simp only [g19,e,← hlen];first | rfl | simp) (s3.trans d)
  refine aO ?_;refine aO ?_;refine aO ?_;refine aO ?_;exact(eN) (by unfold fm;simp only [g19,← hlen];first | rfl | simp) s3
 intro w3 s3;have c3:=c2.trans s3;have b:=b.ext s3;refine(bm) ?_;exact⟨by rw [E],c3⟩
theorem r9(hl:Rd RR.ed 8 Z w a n c l):Calls prog 95 #[.slice a n c] w fun e w'=>∃b:Bool,e=.returned (.bool b)∧(b=true↔kx l)∧aQ [] w w':=by
 have hlen:=SR.len hl;have hle:=SR.le hl;refine enter func95 rfl ntmps95 rfl<|?_;have c0:aQ [] w w:=aQ.refl _ _;refine kQ ?_;refine WP .r (PV.gE iy rfl)<|cX ?_;refine WC.loop (σ:=Nat) (dm:=fun i=>[(0,.slice a n c),(5,.slice a n c),(6,.int .i64 (n:Int)),(7,.int .i64 (i:Int))]) (I:=fun i w'=>aQ [] w w'∧i≤n∧∀j y,j<i→l[j]?=some y→kg l j y) (μ:=fun i=>n - i) 0 Sub.t ⟨c0,by omega,fun j y h=>by omega⟩ ?_;rintro i w1 ⟨c1,hi,u⟩;refine(aN) (fun g8=>?_) fun g8=>?_
 ·
  simp at g8
  have p:i<l.length:=by omega
  have d:=getElem!_pos l i p;obtain⟨O,P,Q,J,_,⟨q1,R,S,rfl,K,U⟩,z,_⟩:=SR.at hl (ai p);refine cS ?_;have z:=aV z c1 (by simp);refine bz ?_;refine WP .r (PV.ei iy J rfl rfl (by omega))<|(aT) dA z<|?_;refine WL.go rfl (OX.alloc oG rfl fun b4 w2 F f=>?_);have s2:=F.ext;have L:=F.gS c1;have c2:=c1.trans s2;refine nx ?_;refine WL.go rfl (OX.lW gp f rfl rfl rfl rfl rfl fun w3 s3 _ f=>?_);have c3:=c2.own s3 L;refine cL ?_;refine WC.jH (t:=30) (v:=.bool (ku l i)) (aQ [] w3) ?_<|?_
  ·
   refine WC.drawn (m:=15) (C:=aQ [] w3) (T:=fun _=>aQ []) (E:=bK [(1,fun v _=>v=.bool (dc l[i]))]) (aS (⟨fun _ _ _ _ _ _ _ h=>h,trivial⟩)) mixed (by kernel_rfl) (aQ.drew _ _)<|?_;refine DP .r (fun _ o=>PV.Fa dA (f.ext o).range rfl rfl)<|?_;refine DW.e rfl rfl rfl rfl rfl (fun V o W=>OX.call TT rfl rfl ((yw (K.ext (c3.trans o))).mono ?_))<|?_
   ·
    rintro _ wy ⟨rfl,hy⟩;exact⟨_,rfl,o.trans hy,hy,_,rfl,rfl⟩
   rintro _ X _ rfl;refine(jf) (fun g15=>?_) (fun g15=>?_)
   ·
    refine(cG) ?_;rintro w4 g _;have c4:=c3.trans g;have f:=f.ext g;exact(br) (by unfold ku;first | (simp only [d,s,g15];done) | (simp only [d,s,g15];rfl) | (simp only [d,g15];rfl) | (simp only [d];rw [Bool.not_eq_true'] at g15;simp [g15]) | (simp only [d];simp at g15 g18;simp [g15,g18])) g
   refine(jf) (fun g18=>?_) (fun g18=>?_)
   ·
    have G:i - 1<l.length:=by omega
    have s:=getElem!_pos l (i - 1) G;have Y:=of_decide_eq_true g18;obtain⟨Zz,ZA,ZB,N,_,⟨p1,p2,p3,rfl,_,_⟩,A,_⟩:=SR.at hl (ai G);have A:=aV A c3 (by simp);refine cL ?_;refine DP .r (fun _ o=>PV.B5 iy (i - 1) N rfl rfl (by omega) (by omega))<|DP .r (fun _ o=>PV.fa oI rfl)<|DP .r (fun _ o=>PV.xE ak (aV A o (by simp)) rfl rfl)<|DP .r (fun _ o=>PV.fa oI rfl)<|DP .r (fun _ o=>PV.xE ak (f.ext o).range rfl rfl)<|(cG)<|?_;rintro w4 g _;have c4:=c3.trans g;have f:=f.ext g;refine(bL) O9 (jA (k:=l[i - 1].key) (q:=l[i].key)) ?_;rintro _ w5 ⟨rfl,B⟩;have c5:=c4.trans B;have f:=f.ext B;exact(br) (by unfold ku;first | (simp only [d,s,g15,g18];done) | (simp only [d,s,g15,g18];rfl) | (simp only [d,g15,g18];rfl) | (simp only [d];rw [Bool.not_eq_true'] at g15;simp [g15]) | (simp only [d];simp at g15 g18;simp [g15,g18])) (g.trans B)
   refine(cG) ?_;rintro w4 g _;have c4:=c3.trans g;have f:=f.ext g;exact(br) (by unfold ku;first | (simp only [d,s,g15,g18];done) | (simp only [d,s,g15,g18];rfl) | (simp only [d,g15,g18];rfl) | (simp only [d];rw [Bool.not_eq_true'] at g15;simp [g15]) | (simp only [d];simp at g15 g18;simp [g15,g18])) g
  intro w4 g;have c4:=c3.trans g;have f:=f.ext g;refine(aN) (fun D=>?_) fun D=>?_
  ·
   skip
   refine(bm) ?_;exact⟨false,rfl,⟨fun h=>(by cases h),fun h=>absurd ((jm p).2 (h.2 i _ (ai p))) (by simp [D])⟩,c4⟩
  refine eP ?_;refine EX.again (i+1) (Sub.k2 rfl rfl<|Sub.cons rfl<|Sub.ib rfl (by simp)<|Sub.nil) ⟨c4,by omega,bO p u ((jm p).1 D)⟩ (by omega)
 ·
  simp at g8
  have u:∀j y,l[j]?=some y→kg l j y:=fun j x H=>u j x (by have:=(List.getElem?_eq_some_iff.1 H).1;omega) H;refine iC ?_;refine WP .r (PV.gE iy rfl)<|(bm) ?_;exact⟨_,rfl,⟨fun h=>⟨by simp at h;omega,u⟩,fun h=>by have:=h.1;simp;omega⟩,c1⟩
 -- Dy mS G17.T
set_option maxHeartbeats 400000
theorem qw(hl:Rd RR.ed 8 Z w a n c l):CR prog 95 #[.slice a n c] w (.bool (iD l)):=
 (r9 hl).mono fun _ _ ⟨b,h1,d,e⟩=>⟨by rw [h1,Cu d],e⟩
theorem e7(s:St w M Z w []) (hi:Rd RR.az 4 Z w a1 n1 e1 x.ad) (hr:Rd RR.ed 8 Z w a2 n2 e2 x.ah) (t:x.ah.length≤1000000) (C:x.ad.length≤1000000):Calls prog 54 #[.agg (x.row a1 n1 e1 a2 n2 e2).toArray] w fun e w'=>∃f g h i j m Z',e=.returned (.agg (x.row f g h i j m).toArray)∧bA w.heap.size Z Z'∧St w M Z' w' [As.os RR.az 90 4 f g h x.ad,As.os RR.ed 34 8 i j m x.ah]:=by
 have D:=hi.len;have E:=hr.len;refine enter func54 rfl ntmps54 rfl<|?_;have aR:=s;have st1:=aR.fr hi;have st2:=st1.fr hr;have u:=st2.df RR.az 90 4;refine(dE) u fun b1 w1 F G v=>?_;refine(ff) v fun b2 w2 H I d=>?_;refine(aU) ji d.b1<|?_;refine WL.ap rfl rfl d.p2 ((As.gr d.g4)) fun a5 J w3 K L y=>?_;refine nx ?_;refine WL.s1 y.p2 fun w4 _ o=>?_;refine(aU) dL o.b0<|?_;have b:=o;refine(bL) Zr (Bb b.e0 (As.gr b.g3) t) ?_;rintro _ w5 ⟨f1,f2,f3,N,rfl,p,z⟩;have A:=St.lv b z p;have B:=p.le b.size;refine nx ?_;refine WL.s1 A.p1 fun w6 _ q=>?_;refine(aT) aJ q.b0<|(cD) eJ q.p3 fun w7 O P r=>?_;refine(ky) aJ r.b0<|?_;exact⟨_,_,_,_,_,_,_,rfl,B,r.p2.p3.k2⟩
theorem rG(hi:Rd RR.az 4 Z w a1 n1 e1 x.ad) (hr:Rd RR.ed 8 Z w a2 n2 e2 x.ah) {k:Key}:CR prog 96 #[.agg (x.row a1 n1 e1 a2 n2 e2).toArray,k.val] w (.agg (bE x.ad k).cells.toArray):=by
 have hlen:=SR.len hi;have hle:=SR.le hi;refine enter func96 rfl ntmps96 rfl<|?_;have c0:aQ [] w w:=aQ.refl _ _;refine bz ?_;refine WL.go rfl (OX.box rfl rfl rfl fun b2 w1 G e=>?_);have s1:=G.ext;have T:=G.gS c0;have c1:=c0.trans s1;refine WL.go rfl (OX.box rfl rfl rfl fun b3 w2 u b=>?_);have s2:=u.ext;have U:=u.gS c1;have N:b2≠b3:=u.ne e.lt;have V:b3≠b2:=Ne.symm N;have c2:=c1.trans s2;have e:=e.ext s2;refine WL.go rfl (OX.alloc KF rfl fun b4 w3 m d=>?_);have s3:=m.ext;have H:=m.gS c2;have O:b2≠b4:=m.ne e.lt;have W:b4≠b2:=Ne.symm O;have v:b3≠b4:=m.ne b.lt;have X:b4≠b3:=Ne.symm v;have c3:=c2.trans s3;have e:=e.ext s3;have b:=b.ext s3;refine cS ?_;refine WP .r (PV.fa ug rfl)<|(aU) ji e.range<|?_;refine WP .r (PV.gE pr rfl)<|cX ?_;refine WC.loop (σ:=Nat) (dm:=fun i=>[(3,.pointer (some ⟨b3,0,none⟩)),(4,.pointer (some ⟨b4,0,none⟩)),(8,.slice a1 n1 e1),(9,.int .i64 (n1:Int)),(10,.int .i64 (i:Int))]) (I:=fun i w'=>aQ [] w w'∧cC w' b3 29 [.int .i64 k.kind,.string k.text]∧cC w' b4 90 [.int .i64 0,.string ⟨#[]⟩,.string ⟨#[]⟩,.int .i64 0]∧i≤n1∧(∀j y,j<i→x.ad[j]?=some y→(y.key == k)=false)) (μ:=fun i=>n1 - i) 0 Sub.t ⟨c3,b,d,by omega,fun j x h=>by omega⟩ ?_;rintro i w4 ⟨c4,b,d,Y,z⟩;refine(aN) (fun g11=>?_) fun g11=>?_
 ·
  simp at g11
  have A:i<x.ad.length:=by omega
  refine cS ?_;obtain⟨W3,W4,W5,P,_,B,C,_⟩:=SR.at hi (ai A);have B:=RR.bN B;subst B;have C:=aV C c4 (by simp);refine nx ?_;refine WP .r (PV.ei pr P rfl rfl (by omega))<|(aT) lj C<|?_;refine WL.go rfl (OX.alloc KF rfl fun o w5 s f=>?_);have g:=s.ext;have Q:=s.gS c4;have J:b3≠o:=s.ne b.lt;have Ph:o≠b3:=Ne.symm J;have K:b4≠o:=s.ne d.lt;have R:o≠b4:=Ne.symm K;have c5:=c4.trans g;have b:=b.ext g;have d:=d.ext g;refine WL.go rfl (OX.lW yn f rfl rfl rfl rfl rfl fun w6 D _ f=>?_);have L:=c5.own D Q;have b:=b.bT D (by simp [J]);have d:=d.bT D (by simp [K]);refine cX ?_;refine WP .r (PV.fa qq rfl)<|(il) ak f.range<|(aT) ak b.range<|?_;refine WP .r (PV.Fg ft (p:=x.ad[i].key) (q:=k) rfl rfl)<|(aN) (fun g17=>?_) fun g17=>?_
  ·
   simp at g17
   have E:bE x.ad k=x.ad[i]:=by unfold bE;rw [kf A z (by simpa using g17)];rfl
   refine(aT) lj f.range<|?_;refine WL.go rfl (OX.lW yn d rfl rfl rfl rfl rfl fun w7 F _ d=>?_);have S:=L.own F H;have b:=b.bT F (by simp [v]);have f:=f.bT F (by simp [R]);refine(ky) lj d.range<|?_;exact⟨by rw [E],S⟩
  simp at g17
  refine eP ?_;refine EX.again (i+1) (Sub.k4 rfl rfl rfl rfl<|Sub.ib rfl (by simp)<|Sub.nil) ⟨L,b,d,by omega,bO A z (by simpa using g17)⟩ (by omega)
 simp at g11
 have E:bE x.ad k=⟨k,⟨#[]⟩,0⟩:=by unfold bE;rw [sV (i:=i) (by omega) z];rfl
 refine(aT) ak b.range<|?_;refine WP .r (PV.bs (us:=(bU.mk k ⟨#[]⟩ 0).cells) KC rfl rfl rfl)<|?_;refine WL.go rfl (OX.lW yn d rfl rfl rfl rfl rfl fun w5 g _ d=>?_);have c5:=c4.own g H;have b:=b.bT g (by simp [v]);refine(ky) lj d.range<|?_;exact⟨by rw [E],c5⟩
theorem qx(hi:Rd RR.az 4 Z w a1 n1 e1 x.ad) (hr:Rd RR.ed 8 Z w a2 n2 e2 x.ah) {k:Key}:CR prog 57 #[.agg (x.row a1 n1 e1 a2 n2 e2).toArray,k.val] w (.string (bE x.ad k).value):=by
 refine enter func57 rfl ntmps57 rfl<|?_;have c0:aQ [] w w:=aQ.refl _ _;refine bz ?_;refine WL.go rfl (OX.box rfl rfl rfl fun b2 w1 g b=>?_);have s1:=g.ext;have i:=g.gS c0;have c1:=c0.trans s1;refine WL.go rfl (OX.box rfl rfl rfl fun b3 w2 d e=>?_);have s2:=d.ext;have j:=d.gS c1;have h:b2≠b3:=d.ne b.lt;have m:b3≠b2:=Ne.symm h;have c2:=c1.trans s2;have b:=b.ext s2;refine(aT) aJ b.range<|(aT) ak e.range<|(bL) Tv (rG (k:=k) (hi.ext c2) (hr.ext c2)) ?_;rintro _ w3 ⟨rfl,s3⟩;have c3:=c2.trans s3;have b:=b.ext s3;have e:=e.ext s3;refine WP .r (PV.Cv (fs:=[_,_,_]) (f:=1) (off:=2) (T:=90) underlying90 rfl rfl (show ∀w,(isAgg 9).run _ w=.ok false w from isAgg9) rfl rfl)<|(bm) ?_;exact⟨rfl,c3⟩
theorem Be(hi:Rd RR.az 4 Z w a1 n1 e1 x.ad) (hr:Rd RR.ed 8 Z w a2 n2 e2 x.ah) {k:Key}:CR prog 578 #[.agg (x.row a1 n1 e1 a2 n2 e2).toArray,k.val] w (.int .i64 (bE x.ad k).changed):=by
 refine enter func578 rfl ntmps578 rfl<|?_;have c0:aQ [] w w:=aQ.refl _ _;refine bz ?_;refine WL.go rfl (OX.box rfl rfl rfl fun b2 w1 g b=>?_);have s1:=g.ext;have i:=g.gS c0;have c1:=c0.trans s1;refine WL.go rfl (OX.box rfl rfl rfl fun b3 w2 d e=>?_);have s2:=d.ext;have j:=d.gS c1;have h:b2≠b3:=d.ne b.lt;have m:b3≠b2:=Ne.symm h;have c2:=c1.trans s2;have b:=b.ext s2;refine(aT) aJ b.range<|(aT) ak e.range<|(bL) Tv (rG (k:=k) (hi.ext c2) (hr.ext c2)) ?_;rintro _ w3 ⟨rfl,s3⟩;have c3:=c2.trans s3;have b:=b.ext s3;have e:=e.ext s3;refine WP .r (PV.Cv (fs:=[_,_,_]) (f:=2) (off:=3) (T:=90) underlying90 rfl rfl (show ∀w,(isAgg 3).run _ w=.ok false w from isAgg3) rfl rfl)<|(bm) ?_;exact⟨rfl,c3⟩
theorem jt(hi:Rd RR.az 4 Z w a1 n1 e1 x.ad) (hr:Rd RR.ed 8 Z w a2 n2 e2 x.ah):Calls prog 55 #[.agg (x.row a1 n1 e1 a2 n2 e2).toArray] w fun e w'=>∃b:Bool,e=.returned (.bool b)∧(b=true↔eU x)∧aQ [] w w':=by
 have hlen:=SR.len hi;have hle:=SR.le hi;have uv:=SR.len hr;have uA:=SR.le hr;refine enter func55 rfl ntmps55 rfl<|?_;have c0:aQ [] w w:=aQ.refl _ _;refine bz ?_;refine WL.go rfl (OX.box rfl rfl rfl fun b1 w1 Ri f=>?_);have s1:=Ri.ext;have ZI:=Ri.gS c0;have c1:=c0.trans s1;refine gw ?_;refine WP .r (PV.fa ug rfl)<|(aU) ji f.range<|?_;refine WP .r (PV.gE pr rfl)<|cX ?_;refine WC.loop (σ:=Nat) (dm:=fun i=>[(1,.pointer (some ⟨b1,0,none⟩)),(8,.slice a1 n1 e1),(9,.int .i64 (n1:Int)),(10,.int .i64 (i:Int))]) (I:=fun i w'=>aQ [] w w'∧cC w' b1 25 (x.row a1 n1 e1 a2 n2 e2)∧i≤n1∧∀j y,j<i→x.ad[j]?=some y→fi x.ab x.ad j=false) (μ:=fun i=>n1 - i) 0 Sub.t ⟨c1,f,by omega,fun j y h=>by omega⟩ ?_;rintro i w2 ⟨c2,f,hP,L⟩;refine(aN) (fun g11=>?_) fun g11=>?_
 ·
  simp at g11
  have G:i<x.ad.length:=by omega
  have o:=getElem!_pos x.ad i G;obtain⟨W3,W4,W5,R,_,S,H,_⟩:=SR.at hi (ai G);have S:=RR.bN S;subst S;refine cS ?_;have H:=aV H c2 (by simp);refine bz ?_;refine WP .r (PV.ei pr R rfl rfl (by omega))<|(aT) lj H<|?_;refine WL.go rfl (OX.alloc KF rfl fun b4 w3 U s=>?_);have s3:=U.ext;have uw:=U.gS c2;have uB:b1≠b4:=U.ne f.lt;have Pj:b4≠b1:=Ne.symm uB;have c3:=c2.trans s3;have f:=f.ext s3;refine nx ?_;refine WL.go rfl (OX.lW yn s rfl rfl rfl rfl rfl fun w4 F _ s=>?_);have c4:=c3.own F uw;have f:=f.bT F (by simp [uB]);refine cL ?_;refine WC.jH (t:=59) (v:=.bool (fi x.ab x.ad i)) (aQ [] w4) ?_<|?_
  ·
   refine WC.drawn (m:=43) (C:=aQ [] w4) (T:=fun _=>aQ []) (E:=bK [(2,fun v _=>v=.bool (cH x.ad[i].key)),(7,fun v _=>v=.bool (aB x.ad[i].key)),(23,fun v _=>v=.int .i64 (bp x.ad[i - 1].key x.ad[i].key))]) (aS (⟨fun _ _ _ _ _ _ _ h=>h,⟨fun _ _ _ _ _ _ _ h=>h,⟨fun _ _ _ _ _ _ _ h=>h,trivial⟩⟩⟩)) mixed (by kernel_rfl) (aQ.drew _ _)<|?_;refine DP .r (fun _ g=>PV.fa qq rfl)<|DP .r (fun _ g=>PV.xE ak (s.ext g).range rfl rfl)<|?_;refine DW.e rfl rfl rfl rfl rfl (fun wx g hF=>OX.call Ie rfl rfl ((hh (k:=x.ad[i].key)).mono ?_))<|?_
   ·
    rintro _ wy ⟨rfl,hy⟩;exact⟨_,rfl,g.trans hy,hy,_,rfl,rfl⟩
   rintro _ wz _ rfl;refine(jf) (fun g19=>?_) (fun g19=>?_)
   ·
    refine aO ?_;refine aO ?_;refine aO ?_;refine(cG) ?_;rintro w5 d _;have c5:=c4.trans d;have f:=f.ext d;have s:=s.ext d;exact(br) (by unfold fi;first | (simp only [o,B,g19];done) | (simp only [o,B,g19];rfl) | (simp only [o,g19];rfl) | (simp only [o,g19];done)) d
   refine DP .r (fun _ g=>PV.fa qq rfl)<|DP .r (fun _ g=>PV.xE ak (s.ext g).range rfl rfl)<|?_;refine DW.e rfl rfl rfl rfl rfl (fun wx g hF=>OX.call Ge rfl rfl ((de (k:=x.ad[i].key)).mono ?_))<|?_
   ·
    rintro _ wy ⟨rfl,hy⟩;exact⟨_,rfl,g.trans hy,hy,_,rfl,rfl⟩
   rintro _ wz _ rfl;refine(jf) (fun p=>?_) (fun p=>?_)
   ·
    refine aO ?_;refine aO ?_;refine(cG) ?_;rintro w5 d _;have c5:=c4.trans d;have f:=f.ext d;have s:=s.ext d;exact(br) (by unfold fi;first | (simp only [o,B,g19,p];done) | (simp only [o,B,g19,p];rfl) | (simp only [o,g19,p];rfl) | (simp only [o,g19,p];done)) d
   refine(jf) (fun u=>?_) (fun u=>?_)
   ·
    have hi3:i - 1<x.ad.length:=by omega
    have B:=getElem!_pos x.ad (i - 1) hi3;have ahs:=of_decide_eq_true u;obtain⟨Zz,ZA,ZB,y7,_,V,W,_⟩:=SR.at hi (ai hi3);have V:=RR.bN V;subst V;have W:=aV W c4 (by simp);refine DP .r (fun _ g=>PV.fa ug rfl)<|DP .r (fun _ g=>PV.ld1 ji (f.ext g).range rfl rfl)<|bz ?_;refine DP .r (fun _ g=>PV.B5 pr (i - 1) y7 rfl rfl (by omega) (by omega))<|DP .r (fun _ g=>PV.fa qq rfl)<|DP .r (fun _ g=>PV.xE ak (aV W g (by simp)) rfl rfl)<|DP .r (fun _ g=>PV.fa qq rfl)<|DP .r (fun _ g=>PV.xE ak (s.ext g).range rfl rfl)<|?_;refine DW.e rfl rfl rfl rfl rfl (fun wx g hF=>OX.call O9 rfl rfl ((jA (k:=x.ad[i - 1].key) (q:=x.ad[i].key)).mono ?_))<|?_
    ·
     rintro _ wy ⟨rfl,hy⟩;exact⟨_,rfl,g.trans hy,hy,_,rfl,rfl⟩
    rintro _ wz _ rfl;refine(jf) (fun D=>?_) (fun D=>?_)
    ·
     refine aO ?_;refine(cG) ?_;rintro w5 d _;have c5:=c4.trans d;have f:=f.ext d;have s:=s.ext d;exact(br) (by unfold fi;first | (simp only [o,B,g19,p,u,D];done) | (simp only [o,B,g19,p,u,D];rfl) | (simp only [o,g19,p,u,D];rfl) | (simp only [o,g19,p,u,D];done)) d
    refine DP .r (fun _ g=>PV.fa Dl rfl)<|DP .r (fun _ g=>PV.ld1 eY (s.ext g).range rfl rfl)<|DP .r (fun _ g=>PV.sH qn rfl)<|(jf) (fun z=>?_) (fun z=>?_)
    ·
     refine(cG) ?_;rintro w5 d _;have c5:=c4.trans d;have f:=f.ext d;have s:=s.ext d;exact(br) (by unfold fi;first | (simp only [o,B,g19,p,u,D,z];done) | (simp only [o,B,g19,p,u,D,z];rfl) | (simp only [o,g19,p,u,D,z];rfl) | (simp only [o,g19,p,u,D,z];done)) d
    refine DP .r (fun _ g=>PV.fa um rfl)<|DP .r (fun _ g=>PV.ld1 aK (s.ext g).range rfl rfl)<|(jf) (fun A=>?_) (fun A=>?_)
    ·
     refine(cG) ?_;rintro w5 d _;have c5:=c4.trans d;have f:=f.ext d;have s:=s.ext d;exact(br) (by unfold fi;first | (simp only [o,B,g19,p,u,D,z,A];done) | (simp only [o,B,g19,p,u,D,z,A];rfl) | (simp only [o,g19,p,u,D,z,A];rfl) | (simp only [o,g19,p,u,D,z,A];done)) d
    refine DP .r (fun _ g=>PV.fa um rfl)<|DP .r (fun _ g=>PV.ld1 aK (s.ext g).range rfl rfl)<|DP .r (fun _ g=>PV.fa kI rfl)<|DP .r (fun _ g=>PV.ld1 aK (f.ext g).range rfl rfl)<|(cG)<|?_;rintro w5 d _;have c5:=c4.trans d;have f:=f.ext d;have s:=s.ext d;exact(br) (by unfold fi;first | (simp only [o,B,g19,p,u,D,z,A];done) | (simp only [o,B,g19,p,u,D,z,A];rfl) | (simp only [o,g19,p,u,D,z,A];rfl) | (simp only [o,g19,p,u,D,z,A];done)) d
   refine aO ?_;refine bz ?_;refine DP .r (fun _ g=>PV.fa Dl rfl)<|DP .r (fun _ g=>PV.ld1 eY (s.ext g).range rfl rfl)<|DP .r (fun _ g=>PV.sH qn rfl)<|(jf) (fun z=>?_) (fun z=>?_)
   ·
    refine(cG) ?_;rintro w5 d _;have c5:=c4.trans d;have f:=f.ext d;have s:=s.ext d;exact(br) (by unfold fi;first | (simp only [o,B,g19,p,u,z];done) | (simp only [o,B,g19,p,u,z];rfl) | (simp only [o,g19,p,u,z];rfl) | (simp only [o,g19,p,u,z];done)) d
   refine DP .r (fun _ g=>PV.fa um rfl)<|DP .r (fun _ g=>PV.ld1 aK (s.ext g).range rfl rfl)<|(jf) (fun A=>?_) (fun A=>?_)
   ·
    refine(cG) ?_;rintro w5 d _;have c5:=c4.trans d;have f:=f.ext d;have s:=s.ext d;exact(br) (by unfold fi;first | (simp only [o,B,g19,p,u,z,A];done) | (simp only [o,B,g19,p,u,z,A];rfl) | (simp only [o,g19,p,u,z,A];rfl) | (simp only [o,g19,p,u,z,A];done)) d
   refine DP .r (fun _ g=>PV.fa um rfl)<|DP .r (fun _ g=>PV.ld1 aK (s.ext g).range rfl rfl)<|DP .r (fun _ g=>PV.fa kI rfl)<|DP .r (fun _ g=>PV.ld1 aK (f.ext g).range rfl rfl)<|(cG)<|?_;rintro w5 d _;have c5:=c4.trans d;have f:=f.ext d;have s:=s.ext d;exact(br) (by unfold fi;first | (simp only [o,B,g19,p,u,z,A];done) | (simp only [o,B,g19,p,u,z,A];rfl) | (simp only [o,g19,p,u,z,A];rfl) | (simp only [o,g19,p,u,z,A];done)) d
  intro w5 d;have c5:=c4.trans d;have f:=f.ext d;have s:=s.ext d;refine(aN) (fun X=>?_) fun X=>?_
  ·
   skip
   refine(bm) ?_;exact⟨false,rfl,⟨fun h=>(by cases h),fun h=>absurd (h.1 i _ (ai G)) (by simp [X])⟩,c5⟩
  refine eP ?_;refine EX.again (i+1) (Sub.k2 rfl rfl<|Sub.cons rfl<|Sub.ib rfl (by simp)<|Sub.nil) ⟨c5,f,by omega,bO (P:=fun j _=>fi x.ab x.ad j=false) G L X⟩ (by omega)
 simp at g11
 have L:pX x.ab x.ad:=fun j y J=>L j y (by have:=(List.getElem?_eq_some_iff.1 J).1;omega) J;refine iC ?_;refine WP .r (PV.fa qo rfl)<|(aU) dL f.range<|?_;refine WP .r (PV.gE iy rfl)<|cX ?_;refine WC.loop (σ:=Nat) (dm:=fun i=>[(1,.pointer (some ⟨b1,0,none⟩)),(62,.slice a2 n2 e2),(63,.int .i64 (n2:Int)),(64,.int .i64 (i:Int))]) (I:=fun i w'=>aQ [] w w'∧cC w' b1 25 (x.row a1 n1 e1 a2 n2 e2)∧i≤n2∧∀(j:Nat) (y:Rec),j<i→x.ah[j]?=some y→y.av≤x.ab) (μ:=fun i=>n2 - i) 0 Sub.t ⟨c2,f,by omega,fun j y h=>by omega⟩ ?_;rintro i2 w3 ⟨c3,f,aht,N⟩;refine(aN) (fun Y=>?_) fun Y=>?_
 ·
  simp at Y
  have G:i2<x.ah.length:=by omega
  obtain⟨W3,W4,W5,R,_,⟨q1,q2,q3,rfl,Gj,Dx⟩,H,_⟩:=SR.at hr (ai G);refine cS ?_;have H:=aV H c3 (by simp);refine nx ?_;refine WP .r (PV.ei iy R rfl rfl (by omega))<|(aT) dA H<|?_;refine WL.go rfl (OX.alloc oG rfl fun b6 w4 Dr Is=>?_);have F:=Dr.ext;have Du:=Dr.gS c3;have uC:b1≠b6:=Dr.ne f.lt;have Pk:b6≠b1:=Ne.symm uC;have c4:=c3.trans F;have f:=f.ext F;refine WL.go rfl (OX.lW gp Is rfl rfl rfl rfl rfl fun w5 d _ Is=>?_);have c5:=c4.own d Du;have f:=f.bT d (by simp [uC]);refine cX ?_;refine WP .r (PV.fa oJ rfl)<|(aU) aK Is.range<|?_;refine WP .r (PV.fa kI rfl)<|(aU) aK f.range<|(aN) (fun O=>?_) fun O=>?_
  ·
   simp at O
   refine(bm) ?_;exact⟨false,rfl,⟨fun h=>(by cases h),fun h=>absurd (h.2.1 i2 _ (ai G)) (by omega)⟩,c5⟩
  simp at O
  refine eP ?_;refine EX.again (i2+1) (Sub.k2 rfl rfl<|Sub.cons rfl<|Sub.ib rfl (by simp)<|Sub.nil) ⟨c5,f,by omega,bO (P:=fun _ (y:Rec)=>y.av≤x.ab) G N O⟩ (by omega)
 simp at Y
 have N:∀(j:Nat) (y:Rec),x.ah[j]?=some y→y.av≤x.ab:=fun j y J=>N j y (by have:=(List.getElem?_eq_some_iff.1 J).1;omega) J;refine gw ?_;refine WC.kV (t:=2) (v:=.bool (gC x)) (aQ [] w3) ?_<|?_
 ·
  refine nx ?_;refine WP .r (PV.fa kI rfl)<|(aU) aK f.range<|(bW) (fun K=>?_) (fun K=>?_)
  ·
   refine WP .r (PV.fa kI rfl)<|(aU) aK f.range<|(bW) (fun Q=>?_) (fun Q=>?_)
   ·
    refine WP .r (PV.fa ug rfl)<|(aU) ji f.range<|?_;refine WP .r (PV.gE pr rfl)<|(bW) (fun Uv=>?_) (fun Uv=>?_)
    ·
     refine WP .r (PV.fa qo rfl)<|(aU) dL f.range<|(bL) Zs (qw (hr.ext c3)) ?_;rintro _ w4 ⟨rfl,F⟩;have c4:=c3.trans F;have f:=f.ext F;exact(eN) (by unfold gC;simp only [K,Q,Uv,← hlen];first | rfl | simp) F
    exact(eN) (by unfold gC;simp only [K,Q,Uv,← hlen];first | rfl | simp) (aQ.refl _ _)
   exact(eN) (by unfold gC;simp only [K,Q,← hlen];first | rfl | simp) (aQ.refl _ _)
  refine aO ?_;exact(eN) (by unfold gC;simp only [K,← hlen];first | rfl | simp) (aQ.refl _ _)
 intro w4 F;have c4:=c3.trans F;have f:=f.ext F;refine(bm) ?_;exact⟨_,rfl,⟨fun h=>by have:=(ki x).1 h;exact⟨L,N,this⟩,fun h=>(ki x).2 h.2.2⟩,c4⟩
end Go.Rc

