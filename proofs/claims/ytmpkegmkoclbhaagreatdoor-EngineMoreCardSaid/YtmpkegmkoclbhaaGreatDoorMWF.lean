/- Walks over the program, part WF. Conditions: as each theorem says. -/
import Derived.Test.YtmpkegmkoclbhaaGreatDoorMFacts
import Derived.Test.YtmpkegmkoclbhaaGreatDoorMWB
import Derived.Test.YtmpkegmkoclbhaaGreatDoorMBe
set_option linter.all false
namespace Go.Rc
open Go Go.Proofs Go.Proofs.Tryz
variable {x:cm}{a a2 a1:Option Addr}{n c n2 e2 n1 e1:Nat}{w:World}{M Z:Nat→Prop}{l:List Rec}{k:Key}
set_option maxHeartbeats 400000
theorem jr{x:Rec}(j:St w M Z w []) (hk:Rd RR.key 2 Z w a n c x.reads) (p:x.reads.length≤4000):Calls prog 120 #[.agg (x.row a n c).toArray] w fun e w'=>∃d f g,e=.returned (.agg (x.row d f g).toArray)∧St w M Z w' [As.os RR.key 40 2 d f g x.reads]:=by
 have q:=hk.len;refine enter func120 rfl ntmps120 rfl<|?_;have aP:=j;have st1:=aP.fr hk;have st2:=st1.dq RR.key 40 2;refine(dy) st2 fun b1 w1 r s m=>?_;refine(eW) m fun b2 w2 t u b=>?_;refine(a8) dE b.b1<|?_;refine WL.ap rfl rfl b.p2 ((As.gr b.g3)) fun a5 v w3 y z o=>?_;refine nx ?_;refine WL.s1 o.p2 fun w4 _ h=>?_;refine(aZ) cV h.b0<|(cI) fY h.p2 fun w5 A B i=>?_;refine(kS) cV i.b0<|?_;exact⟨_,_,_,rfl,i.p2.k1⟩
theorem Cr(D:St w M Z w []) (hl:Rd RR.ei 8 Z w a n c l) (Y:l.length≤1000000):Calls prog 73 #[.slice a n c] w fun e w'=>∃q s u Z',e=.returned (.slice q s u)∧bH w.heap.size Z Z'∧St w M Z' w' [As.os RR.ei 88 8 q s u l]:=by
 have hlen:=hl.len;have hle:=hl.le;refine enter func73 rfl ntmps73 rfl<|?_;have aP:=D;have st1:=aP.fr hl;have st2:=st1.dq RR.ei 88 8;refine aX ?_;refine ez ?_;refine WC.ia (σ:=Nat × (Nat→Prop) × (List Rec) × (Option Addr) × Nat × Nat) (dn:=fun(i,d,acc,f,b,g)=>[(3,.slice f b g),(6,.slice a n c),(7,.int .i64 (n:Int)),(8,.int .i64 (i:Int))]) (F:=fun(i,d,acc,f,b,g)=>[As.os RR.ei 88 8 f b g (acc)]) (I:=fun(i,d,acc,f,b,g)=>(i≤n)∧(bH w.heap.size Z d)∧(acc=l.take i)∧True) (μ:=fun(i,d,acc,f,b,g)=>n - i) (Zf:=fun(i,d,acc,f,b,g)=>d) (0,Z,[],none,0,0) (st2) Sub.t (⟨by omega,bH.refl _ _,by simp,trivial⟩)<|?_;rintro⟨i,d,acc,f,b,g⟩ w1 h ⟨hi,o,j,_⟩;simp only [CA,NA] at h hi o j ⊢;have qZ:=((As.gs h.g0)).len
 have KB:acc.length≤1000000:=by rw [j,List.length_take];omega
 refine(aT) (fun g9=>?_) fun g9=>?_
 ·
  simp at g9
  have v:i<l.length:=by omega
  refine de ?_;obtain⟨gV,k8,ky,E,gW,G,H,J⟩:=Rd.at (As.gr h.g1) v;obtain⟨q1,q2,q3,rfl,K,y⟩:=G;have L:=h.fg J H;have z:=L.fr K;refine nx ?_;refine WP .r (PV.dQ iG E rfl rfl (by omega))<|(aZ) cV (As.lG z.g1)<|(eW) z fun b5 w2 H3 H4 N=>?_;refine(cI) fY N fun w3 jS jZ B=>?_;refine(aZ) cV B.b0<|?_;have m:=B;refine(bX) GU (jr m.e0 (As.gr m.g1) y) ?_;rintro _ w4 ⟨e1,e2,e3,rfl,C⟩;have O:=St.lr m C;have P:=St.bP C;have hsz:=m.size;have Q:=O.aY (by omega);have R:=o.trans (bH.dA (F:=fun x=>x∈aI e1) P) hsz;refine WL.go rfl (OX.aO (us:=l[i].row e1 e2 e3) nK rfl rfl rfl rfl fun b15 w5 S T=>?_);have p:=Q.cX S T;refine WL.ap rfl rfl p.p5 (SR.dd (A:=fun _=>True) (x:=l[i]) (As.gb p.g0) trivial rfl (Rec.one _ _ _ _) ⟨e1,e2,e3,rfl,(As.gr p.g1),y⟩) fun U V w6 anH anI W=>?_;refine gX ?_;refine eC (i+1,_,acc++[l[i]],U,(b+1),V) ⟨W.p6.p1.k2,⟨by omega,R,by rw [j,List.take_succ_eq_append_getElem v],trivial⟩⟩
 simp at g9
 have X:acc=l:=by rw [j];exact List.take_of_length_le (by omega)
 subst X;refine(bw) ?_;exact⟨_,_,_,_,rfl,o,h.p1.drop⟩
theorem jD(D:St w M Z w []) (hl:Rd RR.ei 8 Z w a n c l):Calls prog 135 #[.slice a n c,k.val] w fun e w'=>∃y z A,e=.returned (.tuple #[.agg ((aD l k).row y z A).toArray,.bool (aA l k).isSome])∧(aD l k).reads.length≤4000∧St w M Z w' [As.os RR.key 40 2 y z A (aD l k).reads]:=by
 have hlen:=hl.len;have hle:=hl.le;refine enter func135 rfl ntmps135 rfl<|?_;have aP:=D;have st1:=aP.fr hl;refine(dy) st1 fun b3 w1 Q R st2=>?_;refine(eW) st2 fun b4 w2 S T E=>?_;refine aX ?_;refine WC.bq (σ:=Nat) (dn:=fun i=>[(3,.pointer (some ⟨b3,0,none⟩)),(4,.pointer (some ⟨b4,0,none⟩)),(8,.slice a n c),(9,.int .i64 (n:Int)),(10,.int .i64 (i:Int))]) (F:=fun i=>[]) (I:=fun i=>(i≤n)∧(∀j x,j<i→l[j]?=some x→(x.key == k)=false)∧True) (μ:=fun i=>n - i) (0) (E) Sub.t (⟨by omega,fun j x h=>by omega,trivial⟩)<|?_;rintro i w3 m ⟨hi,o,_⟩;simp only [CA,NA] at m hi o ⊢;refine(aT) (fun g11=>?_) fun g11=>?_
 ·
  simp at g11
  have s:i<l.length:=by omega
  refine de ?_;obtain⟨U,V,W,G,X,H,J,K⟩:=Rd.at (As.gr m.g2) s;obtain⟨q1,Y,q3,rfl,L,B⟩:=H;have u:=m.fg K J;have d:=u.fr L;refine nx ?_;refine WP .r (PV.dQ iG G rfl rfl (by omega))<|(aZ) cV (As.lG d.g1)<|(eW) d fun b7 w4 SB SC N=>?_;refine(cI) fY N fun w5 jS jZ f=>?_;refine(hW) ao f.b0<|(aZ) ao f.b4<|?_;refine WP .r (PV.DV fK (p:=l[i].key) (q:=k) rfl rfl)<|(aT) (fun g17=>?_) fun g17=>?_
  ·
   simp at g17
   have g:aA l k=some l[i]:=jw s o (by simpa using g17)
   have b:aD l k=l[i]:=by unfold aD;rw [g];rfl
   refine(aZ) cV f.b0<|?_;have v:=f;refine(bX) GU (jr v.e0 (As.gr v.g1) B) ?_;rintro _ w6 ⟨e1,e2,e3,rfl,O⟩;have P:=St.lr v O;refine(cI) fY P.p4 fun w7 re mz C=>?_;refine kR ?_;refine EX.ey rfl (RS.cell cV rfl C.b0 rfl<|RS.tmp rfl<|RS.nil) rfl<|?_;exact⟨e1,e2,e3,by rw [g,b];rfl,by rw [b];exact B,by rw [b];exact C.p1.k1⟩
  simp at g17
  refine ez ?_;refine eC (i+1) ⟨f.p5.p5.p5.k3,⟨by omega,cF s o (by simpa using g17),trivial⟩⟩
 simp at g11
 have g:aA l k=none:=qd (i:=i) (by omega) o
 have b:aD l k=nj:=by unfold aD;rw [g];rfl
 have u:=m.dq RR.key 40 2;refine(cI) fY u.p1 fun w4 zB sw d=>?_;refine cj ?_;refine EX.ey rfl (RS.cell cV rfl d.b0 rfl<|RS.tmp rfl<|RS.nil) rfl<|?_;exact⟨none,0,0,by rw [g,b];rfl,by rw [b];simp [nj],by rw [b];exact d.p1.k1⟩
theorem dZ(hl:Rd RR.ei 8 Z w a n c l):Calls prog 135 #[.slice a n c,k.val] w fun e w'=>∃b d f,e=.returned (.tuple #[.agg ((aD l k).row b d f).toArray,.bool (aA l k).isSome])∧aS [] w w':=
 (jD (M:=fun _=>False) (St.start fun _ g=>g.2) hl.cut).mono fun _ _ ⟨b,d,f,h1,_,h⟩=>⟨b,d,f,h1,h.cg⟩
theorem Cs{x:Rec}(h1:x.key.text.size≤4611686018427) (e:x.value.size≤4611686018427) (f:n≤4611686018427):CR prog 134 #[.agg (x.row a n c).toArray] w (.int .i64 (16+x.key.text.size+x.value.size+8*n:Int)):=by
 refine enter func134 rfl ntmps134 rfl<|?_;have c0:aS [] w w:=aS.refl _ _;refine bN ?_;refine WL.go rfl (OX.box rfl rfl rfl fun b1 w1 d b=>?_);have s1:=d.ext;have g:=d.iI c0;have c1:=c0.trans s1;refine de ?_;refine WP .r (PV.fa pH rfl)<|WP .r (PV.fa pF rfl)<|(a8) fw b.range<|?_;refine WP .r (PV.tS rS rfl)<|nx ?_;refine WP .r (PV.fa u5 rfl)<|(a8) fw b.range<|?_;refine WP .r (PV.tS rS rfl)<|nx ?_;refine WP .r (PV.fa zw rfl)<|(a8) dE b.range<|?_;refine WP .r (PV.ie et rfl)<|WP .r (PV.mul rfl rfl (by omega) (by omega))<|(bw) ?_;exact⟨rfl,c1⟩
theorem sV(D:St w M Z w []) (hl:Rd RR.ei 8 Z w a n c l) (W:l.length≤1000000):Calls prog 87 #[.slice a n c,k.val] w fun e w'=>∃s u v,e=.returned (.slice s u v)∧St w M Z w' [As.os RR.ei 88 8 s u v (fl l k)]:=by
 have hlen:=hl.len;refine enter func87 rfl ntmps87 rfl<|?_;have aP:=D;have st1:=aP.fr hl;have st2:=st1.dq RR.ei 88 8;refine(dy) st2 fun b3 w1 X Y E=>?_;refine aX ?_;refine de ?_;refine WC.bq (σ:=Nat × (List Rec) × (Option Addr) × Nat × Nat) (dn:=fun(i,acc,d,b,f)=>[(3,.pointer (some ⟨b3,0,none⟩)),(5,.slice d b f),(8,.slice a n c),(9,.int .i64 (n:Int)),(10,.int .i64 (i:Int))]) (F:=fun(i,acc,d,b,f)=>[As.os RR.ei 88 8 d b f (acc)]) (I:=fun(i,acc,d,b,f)=>(i≤n)∧(acc=fl (l.take i) k)∧True) (μ:=fun(i,acc,d,b,f)=>n - i) (0,[],none,0,0) (E.p1) Sub.t (⟨by omega,by simp [fl],trivial⟩)<|?_;rintro⟨i,acc,d,b,f⟩ w2 g ⟨hi,h,_⟩;simp only [CA,NA] at g hi h ⊢;have qZ:=((As.gs g.g0)).len;have G:=rq (l.take i) k
 have anJ:acc.length≤1000000:=by rw [List.length_take,← h] at G;omega
 refine(aT) (fun g11=>?_) fun g11=>?_
 ·
  simp at g11
  have y:i<l.length:=by omega
  have m:=D3 (k:=k) y;refine de ?_;obtain⟨gV,k8,ky,H,gW,J,K,L⟩:=Rd.at (As.gr g.g2) y;obtain⟨q1,z,B,rfl,N,O⟩:=J;have P:=g.fg L K;have C:=P.fr N;refine nx ?_;refine WP .r (PV.dQ iG H rfl rfl (by omega))<|(aZ) cV (As.lG C.g1)<|(eW) C fun b7 w3 SB SC Q=>?_;refine(cI) fY Q fun w4 jS jZ j=>?_;refine(hW) ao j.b0<|(aZ) ao j.b4<|?_;refine WP .r (PV.Lv fK (p:=l[i].key) (q:=k) rfl rfl)<|(aT) (fun g17=>?_) fun g17=>?_
  ·
   simp at g17
   rw [if_neg g17] at m;refine(aZ) cV j.b0<|?_;refine WL.go rfl (OX.aO (us:=l[i].row q1 z B) nK rfl rfl rfl rfl fun b20 w5 R S=>?_);have o:=j.cX R S;refine WL.ap rfl rfl o.p4 (SR.dd (A:=fun _=>True) (x:=l[i]) (As.gb o.g0) trivial rfl (Rec.one _ _ _ _) ⟨q1,z,B,rfl,(As.gr o.g2),O⟩) fun a21 T w6 anK aeB U=>?_;refine gX ?_;refine eC (i+1,acc++[l[i]],a21,(b+1),T) ⟨U.p6.p6.p2.k3,⟨by omega,by rw [m,h],trivial⟩⟩
  simp at g17
  rw [if_pos g17] at m;refine ez ?_;refine eC (i+1,acc,d,b,f) ⟨j.p5.p5.p5.k3,⟨by omega,by rw [m,h],trivial⟩⟩
 simp at g11
 have V:acc=fl l k:=by rw [h,List.take_of_length_le (by omega)]
 subst V;refine(bw) ?_;exact⟨_,_,_,rfl,g.p1.drop.p1.drop⟩
theorem vj{x:Rec}(gE:St w M Z w []) (hl:Rd RR.ei 8 Z w a n c l) (h6:l.length≤1000000) (hx:Rd RR.key 2 Z w a2 n2 e2 x.reads) (C:x.reads.length≤4000):Calls prog 182 #[.slice a n c,.agg (x.row a2 n2 e2).toArray] w fun e w'=>∃U V W Z',e=.returned (.slice U V W)∧bH w.heap.size Z Z'∧St w M Z' w' [As.os RR.ei 88 8 U V W (eh l x)]:=by
 have hlen:=hl.len;refine enter func182 rfl ntmps182 rfl<|?_;have aP:=gE;have st1:=aP.fr hl;have st2:=st1.fr hx;have iV:=st2.dq RR.ei 88 8;refine(dy) iV fun b3 w1 H5 wK iq=>?_;refine aX ?_;refine jL ?_;refine WC.ia (σ:=Nat × Bool × (Nat→Prop) × (List Rec) × (Option Addr) × Nat × Nat) (dn:=fun(i,put,m,out,g,b,h)=>[(3,.pointer (some ⟨b3,0,none⟩)),(5,.slice g b h),(6,.bool put),(10,.slice a n c),(11,.int .i64 (n:Int)),(12,.int .i64 (i:Int))]) (F:=fun(i,put,m,out,g,b,h)=>[As.os RR.ei 88 8 g b h (out)]) (I:=fun(i,put,m,out,g,b,h)=>(i≤n)∧(bH w.heap.size Z m)∧(out++eZ x (l.drop i) put=eh l x)∧True) (μ:=fun(i,put,m,out,g,b,h)=>n - i) (Zf:=fun(i,put,m,out,g,b,h)=>m) (0,false,Z,[],none,0,0) (iq.p1) Sub.t (⟨by omega,bH.refl _ _,rfl,trivial⟩)<|?_;rintro⟨i,put,m,out,g,b,h⟩ w2 o ⟨hi,s,hinv,_⟩;simp only [CA,NA] at o hi s hinv ⊢;have qZ:=((As.gs o.g0)).len
 have hol:out.length≤1000001:=by have h1:=congrArg List.length hinv;have h2:=rp x l false;simp only [eh,List.length_append] at h1;omega
 refine(aT) (fun g13=>?_) fun g13=>?_
 ·
  simp at g13
  have X:i<l.length:=by omega
  have Y:eZ x (l.drop i) put=(if decide (0≤bC l[i].key x.key) && !put then [x] else [])++(if bC l[i].key x.key=0 then [] else [l[i]])++eZ x (l.drop (i+1)) (put || decide (0≤bC l[i].key x.key)):=by rw [List.drop_eq_getElem_cons X];rfl
  refine de ?_;obtain⟨gV,k8,ky,cW,gW,gg,eG,eV⟩:=Rd.at (As.gr o.g3) X;obtain⟨q1,D,E,rfl,IE,DF⟩:=gg;have u:=o.fg eV eG;have G:=u.fr IE;refine nx ?_;refine WP .r (PV.dQ iG cW rfl rfl (by omega))<|(aZ) cV (As.lG G.g1)<|(eW) G fun b8 w3 Kz U1 K=>?_;refine(cI) fY K fun w4 jS jZ p=>?_;refine(hW) ao p.b0<|(hW) ao p.b4<|(eN) (kb (k:=l[i].key) (q:=x.key)) p fun w5 s5 y=>?_;refine de ?_;refine WC.dW (t:=26) (v:=.bool (decide (0≤bC l[i].key x.key) && !put)) y ?_<|?_
  ·
   refine(dc) (fun g23=>?_) (fun g23=>?_)
   ·
    exact(cz) (by simp only [g23];first | rfl | simp) (y)
   exact(cz) (by simp only [g23];first | rfl | simp) (y)
  intro w6 z;refine(aT) (fun H=>?_) fun H=>?_
  ·
   simp at H
   obtain⟨hA,hB⟩:=H;subst hB
   have f:eZ x (l.drop i) false=[x]++(if bC l[i].key x.key=0 then [] else [l[i]])++eZ x (l.drop (i+1)) true:=by rw [Y];simp [hA]
   refine(aZ) cV z.b4<|?_;have j:=z;refine(bX) GU (jr j.e0 (As.gr j.g5) C) ?_;rintro _ w7 ⟨f1,f2,f3,rfl,jE⟩;have L:=St.lr j jE;have N:=St.bP jE;have hsz:=j.size;have db:=L.aY (by omega);have J:=s.trans (bH.dA (F:=fun x=>x∈aI f1) N) hsz;refine WL.go rfl (OX.aO (us:=x.row f1 f2 f3) nK rfl rfl rfl rfl fun b30 w8 Yk Yl=>?_);have O:=db.cX Yk Yl;refine WL.ap rfl rfl O.p5 (SR.dd (A:=fun _=>True) (x:=x) (As.gb O.g0) trivial rfl (Rec.one _ _ _ _) ⟨f1,f2,f3,rfl,(As.gr O.g1),C⟩) fun a31 aeE w9 anL aeF P=>?_;refine(aT) (fun d=>?_) fun d=>?_
   ·
    simp at d
    rw [if_neg d] at f;refine(aZ) cV P.b3<|?_;refine WL.go rfl (OX.aO (us:=l[i].row q1 D E) nK rfl rfl rfl rfl fun b36 iS Q R=>?_);have S:=P.cX Q R;refine WL.ap rfl rfl S.p1 (SR.dd (A:=fun _=>True) (x:=l[i]) (As.gb S.g0) trivial rfl (Rec.one _ _ _ _) ⟨q1,D,E,rfl,(As.gr S.g5),DF⟩) fun a37 T iX Ym Yn eb=>?_;refine gX ?_;refine eC (i+1,true,_,_,a37,((b+1)+1),T) ⟨eb.p9.p9.p9.p3.k4,⟨by omega,J,by rw [← hinv,f];simp,trivial⟩⟩
   simp at d
   rw [if_pos d] at f;refine ez ?_;refine eC (i+1,true,_,_,a31,(b+1),aeE) ⟨P.p8.p8.p8.p3.k4,⟨by omega,J,by rw [← hinv,f];simp,trivial⟩⟩
  have f:eZ x (l.drop i) put=[]++(if bC l[i].key x.key=0 then [] else [l[i]])++eZ x (l.drop (i+1)) put:=by
   rw [Y]
   cases put
   ·
    simp at H;rw [decide_eq_false (by omega)];rfl
   simp
  refine(aT) (fun d=>?_) fun d=>?_
  ·
   simp at d
   rw [if_neg d] at f;refine(aZ) cV z.b0<|?_;refine WL.go rfl (OX.aO (us:=l[i].row q1 D E) nK rfl rfl rfl rfl fun b36 w7 Q R=>?_);have j:=z.cX Q R;refine WL.ap rfl rfl j.p4 (SR.dd (A:=fun _=>True) (x:=l[i]) (As.gb j.g0) trivial rfl (Rec.one _ _ _ _) ⟨q1,D,E,rfl,(As.gr j.g2),DF⟩) fun a37 T w8 Ym Yn L=>?_;refine gX ?_;refine eC (i+1,put,_,_,a37,(b+1),T) ⟨L.p7.p7.p7.p3.k4,⟨by omega,s,by rw [← hinv,f];simp,trivial⟩⟩
  simp at d
  rw [if_pos d] at f;refine ez ?_;refine eC (i+1,put,_,_,g,b,h) ⟨z.p6.p6.p6.p6.k4,⟨by omega,s,by rw [← hinv,f];simp,trivial⟩⟩
 simp at g13
 have hK:l.drop i=[]:=List.drop_eq_nil_of_le (by omega);rw [hK] at hinv;refine(aT) (fun B=>?_) fun B=>?_
 ·
  simp at B
  subst B;refine(aZ) cV o.b1<|?_;have u:=o;refine(bX) GU (jr u.e0 (As.gr u.g2) C) ?_;rintro _ w3 ⟨f1,f2,f3,rfl,kz⟩;have G:=St.lr u kz;have N:=St.bP kz;have hsz:=u.size;have K:=G.aY (by omega);have J:=s.trans (bH.dA (F:=fun x=>x∈aI f1) N) hsz;refine WL.go rfl (OX.aO (us:=x.row f1 f2 f3) nK rfl rfl rfl rfl fun b44 w4 NJ SE=>?_);have p:=K.cX NJ SE;refine WL.ap rfl rfl p.p2 (SR.dd (A:=fun _=>True) (x:=x) (As.gb p.g0) trivial rfl (Rec.one _ _ _ _) ⟨f1,f2,f3,rfl,(As.gr p.g1),C⟩) fun a45 anN w5 anO anP y=>?_;refine(bw) ?_;exact⟨_,_,_,_,rfl,J,by rw [← hinv];exact y.k1⟩
 simp at B
 subst B;refine(bw) ?_;exact⟨_,_,_,_,rfl,s,by rw [← hinv];simp only [eZ,List.append_nil,if_true];exact o.k1⟩
theorem zC{x:Rec}(hk:Rd RR.key 2 Z w a n c x.reads):CR prog 121 #[.agg (x.row a n c).toArray] w (.bool (eE x)):=by
 have hlen:=SR.len hk;have hle:=SR.le hk;refine enter func121 rfl ntmps121 rfl<|?_;have c0:aS [] w w:=aS.refl _ _;refine bN ?_;refine WL.go rfl (OX.box rfl rfl rfl fun b1 w1 H b=>?_);have s1:=H.ext;have P:=H.iI c0;have c1:=c0.trans s1;refine fO ?_;refine WP .r (PV.fa zw rfl)<|(a8) dE b.range<|?_;refine WP .r (PV.ie et rfl)<|cj ?_;refine WC.loop (σ:=Nat) (dn:=fun i=>[(1,.pointer (some ⟨b1,0,none⟩)),(6,.slice a n c),(7,.int .i64 (n:Int)),(8,.int .i64 (i:Int))]) (I:=fun i w'=>aS [] w w'∧bT w' b1 88 (x.row a n c)∧i≤n∧∀j y,j<i→x.reads[j]?=some y→fS y=true) (μ:=fun i=>n - i) 0 Sub.t ⟨c1,b,by omega,fun j y h=>by omega⟩ ?_;rintro i w2 ⟨c2,b,hi,J⟩;refine(aT) (fun g9=>?_) fun g9=>?_
 ·
  simp at g9
  have B:i<x.reads.length:=by omega
  refine de ?_;obtain⟨Q,R,S,L,_,C,D,_⟩:=SR.at hk (ak B);have C:=RR.ba C;subst C;have D:=aW D c2 (by simp);refine nx ?_;refine WP .r (PV.dQ et L rfl rfl (by omega))<|(aZ) ao D<|?_;refine WL.go rfl (OX.alloc E1 rfl fun b4 w3 E u=>?_);have d:=E.ext;have N:=E.iI c2;have K:b1≠b4:=E.ne b.lt;have T:b4≠b1:=Ne.symm K;have c3:=c2.trans d;have b:=b.ext d;refine WL.go rfl (OX.mx hP u rfl rfl rfl rfl rfl fun w4 e _ u=>?_);have c4:=c3.own e N;have b:=b.bV e (by simp [K]);refine(aZ) ao u.range<|(bX) Kq (iR (k:=x.reads[i])) ?_;rintro _ w5 ⟨rfl,p⟩;have c5:=c4.trans p;have b:=b.ext p;have u:=u.ext p;refine(aT) (fun g14=>?_) fun g14=>?_
  ·
   simp at g14
   have F:eE x=false:=by unfold eE;rw [Bool.and_eq_false_iff];left;rw [List.all_eq_false];exact⟨_,List.getElem_mem B,by simp [g14]⟩
   refine(bw) ?_;exact⟨by rw [F],c5⟩
  simp at g14
  refine ez ?_;refine EX.again (i+1) (Sub.k2 rfl rfl<|Sub.cons rfl<|Sub.iZ rfl (by simp)<|Sub.nil) ⟨c5,b,by omega,cF B J g14⟩ (by omega)
 simp at g9
 have F:eE x=gp x:=by
  unfold eE
  rw [show x.reads.all fS=true from List.all_eq_true.2 fun y hy=>by obtain⟨j,O,rfl⟩:=List.mem_iff_getElem.1 hy;exact J j _ (by omega) (ak O)]
  rfl
 refine fO ?_;refine WC.lB (t:=2) (v:=.bool (gp x)) (aS [] w2) ?_<|?_
 ·
  refine nx ?_;refine WP .r (PV.fa pH rfl)<|(hW) ao b.range<|(bX) Kq (iR (k:=x.key)) ?_;rintro _ w3 ⟨rfl,d⟩;have c3:=c2.trans d;have b:=b.ext d;refine(dc) (fun g19=>?_) (fun g19=>?_)
  ·
   refine WP .r (PV.fa pH rfl)<|(hW) ao b.range<|(bX) HU (eu (k:=x.key)) ?_;rintro _ w4 ⟨rfl,e⟩;have c4:=c3.trans e;have b:=b.ext e;refine(dc) (fun f=>?_) (fun f=>?_)
   ·
    refine WP .r (PV.fa u5 rfl)<|(a8) fw b.range<|?_;refine WP .r (PV.tS rS rfl)<|(dc) (fun g=>?_) (fun g=>?_)
    ·
     refine WP .r (PV.fa zw rfl)<|(a8) dE b.range<|?_;refine WP .r (PV.ie et rfl)<|(dc) (fun m=>?_) (fun m=>?_)
     ·
      refine WP .r (PV.fa u6 rfl)<|(a8) aN b.range<|(dc) (fun o=>?_) (fun o=>?_)
      ·
       refine WP .r (PV.fa u6 rfl)<|(a8) aN b.range<|?_;refine WP .r (PV.fa pI rfl)<|(a8) aN b.range<|(dc) (fun q=>?_) (fun q=>?_)
       ·
        refine WP .r (PV.fa pI rfl)<|(a8) aN b.range<|(dc) (fun s=>?_) (fun s=>?_)
        ·
         refine WP .r (PV.fa E8 rfl)<|(a8) aN b.range<|(dc) (fun z=>?_) (fun z=>?_)
         ·
          refine WP .r (PV.fa E8 rfl)<|(a8) aN b.range<|(dc) (fun A=>?_) (fun A=>?_)
          ·
           refine WP .r (PV.fa E9 rfl)<|(a8) dH b.range<|(dc) (fun G=>?_) (fun G=>?_)
           ·
            exact(gG) (by unfold gp;simp only [g19,f,g,m,o,q,s,z,A,G,← hlen];first | rfl | simp) (d.trans e)
           refine WP .r (PV.fa pH rfl)<|(hW) ao b.range<|(bX) HV (df (k:=x.key)) ?_;rintro _ w5 ⟨rfl,p⟩;have c5:=c4.trans p;have b:=b.ext p;exact(gG) (by unfold gp;simp only [g19,f,g,m,o,q,s,z,A,G,← hlen];first | rfl | simp) ((d.trans e).trans p)
          exact(gG) (by unfold gp;simp only [g19,f,g,m,o,q,s,z,A,← hlen];first | rfl | simp) (d.trans e)
         refine aX ?_;exact(gG) (by unfold gp;simp only [g19,f,g,m,o,q,s,z,← hlen];first | rfl | simp) (d.trans e)
        refine aX ?_;exact(gG) (by unfold gp;simp only [g19,f,g,m,o,q,s,← hlen];first | rfl | simp) (d.trans e)
       refine aX ?_;refine aX ?_;exact(gG) (by unfold gp;simp only [g19,f,g,m,o,q,← hlen];first | rfl | simp) (d.trans e)
      refine aX ?_;refine aX ?_;exact(gG) (by unfold gp;simp only [g19,f,g,m,o,← hlen];first | rfl | simp) (d.trans e)
     refine aX ?_;refine aX ?_;refine aX ?_;exact(gG) (by unfold gp;simp only [g19,f,g,m,← hlen];first | rfl | simp) (d.trans e)
    refine aX ?_;refine aX ?_;refine aX ?_;exact(gG) (by unfold gp;simp only [g19,f,g,← hlen];first | rfl | simp) (d.trans e)
   refine aX ?_;refine aX ?_;refine aX ?_;refine aX ?_;exact(gG) (by unfold gp;simp only [g19,f,← hlen];first | rfl | simp) (d.trans e)
  refine aX ?_;refine aX ?_;refine aX ?_;refine aX ?_;exact(gG) (by unfold gp;simp only [g19,← hlen];first | rfl | simp) d
 intro w3 d;have c3:=c2.trans d;have b:=b.ext d;refine(bw) ?_;exact⟨by rw [F],c3⟩
theorem tz(hl:Rd RR.ei 8 Z w a n c l):Calls prog 74 #[.slice a n c] w fun e w'=>∃b:Bool,e=.returned (.bool b)∧(b=true↔nk l)∧aS [] w w':=by
 have hlen:=SR.len hl;have hle:=SR.le hl;refine enter func74 rfl ntmps74 rfl<|?_;have c0:aS [] w w:=aS.refl _ _;refine kR ?_;refine WP .r (PV.ie iG rfl)<|cj ?_;refine WC.loop (σ:=Nat) (dn:=fun i=>[(0,.slice a n c),(5,.slice a n c),(6,.int .i64 (n:Int)),(7,.int .i64 (i:Int))]) (I:=fun i w'=>aS [] w w'∧i≤n∧∀j y,j<i→l[j]?=some y→qe l j y) (μ:=fun i=>n - i) 0 Sub.t ⟨c0,by omega,fun j y h=>by omega⟩ ?_;rintro i w1 ⟨c1,hi,u⟩;refine(aT) (fun g8=>?_) fun g8=>?_
 ·
  simp at g8
  have p:i<l.length:=by omega
  have d:=getElem!_pos l i p;obtain⟨P,Q,R,J,_,⟨q1,S,U,rfl,K,V⟩,z,_⟩:=SR.at hl (ak p);refine de ?_;have z:=aW z c1 (by simp);refine bN ?_;refine WP .r (PV.dQ iG J rfl rfl (by omega))<|(aZ) cV z<|?_;refine WL.go rfl (OX.alloc nN rfl fun b4 w2 F f=>?_);have s2:=F.ext;have L:=F.iI c1;have c2:=c1.trans s2;refine nx ?_;refine WL.go rfl (OX.mx fY f rfl rfl rfl rfl rfl fun w3 N _ f=>?_);have c3:=c2.own N L;refine cq ?_;refine WC.ke (t:=30) (v:=.bool (ru l i)) (aS [] w3) ?_<|?_
  ·
   refine WC.drawn (m:=15) (C:=aS [] w3) (T:=fun _=>aS []) (E:=cB [(1,fun v _=>v=.bool (eE l[i]))]) (bm (⟨fun _ _ _ _ _ _ _ h=>h,trivial⟩)) mixed (by kernel_rfl) (aS.drew _ _)<|?_;refine DP .r (fun _ o=>PV.G5 cV (f.ext o).range rfl rfl)<|?_;refine DW.e rfl rfl rfl rfl rfl (fun W o X=>OX.call Xs rfl rfl ((zC (K.ext (c3.trans o))).mono ?_))<|?_
   ·
    rintro _ wy ⟨rfl,hy⟩;exact⟨_,rfl,o.trans hy,hy,_,rfl,rfl⟩
   rintro _ Y _ rfl;refine(ot) (fun g15=>?_) (fun g15=>?_)
   ·
    refine(cQ) ?_;rintro w4 g _;have c4:=c3.trans g;have f:=f.ext g;exact(cz) (by unfold ru;first | (simp only [d,s,g15];done) | (simp only [d,s,g15];rfl) | (simp only [d,g15];rfl) | (simp only [d];rw [Bool.not_eq_true'] at g15;simp [g15]) | (simp only [d];simp at g15 g18;simp [g15,g18])) g
   refine(ot) (fun g18=>?_) (fun g18=>?_)
   ·
    have G:i - 1<l.length:=by omega
    have s:=getElem!_pos l (i - 1) G;have aeG:=of_decide_eq_true g18;obtain⟨bx2,ox2,rx2,O,_,⟨p1,p2,p3,rfl,_,_⟩,A,_⟩:=SR.at hl (ak G);have A:=aW A c3 (by simp);refine cq ?_;refine DP .r (fun _ o=>PV.DT iG (i - 1) O rfl rfl (by omega) (by omega))<|DP .r (fun _ o=>PV.fa pH rfl)<|DP .r (fun _ o=>PV.wg ao (aW A o (by simp)) rfl rfl)<|DP .r (fun _ o=>PV.fa pH rfl)<|DP .r (fun _ o=>PV.wg ao (f.ext o).range rfl rfl)<|(cQ)<|?_;rintro w4 g _;have c4:=c3.trans g;have f:=f.ext g;refine(bX) Si (kb (k:=l[i - 1].key) (q:=l[i].key)) ?_;rintro _ w5 ⟨rfl,B⟩;have c5:=c4.trans B;have f:=f.ext B;exact(cz) (by unfold ru;first | (simp only [d,s,g15,g18];done) | (simp only [d,s,g15,g18];rfl) | (simp only [d,g15,g18];rfl) | (simp only [d];rw [Bool.not_eq_true'] at g15;simp [g15]) | (simp only [d];simp at g15 g18;simp [g15,g18])) (g.trans B)
   refine(cQ) ?_;rintro w4 g _;have c4:=c3.trans g;have f:=f.ext g;exact(cz) (by unfold ru;first | (simp only [d,s,g15,g18];done) | (simp only [d,s,g15,g18];rfl) | (simp only [d,g15,g18];rfl) | (simp only [d];rw [Bool.not_eq_true'] at g15;simp [g15]) | (simp only [d];simp at g15 g18;simp [g15,g18])) g
  intro w4 g;have c4:=c3.trans g;have f:=f.ext g;refine(aT) (fun D=>?_) fun D=>?_
  ·
   skip
   refine(bw) ?_;exact⟨false,rfl,⟨fun h=>(by cases h),fun h=>absurd ((qf p).2 (h.2 i _ (ak p))) (by simp [D])⟩,c4⟩
  refine ez ?_;refine EX.again (i+1) (Sub.k2 rfl rfl<|Sub.cons rfl<|Sub.iZ rfl (by simp)<|Sub.nil) ⟨c4,by omega,cF p u ((qf p).1 D)⟩ (by omega)
 ·
  simp at g8
  have u:∀j y,l[j]?=some y→qe l j y:=fun j x H=>u j x (by have:=(List.getElem?_eq_some_iff.1 H).1;omega) H;refine gX ?_;refine WP .r (PV.ie iG rfl)<|(bw) ?_;exact⟨_,rfl,⟨fun h=>⟨by simp at h;omega,u⟩,fun h=>by have:=h.1;simp;omega⟩,c1⟩
 -- k9 eM G17.T
set_option maxHeartbeats 400000
theorem rZ(hl:Rd RR.ei 8 Z w a n c l):CR prog 74 #[.slice a n c] w (.bool (qk l)):=
 (tz hl).mono fun _ _ ⟨b,h1,d,e⟩=>⟨by rw [h1,D7 d],e⟩
theorem fx(s:St w M Z w []) (hi:Rd RR.aC 4 Z w a1 n1 e1 x.ab) (hr:Rd RR.ei 8 Z w a2 n2 e2 x.ah) (t:x.ah.length≤1000000) (C:x.ab.length≤1000000):Calls prog 35 #[.agg (x.row a1 n1 e1 a2 n2 e2).toArray] w fun e w'=>∃f g h i j m Z',e=.returned (.agg (x.row f g h i j m).toArray)∧bH w.heap.size Z Z'∧St w M Z' w' [As.os RR.aC 78 4 f g h x.ab,As.os RR.ei 88 8 i j m x.ah]:=by
 have D:=hi.len;have E:=hr.len;refine enter func35 rfl ntmps35 rfl<|?_;have aP:=s;have st1:=aP.fr hi;have st2:=st1.fr hr;have u:=st2.dq RR.aC 78 4;refine(dy) u fun b1 w1 F G v=>?_;refine(eW) v fun b2 w2 H I d=>?_;refine(a8) i6 d.b1<|?_;refine WL.ap rfl rfl d.p2 ((As.gr d.g4)) fun a5 J w3 K L y=>?_;refine nx ?_;refine WL.s1 y.p2 fun w4 _ o=>?_;refine(a8) dD o.b0<|?_;have b:=o;refine(bX) aed (Cr b.e0 (As.gr b.g3) t) ?_;rintro _ w5 ⟨f1,f2,f3,N,rfl,p,z⟩;have A:=St.lv b z p;have B:=p.le b.size;refine nx ?_;refine WL.s1 A.p1 fun w6 _ q=>?_;refine(aZ) aM q.b0<|(cI) dL q.p3 fun w7 O P r=>?_;refine(kS) aM r.b0<|?_;exact⟨_,_,_,_,_,_,_,rfl,B,r.p2.p3.k2⟩
theorem sX(hi:Rd RR.aC 4 Z w a1 n1 e1 x.ab) (hr:Rd RR.ei 8 Z w a2 n2 e2 x.ah) {k:Key}:CR prog 76 #[.agg (x.row a1 n1 e1 a2 n2 e2).toArray,k.val] w (.agg (bz x.ab k).cells.toArray):=by
 have hlen:=SR.len hi;have hle:=SR.le hi;refine enter func76 rfl ntmps76 rfl<|?_;have c0:aS [] w w:=aS.refl _ _;refine bN ?_;refine WL.go rfl (OX.box rfl rfl rfl fun b2 w1 H e=>?_);have s1:=H.ext;have U:=H.iI c0;have c1:=c0.trans s1;refine WL.go rfl (OX.box rfl rfl rfl fun b3 w2 u b=>?_);have s2:=u.ext;have V:=u.iI c1;have O:b2≠b3:=u.ne e.lt;have W:b3≠b2:=Ne.symm O;have c2:=c1.trans s2;have e:=e.ext s2;refine WL.go rfl (OX.alloc Nb rfl fun b4 w3 m d=>?_);have v:=m.ext;have J:=m.iI c2;have P:b2≠b4:=m.ne e.lt;have X:b4≠b2:=Ne.symm P;have z:b3≠b4:=m.ne b.lt;have Y:b4≠b3:=Ne.symm z;have c3:=c2.trans v;have e:=e.ext v;have b:=b.ext v;refine de ?_;refine WP .r (PV.fa uY rfl)<|(a8) i6 e.range<|?_;refine WP .r (PV.ie qC rfl)<|cj ?_;refine WC.loop (σ:=Nat) (dn:=fun i=>[(3,.pointer (some ⟨b3,0,none⟩)),(4,.pointer (some ⟨b4,0,none⟩)),(8,.slice a1 n1 e1),(9,.int .i64 (n1:Int)),(10,.int .i64 (i:Int))]) (I:=fun i w'=>aS [] w w'∧bT w' b3 40 [.int .i64 k.kind,.string k.text]∧bT w' b4 78 [.int .i64 0,.string ⟨#[]⟩,.string ⟨#[]⟩,.int .i64 0]∧i≤n1∧(∀j y,j<i→x.ab[j]?=some y→(y.key == k)=false)) (μ:=fun i=>n1 - i) 0 Sub.t ⟨c3,b,d,by omega,fun j x h=>by omega⟩ ?_;rintro i w4 ⟨c4,b,d,hi1,A⟩;refine(aT) (fun g11=>?_) fun g11=>?_
 ·
  simp at g11
  have B:i<x.ab.length:=by omega
  refine de ?_;obtain⟨bx1,ox1,rx1,Q,_,C,D,_⟩:=SR.at hi (ak B);have C:=RR.ba C;subst C;have D:=aW D c4 (by simp);refine nx ?_;refine WP .r (PV.dQ qC Q rfl rfl (by omega))<|(aZ) ks D<|?_;refine WL.go rfl (OX.alloc Nb rfl fun o w5 s f=>?_);have g:=s.ext;have R:=s.iI c4;have K:b3≠o:=s.ne b.lt;have SF:o≠b3:=Ne.symm K;have L:b4≠o:=s.ne d.lt;have S:o≠b4:=Ne.symm L;have c5:=c4.trans g;have b:=b.ext g;have d:=d.ext g;refine WL.go rfl (OX.mx zs f rfl rfl rfl rfl rfl fun w6 E _ f=>?_);have N:=c5.own E R;have b:=b.bV E (by simp [K]);have d:=d.bV E (by simp [L]);refine cj ?_;refine WP .r (PV.fa rU rfl)<|(hW) ao f.range<|(aZ) ao b.range<|?_;refine WP .r (PV.DV fK (p:=x.ab[i].key) (q:=k) rfl rfl)<|(aT) (fun g17=>?_) fun g17=>?_
  ·
   simp at g17
   have F:bz x.ab k=x.ab[i]:=by unfold bz;rw [jw B A (by simpa using g17)];rfl
   refine(aZ) ks f.range<|?_;refine WL.go rfl (OX.mx zs d rfl rfl rfl rfl rfl fun w7 G _ d=>?_);have T:=N.own G J;have b:=b.bV G (by simp [z]);have f:=f.bV G (by simp [S]);refine(kS) ks d.range<|?_;exact⟨by rw [F],T⟩
  simp at g17
  refine ez ?_;refine EX.again (i+1) (Sub.k4 rfl rfl rfl rfl<|Sub.iZ rfl (by simp)<|Sub.nil) ⟨N,b,d,by omega,cF B A (by simpa using g17)⟩ (by omega)
 simp at g11
 have F:bz x.ab k=⟨k,⟨#[]⟩,0⟩:=by unfold bz;rw [qd (i:=i) (by omega) A];rfl
 refine(aZ) ao b.range<|?_;refine WP .r (PV.bB (us:=(cv.mk k ⟨#[]⟩ 0).cells) MX rfl rfl rfl)<|?_;refine WL.go rfl (OX.mx zs d rfl rfl rfl rfl rfl fun w5 g _ d=>?_);have c5:=c4.own g J;have b:=b.bV g (by simp [z]);refine(kS) ks d.range<|?_;exact⟨by rw [F],c5⟩
theorem r5(hi:Rd RR.aC 4 Z w a1 n1 e1 x.ab) (hr:Rd RR.ei 8 Z w a2 n2 e2 x.ah) {k:Key}:CR prog 39 #[.agg (x.row a1 n1 e1 a2 n2 e2).toArray,k.val] w (.string (bz x.ab k).value):=by
 refine enter func39 rfl ntmps39 rfl<|?_;have c0:aS [] w w:=aS.refl _ _;refine bN ?_;refine WL.go rfl (OX.box rfl rfl rfl fun b2 w1 h b=>?_);have s1:=h.ext;have j:=h.iI c0;have c1:=c0.trans s1;refine WL.go rfl (OX.box rfl rfl rfl fun b3 w2 d e=>?_);have s2:=d.ext;have m:=d.iI c1;have i:b2≠b3:=d.ne b.lt;have o:b3≠b2:=Ne.symm i;have c2:=c1.trans s2;have b:=b.ext s2;refine(aZ) aM b.range<|(aZ) ao e.range<|(bX) W7 (sX (k:=k) (hi.ext c2) (hr.ext c2)) ?_;rintro _ w3 ⟨rfl,g⟩;have c3:=c2.trans g;have b:=b.ext g;have e:=e.ext g;refine WP .r (PV.ui (fs:=[_,_,_]) (f:=1) (off:=2) (T:=78) underlying78 rfl rfl (show ∀w,(isAgg 9).run _ w=.ok false w from isAgg9) rfl rfl)<|(bw) ?_;exact⟨rfl,c3⟩
theorem Ct(hi:Rd RR.aC 4 Z w a1 n1 e1 x.ab) (hr:Rd RR.ei 8 Z w a2 n2 e2 x.ah) {k:Key}:CR prog 222 #[.agg (x.row a1 n1 e1 a2 n2 e2).toArray,k.val] w (.int .i64 (bz x.ab k).changed):=by
 refine enter func222 rfl ntmps222 rfl<|?_;have c0:aS [] w w:=aS.refl _ _;refine bN ?_;refine WL.go rfl (OX.box rfl rfl rfl fun b2 w1 h b=>?_);have s1:=h.ext;have j:=h.iI c0;have c1:=c0.trans s1;refine WL.go rfl (OX.box rfl rfl rfl fun b3 w2 d e=>?_);have s2:=d.ext;have m:=d.iI c1;have i:b2≠b3:=d.ne b.lt;have o:b3≠b2:=Ne.symm i;have c2:=c1.trans s2;have b:=b.ext s2;refine(aZ) aM b.range<|(aZ) ao e.range<|(bX) W7 (sX (k:=k) (hi.ext c2) (hr.ext c2)) ?_;rintro _ w3 ⟨rfl,g⟩;have c3:=c2.trans g;have b:=b.ext g;have e:=e.ext g;refine WP .r (PV.ui (fs:=[_,_,_]) (f:=2) (off:=3) (T:=78) underlying78 rfl rfl (show ∀w,(isAgg 3).run _ w=.ok false w from isAgg3) rfl rfl)<|(bw) ?_;exact⟨rfl,c3⟩
theorem mh(hi:Rd RR.aC 4 Z w a1 n1 e1 x.ab) (hr:Rd RR.ei 8 Z w a2 n2 e2 x.ah):Calls prog 36 #[.agg (x.row a1 n1 e1 a2 n2 e2).toArray] w fun e w'=>∃b:Bool,e=.returned (.bool b)∧(b=true↔jz x)∧aS [] w w':=by
 have hlen:=SR.len hi;have hle:=SR.le hi;have vf:=SR.len hr;have vk:=SR.le hr;refine enter func36 rfl ntmps36 rfl<|?_;have c0:aS [] w w:=aS.refl _ _;refine bN ?_;refine WL.go rfl (OX.box rfl rfl rfl fun b1 w1 Yo f=>?_);have s1:=Yo.ext;have aeH:=Yo.iI c0;have c1:=c0.trans s1;refine fO ?_;refine WP .r (PV.fa uY rfl)<|(a8) i6 f.range<|?_;refine WP .r (PV.ie qC rfl)<|cj ?_;refine WC.loop (σ:=Nat) (dn:=fun i=>[(1,.pointer (some ⟨b1,0,none⟩)),(8,.slice a1 n1 e1),(9,.int .i64 (n1:Int)),(10,.int .i64 (i:Int))]) (I:=fun i w'=>aS [] w w'∧bT w' b1 31 (x.row a1 n1 e1 a2 n2 e2)∧i≤n1∧∀j y,j<i→x.ab[j]?=some y→ig x.ad x.ab j=false) (μ:=fun i=>n1 - i) 0 Sub.t ⟨c1,f,by omega,fun j y h=>by omega⟩ ?_;rintro i w2 ⟨c2,f,eQ,L⟩;refine(aT) (fun g11=>?_) fun g11=>?_
 ·
  simp at g11
  have G:i<x.ab.length:=by omega
  have o:=getElem!_pos x.ab i G;obtain⟨bx1,ox1,rx1,R,_,S,H,_⟩:=SR.at hi (ak G);have S:=RR.ba S;subst S;refine de ?_;have H:=aW H c2 (by simp);refine bN ?_;refine WP .r (PV.dQ qC R rfl rfl (by omega))<|(aZ) ks H<|?_;refine WL.go rfl (OX.alloc Nb rfl fun b4 w3 U s=>?_);have s3:=U.ext;have vg:=U.iI c2;have vl:b1≠b4:=U.ne f.lt;have SG:b4≠b1:=Ne.symm vl;have c3:=c2.trans s3;have f:=f.ext s3;refine nx ?_;refine WL.go rfl (OX.mx zs s rfl rfl rfl rfl rfl fun w4 F _ s=>?_);have c4:=c3.own F vg;have f:=f.bV F (by simp [vl]);refine cq ?_;refine WC.ke (t:=59) (v:=.bool (ig x.ad x.ab i)) (aS [] w4) ?_<|?_
  ·
   refine WC.drawn (m:=43) (C:=aS [] w4) (T:=fun _=>aS []) (E:=cB [(2,fun v _=>v=.bool (fS x.ab[i].key)),(7,fun v _=>v=.bool (ay x.ab[i].key)),(23,fun v _=>v=.int .i64 (bC x.ab[i - 1].key x.ab[i].key))]) (bm (⟨fun _ _ _ _ _ _ _ h=>h,⟨fun _ _ _ _ _ _ _ h=>h,⟨fun _ _ _ _ _ _ _ h=>h,trivial⟩⟩⟩)) mixed (by kernel_rfl) (aS.drew _ _)<|?_;refine DP .r (fun _ g=>PV.fa rU rfl)<|DP .r (fun _ g=>PV.wg ao (s.ext g).range rfl rfl)<|?_;refine DW.e rfl rfl rfl rfl rfl (fun wx g hF=>OX.call Kq rfl rfl ((iR (k:=x.ab[i].key)).mono ?_))<|?_
   ·
    rintro _ wy ⟨rfl,hy⟩;exact⟨_,rfl,g.trans hy,hy,_,rfl,rfl⟩
   rintro _ wz _ rfl;refine(ot) (fun g19=>?_) (fun g19=>?_)
   ·
    refine aX ?_;refine aX ?_;refine aX ?_;refine(cQ) ?_;rintro w5 d _;have c5:=c4.trans d;have f:=f.ext d;have s:=s.ext d;exact(cz) (by unfold ig;first | (simp only [o,B,g19];done) | (simp only [o,B,g19];rfl) | (simp only [o,g19];rfl) | (simp only [o,g19];done)) d
   refine DP .r (fun _ g=>PV.fa rU rfl)<|DP .r (fun _ g=>PV.wg ao (s.ext g).range rfl rfl)<|?_;refine DW.e rfl rfl rfl rfl rfl (fun wx g hF=>OX.call HU rfl rfl ((eu (k:=x.ab[i].key)).mono ?_))<|?_
   ·
    rintro _ wy ⟨rfl,hy⟩;exact⟨_,rfl,g.trans hy,hy,_,rfl,rfl⟩
   rintro _ wz _ rfl;refine(ot) (fun p=>?_) (fun p=>?_)
   ·
    refine aX ?_;refine aX ?_;refine(cQ) ?_;rintro w5 d _;have c5:=c4.trans d;have f:=f.ext d;have s:=s.ext d;exact(cz) (by unfold ig;first | (simp only [o,B,g19,p];done) | (simp only [o,B,g19,p];rfl) | (simp only [o,g19,p];rfl) | (simp only [o,g19,p];done)) d
   refine(ot) (fun u=>?_) (fun u=>?_)
   ·
    have SH:i - 1<x.ab.length:=by omega
    have B:=getElem!_pos x.ab (i - 1) SH;have aeG:=of_decide_eq_true u;obtain⟨bx2,ox2,rx2,DE,_,V,W,_⟩:=SR.at hi (ak SH);have V:=RR.ba V;subst V;have W:=aW W c4 (by simp);refine DP .r (fun _ g=>PV.fa uY rfl)<|DP .r (fun _ g=>PV.ld1 i6 (f.ext g).range rfl rfl)<|bN ?_;refine DP .r (fun _ g=>PV.DT qC (i - 1) DE rfl rfl (by omega) (by omega))<|DP .r (fun _ g=>PV.fa rU rfl)<|DP .r (fun _ g=>PV.wg ao (aW W g (by simp)) rfl rfl)<|DP .r (fun _ g=>PV.fa rU rfl)<|DP .r (fun _ g=>PV.wg ao (s.ext g).range rfl rfl)<|?_;refine DW.e rfl rfl rfl rfl rfl (fun wx g hF=>OX.call Si rfl rfl ((kb (k:=x.ab[i - 1].key) (q:=x.ab[i].key)).mono ?_))<|?_
    ·
     rintro _ wy ⟨rfl,hy⟩;exact⟨_,rfl,g.trans hy,hy,_,rfl,rfl⟩
    rintro _ wz _ rfl;refine(ot) (fun D=>?_) (fun D=>?_)
    ·
     refine aX ?_;refine(cQ) ?_;rintro w5 d _;have c5:=c4.trans d;have f:=f.ext d;have s:=s.ext d;exact(cz) (by unfold ig;first | (simp only [o,B,g19,p,u,D];done) | (simp only [o,B,g19,p,u,D];rfl) | (simp only [o,g19,p,u,D];rfl) | (simp only [o,g19,p,u,D];done)) d
    refine DP .r (fun _ g=>PV.fa E4 rfl)<|DP .r (fun _ g=>PV.ld1 fw (s.ext g).range rfl rfl)<|DP .r (fun _ g=>PV.tS rS rfl)<|(ot) (fun z=>?_) (fun z=>?_)
    ·
     refine(cQ) ?_;rintro w5 d _;have c5:=c4.trans d;have f:=f.ext d;have s:=s.ext d;exact(cz) (by unfold ig;first | (simp only [o,B,g19,p,u,D,z];done) | (simp only [o,B,g19,p,u,D,z];rfl) | (simp only [o,g19,p,u,D,z];rfl) | (simp only [o,g19,p,u,D,z];done)) d
    refine DP .r (fun _ g=>PV.fa uZ rfl)<|DP .r (fun _ g=>PV.ld1 aN (s.ext g).range rfl rfl)<|(ot) (fun A=>?_) (fun A=>?_)
    ·
     refine(cQ) ?_;rintro w5 d _;have c5:=c4.trans d;have f:=f.ext d;have s:=s.ext d;exact(cz) (by unfold ig;first | (simp only [o,B,g19,p,u,D,z,A];done) | (simp only [o,B,g19,p,u,D,z,A];rfl) | (simp only [o,g19,p,u,D,z,A];rfl) | (simp only [o,g19,p,u,D,z,A];done)) d
    refine DP .r (fun _ g=>PV.fa uZ rfl)<|DP .r (fun _ g=>PV.ld1 aN (s.ext g).range rfl rfl)<|DP .r (fun _ g=>PV.fa kY rfl)<|DP .r (fun _ g=>PV.ld1 aN (f.ext g).range rfl rfl)<|(cQ)<|?_;rintro w5 d _;have c5:=c4.trans d;have f:=f.ext d;have s:=s.ext d;exact(cz) (by unfold ig;first | (simp only [o,B,g19,p,u,D,z,A];done) | (simp only [o,B,g19,p,u,D,z,A];rfl) | (simp only [o,g19,p,u,D,z,A];rfl) | (simp only [o,g19,p,u,D,z,A];done)) d
   refine aX ?_;refine bN ?_;refine DP .r (fun _ g=>PV.fa E4 rfl)<|DP .r (fun _ g=>PV.ld1 fw (s.ext g).range rfl rfl)<|DP .r (fun _ g=>PV.tS rS rfl)<|(ot) (fun z=>?_) (fun z=>?_)
   ·
    refine(cQ) ?_;rintro w5 d _;have c5:=c4.trans d;have f:=f.ext d;have s:=s.ext d;exact(cz) (by unfold ig;first | (simp only [o,B,g19,p,u,z];done) | (simp only [o,B,g19,p,u,z];rfl) | (simp only [o,g19,p,u,z];rfl) | (simp only [o,g19,p,u,z];done)) d
   refine DP .r (fun _ g=>PV.fa uZ rfl)<|DP .r (fun _ g=>PV.ld1 aN (s.ext g).range rfl rfl)<|(ot) (fun A=>?_) (fun A=>?_)
   ·
    refine(cQ) ?_;rintro w5 d _;have c5:=c4.trans d;have f:=f.ext d;have s:=s.ext d;exact(cz) (by unfold ig;first | (simp only [o,B,g19,p,u,z,A];done) | (simp only [o,B,g19,p,u,z,A];rfl) | (simp only [o,g19,p,u,z,A];rfl) | (simp only [o,g19,p,u,z,A];done)) d
   refine DP .r (fun _ g=>PV.fa uZ rfl)<|DP .r (fun _ g=>PV.ld1 aN (s.ext g).range rfl rfl)<|DP .r (fun _ g=>PV.fa kY rfl)<|DP .r (fun _ g=>PV.ld1 aN (f.ext g).range rfl rfl)<|(cQ)<|?_;rintro w5 d _;have c5:=c4.trans d;have f:=f.ext d;have s:=s.ext d;exact(cz) (by unfold ig;first | (simp only [o,B,g19,p,u,z,A];done) | (simp only [o,B,g19,p,u,z,A];rfl) | (simp only [o,g19,p,u,z,A];rfl) | (simp only [o,g19,p,u,z,A];done)) d
  intro w5 d;have c5:=c4.trans d;have f:=f.ext d;have s:=s.ext d;refine(aT) (fun X=>?_) fun X=>?_
  ·
   skip
   refine(bw) ?_;exact⟨false,rfl,⟨fun h=>(by cases h),fun h=>absurd (h.1 i _ (ak G)) (by simp [X])⟩,c5⟩
  refine ez ?_;refine EX.again (i+1) (Sub.k2 rfl rfl<|Sub.cons rfl<|Sub.iZ rfl (by simp)<|Sub.nil) ⟨c5,f,by omega,cF (P:=fun j _=>ig x.ad x.ab j=false) G L X⟩ (by omega)
 simp at g11
 have L:yL x.ad x.ab:=fun j y J=>L j y (by have:=(List.getElem?_eq_some_iff.1 J).1;omega) J;refine gX ?_;refine WP .r (PV.fa rT rfl)<|(a8) dD f.range<|?_;refine WP .r (PV.ie iG rfl)<|cj ?_;refine WC.loop (σ:=Nat) (dn:=fun i=>[(1,.pointer (some ⟨b1,0,none⟩)),(62,.slice a2 n2 e2),(63,.int .i64 (n2:Int)),(64,.int .i64 (i:Int))]) (I:=fun i w'=>aS [] w w'∧bT w' b1 31 (x.row a1 n1 e1 a2 n2 e2)∧i≤n2∧∀(j:Nat) (y:Rec),j<i→x.ah[j]?=some y→y.av≤x.ad) (μ:=fun i=>n2 - i) 0 Sub.t ⟨c2,f,by omega,fun j y h=>by omega⟩ ?_;rintro i2 w3 ⟨c3,f,anR,N⟩;refine(aT) (fun Y=>?_) fun Y=>?_
 ·
  simp at Y
  have G:i2<x.ah.length:=by omega
  obtain⟨bx1,ox1,rx1,R,_,⟨q1,q2,q3,rfl,IE,DF⟩,H,_⟩:=SR.at hr (ak G);refine de ?_;have H:=aW H c3 (by simp);refine nx ?_;refine WP .r (PV.dQ iG R rfl rfl (by omega))<|(aZ) cV H<|?_;refine WL.go rfl (OX.alloc nN rfl fun b6 w4 DD IF=>?_);have F:=DD.ext;have Fk:=DD.iI c3;have vm:b1≠b6:=DD.ne f.lt;have SI:b6≠b1:=Ne.symm vm;have c4:=c3.trans F;have f:=f.ext F;refine WL.go rfl (OX.mx fY IF rfl rfl rfl rfl rfl fun w5 d _ IF=>?_);have c5:=c4.own d Fk;have f:=f.bV d (by simp [vm]);refine cj ?_;refine WP .r (PV.fa pI rfl)<|(a8) aN IF.range<|?_;refine WP .r (PV.fa kY rfl)<|(a8) aN f.range<|(aT) (fun O=>?_) fun O=>?_
  ·
   simp at O
   refine(bw) ?_;exact⟨false,rfl,⟨fun h=>(by cases h),fun h=>absurd (h.2.1 i2 _ (ak G)) (by omega)⟩,c5⟩
  simp at O
  refine ez ?_;refine EX.again (i2+1) (Sub.k2 rfl rfl<|Sub.cons rfl<|Sub.iZ rfl (by simp)<|Sub.nil) ⟨c5,f,by omega,cF (P:=fun _ (y:Rec)=>y.av≤x.ad) G N O⟩ (by omega)
 simp at Y
 have N:∀(j:Nat) (y:Rec),x.ah[j]?=some y→y.av≤x.ad:=fun j y J=>N j y (by have:=(List.getElem?_eq_some_iff.1 J).1;omega) J;refine fO ?_;refine WC.lB (t:=2) (v:=.bool (l7 x)) (aS [] w3) ?_<|?_
 ·
  refine nx ?_;refine WP .r (PV.fa kY rfl)<|(a8) aN f.range<|(dc) (fun K=>?_) (fun K=>?_)
  ·
   refine WP .r (PV.fa kY rfl)<|(a8) aN f.range<|(dc) (fun Q=>?_) (fun Q=>?_)
   ·
    refine WP .r (PV.fa uY rfl)<|(a8) i6 f.range<|?_;refine WP .r (PV.ie qC rfl)<|(dc) (fun Pw=>?_) (fun Pw=>?_)
    ·
     refine WP .r (PV.fa rT rfl)<|(a8) dD f.range<|(bX) aee (rZ (hr.ext c3)) ?_;rintro _ w4 ⟨rfl,F⟩;have c4:=c3.trans F;have f:=f.ext F;exact(gG) (by unfold l7;simp only [K,Q,Pw,← hlen];first | rfl | simp) F
    exact(gG) (by unfold l7;simp only [K,Q,Pw,← hlen];first | rfl | simp) (aS.refl _ _)
   exact(gG) (by unfold l7;simp only [K,Q,← hlen];first | rfl | simp) (aS.refl _ _)
  refine aX ?_;exact(gG) (by unfold l7;simp only [K,← hlen];first | rfl | simp) (aS.refl _ _)
 intro w4 F;have c4:=c3.trans F;have f:=f.ext F;refine(bw) ?_;exact⟨_,rfl,⟨fun h=>by have:=(sB x).1 h;exact⟨L,N,this⟩,fun h=>(sB x).2 h.2.2⟩,c4⟩
end Go.Rc

