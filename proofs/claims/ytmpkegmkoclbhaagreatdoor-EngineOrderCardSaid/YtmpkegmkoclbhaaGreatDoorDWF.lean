/- Walks over the program, part WF. Conditions: as each theorem says. -/
import Derived.Test.YtmpkegmkoclbhaaGreatDoorDFacts
import Derived.Test.YtmpkegmkoclbhaaGreatDoorDWB
import Derived.Test.YtmpkegmkoclbhaaGreatDoorDBe
set_option linter.all false
namespace Go.Rc
open Go Go.Proofs Go.Proofs.Tryz
variable {x:bZ}{a a2 a1:Option Addr}{n c n2 e2 n1 e1:Nat}{w:World}{M Z:Nat→Prop}{l:List Rec}{k:Key}
set_option maxHeartbeats 400000
theorem jt{x:Rec}(j:St w M Z w []) (hk:Rd RR.key 2 Z w a n c x.reads) (p:x.reads.length≤4000):Calls prog 120 #[.agg (x.row a n c).toArray] w fun e w'=>∃d f g,e=.returned (.agg (x.row d f g).toArray)∧St w M Z w' [As.os RR.key 40 2 d f g x.reads]:=by
 have q:=hk.len;refine enter func120 rfl ntmps120 rfl<|?_;have aQ:=j;have st1:=aQ.fr hk;have st2:=st1.dp RR.key 40 2;refine(dy) st2 fun b1 w1 r s m=>?_;refine(eZ) m fun b2 w2 t u b=>?_;refine(a7) dE b.b1<|?_;refine WL.ap rfl rfl b.p2 ((As.gr b.g3)) fun a5 v w3 y z o=>?_;refine nx ?_;refine WL.s1 o.p2 fun w4 _ h=>?_;refine(aZ) cV h.b0<|(cJ) fY h.p2 fun w5 A B i=>?_;refine(kT) cV i.b0<|?_;exact⟨_,_,_,rfl,i.p2.k1⟩
theorem Cp(D:St w M Z w []) (hl:Rd RR.ei 8 Z w a n c l) (Y:l.length≤1000000):Calls prog 73 #[.slice a n c] w fun e w'=>∃q s u Z',e=.returned (.slice q s u)∧bK w.heap.size Z Z'∧St w M Z' w' [As.os RR.ei 88 8 q s u l]:=by
 have hlen:=hl.len;have hle:=hl.le;refine enter func73 rfl ntmps73 rfl<|?_;have aQ:=D;have st1:=aQ.fr hl;have st2:=st1.dp RR.ei 88 8;refine aY ?_;refine ez ?_;refine WC.gY (σ:=Nat × (Nat→Prop) × (List Rec) × (Option Addr) × Nat × Nat) (dn:=fun(i,d,acc,f,b,g)=>[(3,.slice f b g),(6,.slice a n c),(7,.int .i64 (n:Int)),(8,.int .i64 (i:Int))]) (F:=fun(i,d,acc,f,b,g)=>[As.os RR.ei 88 8 f b g (acc)]) (I:=fun(i,d,acc,f,b,g)=>(i≤n)∧(bK w.heap.size Z d)∧(acc=l.take i)∧True) (μ:=fun(i,d,acc,f,b,g)=>n - i) (Zf:=fun(i,d,acc,f,b,g)=>d) (0,Z,[],none,0,0) (st2) Sub.t (⟨by omega,bK.refl _ _,by simp,trivial⟩)<|?_;rintro⟨i,d,acc,f,b,g⟩ w1 h ⟨hi,o,j,_⟩;simp only [CA,NA] at h hi o j ⊢;have qT:=((As.gs h.g0)).len
 have KH:acc.length≤1000000:=by rw [j,List.length_take];omega
 refine(aS) (fun g9=>?_) fun g9=>?_
 ·
  simp at g9
  have v:i<l.length:=by omega
  refine dd ?_;obtain⟨gT,k8,kz,E,gU,G,H,J⟩:=Rd.at (As.gr h.g1) v;obtain⟨q1,q2,q3,rfl,K,y⟩:=G;have L:=h.fg J H;have z:=L.fr K;refine nx ?_;refine WP .r (PV.dU iG E rfl rfl (by omega))<|(aZ) cV (As.lF z.g1)<|(eZ) z fun b5 w2 H4 H5 N=>?_;refine(cJ) fY N fun w3 jU j3 B=>?_;refine(aZ) cV B.b0<|?_;have m:=B;refine(bY) GW (jt m.e0 (As.gr m.g1) y) ?_;rintro _ w4 ⟨e1,e2,e3,rfl,C⟩;have O:=St.lr m C;have P:=St.bP C;have hsz:=m.size;have Q:=O.ba (by omega);have R:=o.trans (bK.dA (F:=fun x=>x∈aJ e1) P) hsz;refine WL.go rfl (OX.aR (us:=l[i].row e1 e2 e3) nI rfl rfl rfl rfl fun b15 w5 S T=>?_);have p:=Q.da S T;refine WL.ap rfl rfl p.p5 (SR.dc (A:=fun _=>True) (x:=l[i]) (As.gb p.g0) trivial rfl (Rec.one _ _ _ _) ⟨e1,e2,e3,rfl,(As.gr p.g1),y⟩) fun U V w6 ang anh W=>?_;refine gV ?_;refine eB (i+1,_,acc++[l[i]],U,(b+1),V) ⟨W.p6.p1.k2,⟨by omega,R,by rw [j,List.take_succ_eq_append_getElem v],trivial⟩⟩
 simp at g9
 have X:acc=l:=by rw [j];exact List.take_of_length_le (by omega)
 subst X;refine(bz) ?_;exact⟨_,_,_,_,rfl,o,h.p1.drop⟩
theorem jF(D:St w M Z w []) (hl:Rd RR.ei 8 Z w a n c l):Calls prog 135 #[.slice a n c,k.val] w fun e w'=>∃y z A,e=.returned (.tuple #[.agg ((aC l k).row y z A).toArray,.bool (aA l k).isSome])∧(aC l k).reads.length≤4000∧St w M Z w' [As.os RR.key 40 2 y z A (aC l k).reads]:=by
 have hlen:=hl.len;have hle:=hl.le;refine enter func135 rfl ntmps135 rfl<|?_;have aQ:=D;have st1:=aQ.fr hl;refine(dy) st1 fun b3 w1 Q R st2=>?_;refine(eZ) st2 fun b4 w2 S T E=>?_;refine aY ?_;refine WC.br (σ:=Nat) (dn:=fun i=>[(3,.pointer (some ⟨b3,0,none⟩)),(4,.pointer (some ⟨b4,0,none⟩)),(8,.slice a n c),(9,.int .i64 (n:Int)),(10,.int .i64 (i:Int))]) (F:=fun i=>[]) (I:=fun i=>(i≤n)∧(∀j x,j<i→l[j]?=some x→(x.key == k)=false)∧True) (μ:=fun i=>n - i) (0) (E) Sub.t (⟨by omega,fun j x h=>by omega,trivial⟩)<|?_;rintro i w3 m ⟨hi,o,_⟩;simp only [CA,NA] at m hi o ⊢;refine(aS) (fun g11=>?_) fun g11=>?_
 ·
  simp at g11
  have s:i<l.length:=by omega
  refine dd ?_;obtain⟨U,V,W,G,X,H,J,K⟩:=Rd.at (As.gr m.g2) s;obtain⟨q1,Y,q3,rfl,L,B⟩:=H;have u:=m.fg K J;have d:=u.fr L;refine nx ?_;refine WP .r (PV.dU iG G rfl rfl (by omega))<|(aZ) cV (As.lF d.g1)<|(eZ) d fun b7 w4 Px Py N=>?_;refine(cJ) fY N fun w5 jU j3 f=>?_;refine(hW) ao f.b0<|(aZ) ao f.b4<|?_;refine WP .r (PV.DX fI (p:=l[i].key) (q:=k) rfl rfl)<|(aS) (fun g17=>?_) fun g17=>?_
  ·
   simp at g17
   have g:aA l k=some l[i]:=jy s o (by simpa using g17)
   have b:aC l k=l[i]:=by unfold aC;rw [g];rfl
   refine(aZ) cV f.b0<|?_;have v:=f;refine(bY) GW (jt v.e0 (As.gr v.g1) B) ?_;rintro _ w6 ⟨e1,e2,e3,rfl,O⟩;have P:=St.lr v O;refine(cJ) fY P.p4 fun w7 qU mu C=>?_;refine kS ?_;refine EX.ey rfl (RS.cell cV rfl C.b0 rfl<|RS.tmp rfl<|RS.nil) rfl<|?_;exact⟨e1,e2,e3,by rw [g,b];rfl,by rw [b];exact B,by rw [b];exact C.p1.k1⟩
  simp at g17
  refine ez ?_;refine eB (i+1) ⟨f.p5.p5.p5.k3,⟨by omega,cG s o (by simpa using g17),trivial⟩⟩
 simp at g11
 have g:aA l k=none:=pV (i:=i) (by omega) o
 have b:aC l k=nh:=by unfold aC;rw [g];rfl
 have u:=m.dp RR.key 40 2;refine(cJ) fY u.p1 fun w4 zy tK d=>?_;refine cy ?_;refine EX.ey rfl (RS.cell cV rfl d.b0 rfl<|RS.tmp rfl<|RS.nil) rfl<|?_;exact⟨none,0,0,by rw [g,b];rfl,by rw [b];simp [nh],by rw [b];exact d.p1.k1⟩
theorem ee(hl:Rd RR.ei 8 Z w a n c l):Calls prog 135 #[.slice a n c,k.val] w fun e w'=>∃b d f,e=.returned (.tuple #[.agg ((aC l k).row b d f).toArray,.bool (aA l k).isSome])∧aT [] w w':=
 (jF (M:=fun _=>False) (St.start fun _ g=>g.2) hl.cut).mono fun _ _ ⟨b,d,f,h1,_,h⟩=>⟨b,d,f,h1,h.cg⟩
theorem Cq{x:Rec}(h1:x.key.text.size≤4611686018427) (e:x.value.size≤4611686018427) (f:n≤4611686018427):CR prog 134 #[.agg (x.row a n c).toArray] w (.int .i64 (16+x.key.text.size+x.value.size+8*n:Int)):=by
 refine enter func134 rfl ntmps134 rfl<|?_;have c0:aT [] w w:=aT.refl _ _;refine bO ?_;refine WL.go rfl (OX.box rfl rfl rfl fun b1 w1 d b=>?_);have s1:=d.ext;have g:=d.iI c0;have c1:=c0.trans s1;refine dd ?_;refine WP .r (PV.fa pA rfl)<|WP .r (PV.fa py rfl)<|(a7) fy b.range<|?_;refine WP .r (PV.tR rP rfl)<|nx ?_;refine WP .r (PV.fa u5 rfl)<|(a7) fy b.range<|?_;refine WP .r (PV.tR rP rfl)<|nx ?_;refine WP .r (PV.fa zs rfl)<|(a7) dE b.range<|?_;refine WP .r (PV.ie eA rfl)<|WP .r (PV.mul rfl rfl (by omega) (by omega))<|(bz) ?_;exact⟨rfl,c1⟩
theorem sS(D:St w M Z w []) (hl:Rd RR.ei 8 Z w a n c l) (W:l.length≤1000000):Calls prog 87 #[.slice a n c,k.val] w fun e w'=>∃s u v,e=.returned (.slice s u v)∧St w M Z w' [As.os RR.ei 88 8 s u v (fq l k)]:=by
 have hlen:=hl.len;refine enter func87 rfl ntmps87 rfl<|?_;have aQ:=D;have st1:=aQ.fr hl;have st2:=st1.dp RR.ei 88 8;refine(dy) st2 fun b3 w1 X Y E=>?_;refine aY ?_;refine dd ?_;refine WC.br (σ:=Nat × (List Rec) × (Option Addr) × Nat × Nat) (dn:=fun(i,acc,d,b,f)=>[(3,.pointer (some ⟨b3,0,none⟩)),(5,.slice d b f),(8,.slice a n c),(9,.int .i64 (n:Int)),(10,.int .i64 (i:Int))]) (F:=fun(i,acc,d,b,f)=>[As.os RR.ei 88 8 d b f (acc)]) (I:=fun(i,acc,d,b,f)=>(i≤n)∧(acc=fq (l.take i) k)∧True) (μ:=fun(i,acc,d,b,f)=>n - i) (0,[],none,0,0) (E.p1) Sub.t (⟨by omega,by simp [fq],trivial⟩)<|?_;rintro⟨i,acc,d,b,f⟩ w2 g ⟨hi,h,_⟩;simp only [CA,NA] at g hi h ⊢;have qT:=((As.gs g.g0)).len;have G:=re (l.take i) k
 have ani:acc.length≤1000000:=by rw [List.length_take,← h] at G;omega
 refine(aS) (fun g11=>?_) fun g11=>?_
 ·
  simp at g11
  have y:i<l.length:=by omega
  have m:=D4 (k:=k) y;refine dd ?_;obtain⟨gT,k8,kz,H,gU,J,K,L⟩:=Rd.at (As.gr g.g2) y;obtain⟨q1,z,B,rfl,N,O⟩:=J;have P:=g.fg L K;have C:=P.fr N;refine nx ?_;refine WP .r (PV.dU iG H rfl rfl (by omega))<|(aZ) cV (As.lF C.g1)<|(eZ) C fun b7 w3 Px Py Q=>?_;refine(cJ) fY Q fun w4 jU j3 j=>?_;refine(hW) ao j.b0<|(aZ) ao j.b4<|?_;refine WP .r (PV.LG fI (p:=l[i].key) (q:=k) rfl rfl)<|(aS) (fun g17=>?_) fun g17=>?_
  ·
   simp at g17
   rw [if_neg g17] at m;refine(aZ) cV j.b0<|?_;refine WL.go rfl (OX.aR (us:=l[i].row q1 z B) nI rfl rfl rfl rfl fun b20 w5 R S=>?_);have o:=j.da R S;refine WL.ap rfl rfl o.p4 (SR.dc (A:=fun _=>True) (x:=l[i]) (As.gb o.g0) trivial rfl (Rec.one _ _ _ _) ⟨q1,z,B,rfl,(As.gr o.g2),O⟩) fun a21 T w6 anj aed U=>?_;refine gV ?_;refine eB (i+1,acc++[l[i]],a21,(b+1),T) ⟨U.p6.p6.p2.k3,⟨by omega,by rw [m,h],trivial⟩⟩
  simp at g17
  rw [if_pos g17] at m;refine ez ?_;refine eB (i+1,acc,d,b,f) ⟨j.p5.p5.p5.k3,⟨by omega,by rw [m,h],trivial⟩⟩
 simp at g11
 have V:acc=fq l k:=by rw [h,List.take_of_length_le (by omega)]
 subst V;refine(bz) ?_;exact⟨_,_,_,rfl,g.p1.drop.p1.drop⟩
theorem vj{x:Rec}(gF:St w M Z w []) (hl:Rd RR.ei 8 Z w a n c l) (h6:l.length≤1000000) (hx:Rd RR.key 2 Z w a2 n2 e2 x.reads) (C:x.reads.length≤4000):Calls prog 182 #[.slice a n c,.agg (x.row a2 n2 e2).toArray] w fun e w'=>∃U V W Z',e=.returned (.slice U V W)∧bK w.heap.size Z Z'∧St w M Z' w' [As.os RR.ei 88 8 U V W (dK l x)]:=by
 have hlen:=hl.len;refine enter func182 rfl ntmps182 rfl<|?_;have aQ:=gF;have st1:=aQ.fr hl;have st2:=st1.fr hx;have iW:=st2.dp RR.ei 88 8;refine(dy) iW fun b3 w1 H6 wK hU=>?_;refine aY ?_;refine jM ?_;refine WC.gY (σ:=Nat × Bool × (Nat→Prop) × (List Rec) × (Option Addr) × Nat × Nat) (dn:=fun(i,put,m,out,g,b,h)=>[(3,.pointer (some ⟨b3,0,none⟩)),(5,.slice g b h),(6,.bool put),(10,.slice a n c),(11,.int .i64 (n:Int)),(12,.int .i64 (i:Int))]) (F:=fun(i,put,m,out,g,b,h)=>[As.os RR.ei 88 8 g b h (out)]) (I:=fun(i,put,m,out,g,b,h)=>(i≤n)∧(bK w.heap.size Z m)∧(out++fe x (l.drop i) put=dK l x)∧True) (μ:=fun(i,put,m,out,g,b,h)=>n - i) (Zf:=fun(i,put,m,out,g,b,h)=>m) (0,false,Z,[],none,0,0) (hU.p1) Sub.t (⟨by omega,bK.refl _ _,rfl,trivial⟩)<|?_;rintro⟨i,put,m,out,g,b,h⟩ w2 o ⟨hi,s,hinv,_⟩;simp only [CA,NA] at o hi s hinv ⊢;have qT:=((As.gs o.g0)).len
 have hol:out.length≤1000001:=by have h1:=congrArg List.length hinv;have h2:=qZ x l false;simp only [dK,List.length_append] at h1;omega
 refine(aS) (fun g13=>?_) fun g13=>?_
 ·
  simp at g13
  have X:i<l.length:=by omega
  have Y:fe x (l.drop i) put=(if decide (0≤bC l[i].key x.key) && !put then [x] else [])++(if bC l[i].key x.key=0 then [] else [l[i]])++fe x (l.drop (i+1)) (put || decide (0≤bC l[i].key x.key)):=by rw [List.drop_eq_getElem_cons X];rfl
  refine dd ?_;obtain⟨gT,k8,kz,cW,gU,gg,eH,eV⟩:=Rd.at (As.gr o.g3) X;obtain⟨q1,D,E,rfl,IJ,DJ⟩:=gg;have u:=o.fg eV eH;have G:=u.fr IJ;refine nx ?_;refine WP .r (PV.dU iG cW rfl rfl (by omega))<|(aZ) cV (As.lF G.g1)<|(eZ) G fun b8 w3 LK X9 K=>?_;refine(cJ) fY K fun w4 jU j3 p=>?_;refine(hW) ao p.b0<|(hW) ao p.b4<|(eP) (kb (k:=l[i].key) (q:=x.key)) p fun w5 s5 y=>?_;refine dd ?_;refine WC.dZ (t:=26) (v:=.bool (decide (0≤bC l[i].key x.key) && !put)) y ?_<|?_
  ·
   refine(db) (fun g23=>?_) (fun g23=>?_)
   ·
    exact(cA) (by simp only [g23];first | rfl | simp) (y)
   exact(cA) (by simp only [g23];first | rfl | simp) (y)
  intro w6 z;refine(aS) (fun H=>?_) fun H=>?_
  ·
   simp at H
   obtain⟨hA,hB⟩:=H;subst hB
   have f:fe x (l.drop i) false=[x]++(if bC l[i].key x.key=0 then [] else [l[i]])++fe x (l.drop (i+1)) true:=by rw [Y];simp [hA]
   refine(aZ) cV z.b4<|?_;have j:=z;refine(bY) GW (jt j.e0 (As.gr j.g5) C) ?_;rintro _ w7 ⟨f1,f2,f3,rfl,jG⟩;have L:=St.lr j jG;have N:=St.bP jG;have hsz:=j.size;have cS:=L.ba (by omega);have J:=s.trans (bK.dA (F:=fun x=>x∈aJ f1) N) hsz;refine WL.go rfl (OX.aR (us:=x.row f1 f2 f3) nI rfl rfl rfl rfl fun b30 w8 Ya Yb=>?_);have O:=cS.da Ya Yb;refine WL.ap rfl rfl O.p5 (SR.dc (A:=fun _=>True) (x:=x) (As.gb O.g0) trivial rfl (Rec.one _ _ _ _) ⟨f1,f2,f3,rfl,(As.gr O.g1),C⟩) fun a31 aeg w9 ank aeh P=>?_;refine(aS) (fun d=>?_) fun d=>?_
   ·
    simp at d
    rw [if_neg d] at f;refine(aZ) cV P.b3<|?_;refine WL.go rfl (OX.aR (us:=l[i].row q1 D E) nI rfl rfl rfl rfl fun b36 iT Q R=>?_);have S:=P.da Q R;refine WL.ap rfl rfl S.p1 (SR.dc (A:=fun _=>True) (x:=l[i]) (As.gb S.g0) trivial rfl (Rec.one _ _ _ _) ⟨q1,D,E,rfl,(As.gr S.g5),DJ⟩) fun a37 T iY Yc Yd ef=>?_;refine gV ?_;refine eB (i+1,true,_,_,a37,((b+1)+1),T) ⟨ef.p9.p9.p9.p3.k4,⟨by omega,J,by rw [← hinv,f];simp,trivial⟩⟩
   simp at d
   rw [if_pos d] at f;refine ez ?_;refine eB (i+1,true,_,_,a31,(b+1),aeg) ⟨P.p8.p8.p8.p3.k4,⟨by omega,J,by rw [← hinv,f];simp,trivial⟩⟩
  have f:fe x (l.drop i) put=[]++(if bC l[i].key x.key=0 then [] else [l[i]])++fe x (l.drop (i+1)) put:=by
   rw [Y]
   cases put
   ·
    simp at H;rw [decide_eq_false (by omega)];rfl
   simp
  refine(aS) (fun d=>?_) fun d=>?_
  ·
   simp at d
   rw [if_neg d] at f;refine(aZ) cV z.b0<|?_;refine WL.go rfl (OX.aR (us:=l[i].row q1 D E) nI rfl rfl rfl rfl fun b36 w7 Q R=>?_);have j:=z.da Q R;refine WL.ap rfl rfl j.p4 (SR.dc (A:=fun _=>True) (x:=l[i]) (As.gb j.g0) trivial rfl (Rec.one _ _ _ _) ⟨q1,D,E,rfl,(As.gr j.g2),DJ⟩) fun a37 T w8 Yc Yd L=>?_;refine gV ?_;refine eB (i+1,put,_,_,a37,(b+1),T) ⟨L.p7.p7.p7.p3.k4,⟨by omega,s,by rw [← hinv,f];simp,trivial⟩⟩
  simp at d
  rw [if_pos d] at f;refine ez ?_;refine eB (i+1,put,_,_,g,b,h) ⟨z.p6.p6.p6.p6.k4,⟨by omega,s,by rw [← hinv,f];simp,trivial⟩⟩
 simp at g13
 have hK:l.drop i=[]:=List.drop_eq_nil_of_le (by omega);rw [hK] at hinv;refine(aS) (fun B=>?_) fun B=>?_
 ·
  simp at B
  subst B;refine(aZ) cV o.b1<|?_;have u:=o;refine(bY) GW (jt u.e0 (As.gr u.g2) C) ?_;rintro _ w3 ⟨f1,f2,f3,rfl,kA⟩;have G:=St.lr u kA;have N:=St.bP kA;have hsz:=u.size;have K:=G.ba (by omega);have J:=s.trans (bK.dA (F:=fun x=>x∈aJ f1) N) hsz;refine WL.go rfl (OX.aR (us:=x.row f1 f2 f3) nI rfl rfl rfl rfl fun b44 w4 NV Sv=>?_);have p:=K.da NV Sv;refine WL.ap rfl rfl p.p2 (SR.dc (A:=fun _=>True) (x:=x) (As.gb p.g0) trivial rfl (Rec.one _ _ _ _) ⟨f1,f2,f3,rfl,(As.gr p.g1),C⟩) fun a45 anm w5 ann ano y=>?_;refine(bz) ?_;exact⟨_,_,_,_,rfl,J,by rw [← hinv];exact y.k1⟩
 simp at B
 subst B;refine(bz) ?_;exact⟨_,_,_,_,rfl,s,by rw [← hinv];simp only [fe,List.append_nil,if_true];exact o.k1⟩
theorem zz{x:Rec}(hk:Rd RR.key 2 Z w a n c x.reads):CR prog 121 #[.agg (x.row a n c).toArray] w (.bool (eF x)):=by
 have hlen:=SR.len hk;have hle:=SR.le hk;refine enter func121 rfl ntmps121 rfl<|?_;have c0:aT [] w w:=aT.refl _ _;refine bO ?_;refine WL.go rfl (OX.box rfl rfl rfl fun b1 w1 H b=>?_);have s1:=H.ext;have P:=H.iI c0;have c1:=c0.trans s1;refine fL ?_;refine WP .r (PV.fa zs rfl)<|(a7) dE b.range<|?_;refine WP .r (PV.ie eA rfl)<|cy ?_;refine WC.loop (σ:=Nat) (dn:=fun i=>[(1,.pointer (some ⟨b1,0,none⟩)),(6,.slice a n c),(7,.int .i64 (n:Int)),(8,.int .i64 (i:Int))]) (I:=fun i w'=>aT [] w w'∧bU w' b1 88 (x.row a n c)∧i≤n∧∀j y,j<i→x.reads[j]?=some y→fQ y=true) (μ:=fun i=>n - i) 0 Sub.t ⟨c1,b,by omega,fun j y h=>by omega⟩ ?_;rintro i w2 ⟨c2,b,hi,J⟩;refine(aS) (fun g9=>?_) fun g9=>?_
 ·
  simp at g9
  have B:i<x.reads.length:=by omega
  refine dd ?_;obtain⟨Q,R,S,L,_,C,D,_⟩:=SR.at hk (ak B);have C:=RR.bd C;subst C;have D:=aW D c2 (by simp);refine nx ?_;refine WP .r (PV.dU eA L rfl rfl (by omega))<|(aZ) ao D<|?_;refine WL.go rfl (OX.alloc E7 rfl fun b4 w3 E u=>?_);have d:=E.ext;have N:=E.iI c2;have K:b1≠b4:=E.ne b.lt;have T:b4≠b1:=Ne.symm K;have c3:=c2.trans d;have b:=b.ext d;refine WL.go rfl (OX.mr hP u rfl rfl rfl rfl rfl fun w4 e _ u=>?_);have c4:=c3.own e N;have b:=b.bX e (by simp [K]);refine(aZ) ao u.range<|(bY) Kw (iS (k:=x.reads[i])) ?_;rintro _ w5 ⟨rfl,p⟩;have c5:=c4.trans p;have b:=b.ext p;have u:=u.ext p;refine(aS) (fun g14=>?_) fun g14=>?_
  ·
   simp at g14
   have F:eF x=false:=by unfold eF;rw [Bool.and_eq_false_iff];left;rw [List.all_eq_false];exact⟨_,List.getElem_mem B,by simp [g14]⟩
   refine(bz) ?_;exact⟨by rw [F],c5⟩
  simp at g14
  refine ez ?_;refine EX.again (i+1) (Sub.k2 rfl rfl<|Sub.cons rfl<|Sub.i1 rfl (by simp)<|Sub.nil) ⟨c5,b,by omega,cG B J g14⟩ (by omega)
 simp at g9
 have F:eF x=gq x:=by
  unfold eF
  rw [show x.reads.all fQ=true from List.all_eq_true.2 fun y hy=>by obtain⟨j,O,rfl⟩:=List.mem_iff_getElem.1 hy;exact J j _ (by omega) (ak O)]
  rfl
 refine fL ?_;refine WC.lA (t:=2) (v:=.bool (gq x)) (aT [] w2) ?_<|?_
 ·
  refine nx ?_;refine WP .r (PV.fa pA rfl)<|(hW) ao b.range<|(bY) Kw (iS (k:=x.key)) ?_;rintro _ w3 ⟨rfl,d⟩;have c3:=c2.trans d;have b:=b.ext d;refine(db) (fun g19=>?_) (fun g19=>?_)
  ·
   refine WP .r (PV.fa pA rfl)<|(hW) ao b.range<|(bY) HV (ew (k:=x.key)) ?_;rintro _ w4 ⟨rfl,e⟩;have c4:=c3.trans e;have b:=b.ext e;refine(db) (fun f=>?_) (fun f=>?_)
   ·
    refine WP .r (PV.fa u5 rfl)<|(a7) fy b.range<|?_;refine WP .r (PV.tR rP rfl)<|(db) (fun g=>?_) (fun g=>?_)
    ·
     refine WP .r (PV.fa zs rfl)<|(a7) dE b.range<|?_;refine WP .r (PV.ie eA rfl)<|(db) (fun m=>?_) (fun m=>?_)
     ·
      refine WP .r (PV.fa u6 rfl)<|(a7) aP b.range<|(db) (fun o=>?_) (fun o=>?_)
      ·
       refine WP .r (PV.fa u6 rfl)<|(a7) aP b.range<|?_;refine WP .r (PV.fa pB rfl)<|(a7) aP b.range<|(db) (fun q=>?_) (fun q=>?_)
       ·
        refine WP .r (PV.fa pB rfl)<|(a7) aP b.range<|(db) (fun s=>?_) (fun s=>?_)
        ·
         refine WP .r (PV.fa Fa rfl)<|(a7) aP b.range<|(db) (fun z=>?_) (fun z=>?_)
         ·
          refine WP .r (PV.fa Fa rfl)<|(a7) aP b.range<|(db) (fun A=>?_) (fun A=>?_)
          ·
           refine WP .r (PV.fa Fb rfl)<|(a7) dH b.range<|(db) (fun G=>?_) (fun G=>?_)
           ·
            exact(gH) (by unfold gq;simp only [g19,f,g,m,o,q,s,z,A,G,← hlen];first | rfl | simp) (d.trans e)
           refine WP .r (PV.fa pA rfl)<|(hW) ao b.range<|(bY) HW (de (k:=x.key)) ?_;rintro _ w5 ⟨rfl,p⟩;have c5:=c4.trans p;have b:=b.ext p;exact(gH) (by unfold gq;simp only [g19,f,g,m,o,q,s,z,A,G,← hlen];first | rfl | simp) ((d.trans e).trans p)
          exact(gH) (by unfold gq;simp only [g19,f,g,m,o,q,s,z,A,← hlen];first | rfl | simp) (d.trans e)
         refine aY ?_;exact(gH) (by unfold gq;simp only [g19,f,g,m,o,q,s,z,← hlen];first | rfl | simp) (d.trans e)
        refine aY ?_;exact(gH) (by unfold gq;simp only [g19,f,g,m,o,q,s,← hlen];first | rfl | simp) (d.trans e)
       refine aY ?_;refine aY ?_;exact(gH) (by unfold gq;simp only [g19,f,g,m,o,q,← hlen];first | rfl | simp) (d.trans e)
      refine aY ?_;refine aY ?_;exact(gH) (by unfold gq;simp only [g19,f,g,m,o,← hlen];first | rfl | simp) (d.trans e)
     refine aY ?_;refine aY ?_;refine aY ?_;exact(gH) (by unfold gq;simp only [g19,f,g,m,← hlen];first | rfl | simp) (d.trans e)
    refine aY ?_;refine aY ?_;refine aY ?_;exact(gH) (by unfold gq;simp only [g19,f,g,← hlen];first | rfl | simp) (d.trans e)
   refine aY ?_;refine aY ?_;refine aY ?_;refine aY ?_;exact(gH) (by unfold gq;simp only [g19,f,← hlen];first | rfl | simp) (d.trans e)
  refine aY ?_;refine aY ?_;refine aY ?_;refine aY ?_;exact(gH) (by unfold gq;simp only [g19,← hlen];first | rfl | simp) d
 intro w3 d;have c3:=c2.trans d;have b:=b.ext d;refine(bz) ?_;exact⟨by rw [F],c3⟩
theorem tv(hl:Rd RR.ei 8 Z w a n c l):Calls prog 74 #[.slice a n c] w fun e w'=>∃b:Bool,e=.returned (.bool b)∧(b=true↔nj l)∧aT [] w w':=by
 have hlen:=SR.len hl;have hle:=SR.le hl;refine enter func74 rfl ntmps74 rfl<|?_;have c0:aT [] w w:=aT.refl _ _;refine kS ?_;refine WP .r (PV.ie iG rfl)<|cy ?_;refine WC.loop (σ:=Nat) (dn:=fun i=>[(0,.slice a n c),(5,.slice a n c),(6,.int .i64 (n:Int)),(7,.int .i64 (i:Int))]) (I:=fun i w'=>aT [] w w'∧i≤n∧∀j y,j<i→l[j]?=some y→pW l j y) (μ:=fun i=>n - i) 0 Sub.t ⟨c0,by omega,fun j y h=>by omega⟩ ?_;rintro i w1 ⟨c1,hi,u⟩;refine(aS) (fun g8=>?_) fun g8=>?_
 ·
  simp at g8
  have p:i<l.length:=by omega
  have d:=getElem!_pos l i p;obtain⟨P,Q,R,J,_,⟨q1,S,U,rfl,K,V⟩,z,_⟩:=SR.at hl (ak p);refine dd ?_;have z:=aW z c1 (by simp);refine bO ?_;refine WP .r (PV.dU iG J rfl rfl (by omega))<|(aZ) cV z<|?_;refine WL.go rfl (OX.alloc nL rfl fun b4 w2 F f=>?_);have s2:=F.ext;have L:=F.iI c1;have c2:=c1.trans s2;refine nx ?_;refine WL.go rfl (OX.mr fY f rfl rfl rfl rfl rfl fun w3 N _ f=>?_);have c3:=c2.own N L;refine cq ?_;refine WC.ke (t:=30) (v:=.bool (rf l i)) (aT [] w3) ?_<|?_
  ·
   refine WC.drawn (m:=15) (C:=aT [] w3) (T:=fun _=>aT []) (E:=cB [(1,fun v _=>v=.bool (eF l[i]))]) (bm (⟨fun _ _ _ _ _ _ _ h=>h,trivial⟩)) mixed (by kernel_rfl) (aT.drew _ _)<|?_;refine DP .r (fun _ o=>PV.G7 cV (f.ext o).range rfl rfl)<|?_;refine DW.e rfl rfl rfl rfl rfl (fun W o X=>OX.call Xh rfl rfl ((zz (K.ext (c3.trans o))).mono ?_))<|?_
   ·
    rintro _ wy ⟨rfl,hy⟩;exact⟨_,rfl,o.trans hy,hy,_,rfl,rfl⟩
   rintro _ Y _ rfl;refine(oo) (fun g15=>?_) (fun g15=>?_)
   ·
    refine(cQ) ?_;rintro w4 g _;have c4:=c3.trans g;have f:=f.ext g;exact(cA) (by unfold rf;first | (simp only [d,s,g15];done) | (simp only [d,s,g15];rfl) | (simp only [d,g15];rfl) | (simp only [d];rw [Bool.not_eq_true'] at g15;simp [g15]) | (simp only [d];simp at g15 g18;simp [g15,g18])) g
   refine(oo) (fun g18=>?_) (fun g18=>?_)
   ·
    have G:i - 1<l.length:=by omega
    have s:=getElem!_pos l (i - 1) G;have aei:=of_decide_eq_true g18;obtain⟨bx2,ox2,rx2,O,_,⟨p1,p2,p3,rfl,_,_⟩,A,_⟩:=SR.at hl (ak G);have A:=aW A c3 (by simp);refine cq ?_;refine DP .r (fun _ o=>PV.DU iG (i - 1) O rfl rfl (by omega) (by omega))<|DP .r (fun _ o=>PV.fa pA rfl)<|DP .r (fun _ o=>PV.wi ao (aW A o (by simp)) rfl rfl)<|DP .r (fun _ o=>PV.fa pA rfl)<|DP .r (fun _ o=>PV.wi ao (f.ext o).range rfl rfl)<|(cQ)<|?_;rintro w4 g _;have c4:=c3.trans g;have f:=f.ext g;refine(bY) Sd (kb (k:=l[i - 1].key) (q:=l[i].key)) ?_;rintro _ w5 ⟨rfl,B⟩;have c5:=c4.trans B;have f:=f.ext B;exact(cA) (by unfold rf;first | (simp only [d,s,g15,g18];done) | (simp only [d,s,g15,g18];rfl) | (simp only [d,g15,g18];rfl) | (simp only [d];rw [Bool.not_eq_true'] at g15;simp [g15]) | (simp only [d];simp at g15 g18;simp [g15,g18])) (g.trans B)
   refine(cQ) ?_;rintro w4 g _;have c4:=c3.trans g;have f:=f.ext g;exact(cA) (by unfold rf;first | (simp only [d,s,g15,g18];done) | (simp only [d,s,g15,g18];rfl) | (simp only [d,g15,g18];rfl) | (simp only [d];rw [Bool.not_eq_true'] at g15;simp [g15]) | (simp only [d];simp at g15 g18;simp [g15,g18])) g
  intro w4 g;have c4:=c3.trans g;have f:=f.ext g;refine(aS) (fun D=>?_) fun D=>?_
  ·
   skip
   refine(bz) ?_;exact⟨false,rfl,⟨fun h=>(by cases h),fun h=>absurd ((pX p).2 (h.2 i _ (ak p))) (by simp [D])⟩,c4⟩
  refine ez ?_;refine EX.again (i+1) (Sub.k2 rfl rfl<|Sub.cons rfl<|Sub.i1 rfl (by simp)<|Sub.nil) ⟨c4,by omega,cG p u ((pX p).1 D)⟩ (by omega)
 ·
  simp at g8
  have u:∀j y,l[j]?=some y→pW l j y:=fun j x H=>u j x (by have:=(List.getElem?_eq_some_iff.1 H).1;omega) H;refine gV ?_;refine WP .r (PV.ie iG rfl)<|(bz) ?_;exact⟨_,rfl,⟨fun h=>⟨by simp at h;omega,u⟩,fun h=>by have:=h.1;simp;omega⟩,c1⟩
 -- k9 eN G17.T
set_option maxHeartbeats 400000
theorem rV(hl:Rd RR.ei 8 Z w a n c l):CR prog 74 #[.slice a n c] w (.bool (qc l)):=
 (tv hl).mono fun _ _ ⟨b,h1,d,e⟩=>⟨by rw [h1,D8 d],e⟩
theorem fA(s:St w M Z w []) (hi:Rd RR.aD 4 Z w a1 n1 e1 x.ab) (hr:Rd RR.ei 8 Z w a2 n2 e2 x.ah) (t:x.ah.length≤1000000) (C:x.ab.length≤1000000):Calls prog 35 #[.agg (x.row a1 n1 e1 a2 n2 e2).toArray] w fun e w'=>∃f g h i j m Z',e=.returned (.agg (x.row f g h i j m).toArray)∧bK w.heap.size Z Z'∧St w M Z' w' [As.os RR.aD 78 4 f g h x.ab,As.os RR.ei 88 8 i j m x.ah]:=by
 have D:=hi.len;have E:=hr.len;refine enter func35 rfl ntmps35 rfl<|?_;have aQ:=s;have st1:=aQ.fr hi;have st2:=st1.fr hr;have u:=st2.dp RR.aD 78 4;refine(dy) u fun b1 w1 F G v=>?_;refine(eZ) v fun b2 w2 H I d=>?_;refine(a7) i7 d.b1<|?_;refine WL.ap rfl rfl d.p2 ((As.gr d.g4)) fun a5 J w3 K L y=>?_;refine nx ?_;refine WL.s1 y.p2 fun w4 _ o=>?_;refine(a7) dD o.b0<|?_;have b:=o;refine(bY) adP (Cp b.e0 (As.gr b.g3) t) ?_;rintro _ w5 ⟨f1,f2,f3,N,rfl,p,z⟩;have A:=St.lv b z p;have B:=p.le b.size;refine nx ?_;refine WL.s1 A.p1 fun w6 _ q=>?_;refine(aZ) aO q.b0<|(cJ) dN q.p3 fun w7 O P r=>?_;refine(kT) aO r.b0<|?_;exact⟨_,_,_,_,_,_,_,rfl,B,r.p2.p3.k2⟩
theorem sT(hi:Rd RR.aD 4 Z w a1 n1 e1 x.ab) (hr:Rd RR.ei 8 Z w a2 n2 e2 x.ah) {k:Key}:CR prog 76 #[.agg (x.row a1 n1 e1 a2 n2 e2).toArray,k.val] w (.agg (bA x.ab k).cells.toArray):=by
 have hlen:=SR.len hi;have hle:=SR.le hi;refine enter func76 rfl ntmps76 rfl<|?_;have c0:aT [] w w:=aT.refl _ _;refine bO ?_;refine WL.go rfl (OX.box rfl rfl rfl fun b2 w1 H e=>?_);have s1:=H.ext;have U:=H.iI c0;have c1:=c0.trans s1;refine WL.go rfl (OX.box rfl rfl rfl fun b3 w2 u b=>?_);have s2:=u.ext;have V:=u.iI c1;have O:b2≠b3:=u.ne e.lt;have W:b3≠b2:=Ne.symm O;have c2:=c1.trans s2;have e:=e.ext s2;refine WL.go rfl (OX.alloc Nk rfl fun b4 w3 m d=>?_);have v:=m.ext;have J:=m.iI c2;have P:b2≠b4:=m.ne e.lt;have X:b4≠b2:=Ne.symm P;have z:b3≠b4:=m.ne b.lt;have Y:b4≠b3:=Ne.symm z;have c3:=c2.trans v;have e:=e.ext v;have b:=b.ext v;refine dd ?_;refine WP .r (PV.fa uY rfl)<|(a7) i7 e.range<|?_;refine WP .r (PV.ie qv rfl)<|cy ?_;refine WC.loop (σ:=Nat) (dn:=fun i=>[(3,.pointer (some ⟨b3,0,none⟩)),(4,.pointer (some ⟨b4,0,none⟩)),(8,.slice a1 n1 e1),(9,.int .i64 (n1:Int)),(10,.int .i64 (i:Int))]) (I:=fun i w'=>aT [] w w'∧bU w' b3 40 [.int .i64 k.kind,.string k.text]∧bU w' b4 78 [.int .i64 0,.string ⟨#[]⟩,.string ⟨#[]⟩,.int .i64 0]∧i≤n1∧(∀j y,j<i→x.ab[j]?=some y→(y.key == k)=false)) (μ:=fun i=>n1 - i) 0 Sub.t ⟨c3,b,d,by omega,fun j x h=>by omega⟩ ?_;rintro i w4 ⟨c4,b,d,hi1,A⟩;refine(aS) (fun g11=>?_) fun g11=>?_
 ·
  simp at g11
  have B:i<x.ab.length:=by omega
  refine dd ?_;obtain⟨bx1,ox1,rx1,Q,_,C,D,_⟩:=SR.at hi (ak B);have C:=RR.bd C;subst C;have D:=aW D c4 (by simp);refine nx ?_;refine WP .r (PV.dU qv Q rfl rfl (by omega))<|(aZ) ku D<|?_;refine WL.go rfl (OX.alloc Nk rfl fun o w5 s f=>?_);have g:=s.ext;have R:=s.iI c4;have K:b3≠o:=s.ne b.lt;have Sw:o≠b3:=Ne.symm K;have L:b4≠o:=s.ne d.lt;have S:o≠b4:=Ne.symm L;have c5:=c4.trans g;have b:=b.ext g;have d:=d.ext g;refine WL.go rfl (OX.mr zn f rfl rfl rfl rfl rfl fun w6 E _ f=>?_);have N:=c5.own E R;have b:=b.bX E (by simp [K]);have d:=d.bX E (by simp [L]);refine cy ?_;refine WP .r (PV.fa rR rfl)<|(hW) ao f.range<|(aZ) ao b.range<|?_;refine WP .r (PV.DX fI (p:=x.ab[i].key) (q:=k) rfl rfl)<|(aS) (fun g17=>?_) fun g17=>?_
  ·
   simp at g17
   have F:bA x.ab k=x.ab[i]:=by unfold bA;rw [jy B A (by simpa using g17)];rfl
   refine(aZ) ku f.range<|?_;refine WL.go rfl (OX.mr zn d rfl rfl rfl rfl rfl fun w7 G _ d=>?_);have T:=N.own G J;have b:=b.bX G (by simp [z]);have f:=f.bX G (by simp [S]);refine(kT) ku d.range<|?_;exact⟨by rw [F],T⟩
  simp at g17
  refine ez ?_;refine EX.again (i+1) (Sub.k4 rfl rfl rfl rfl<|Sub.i1 rfl (by simp)<|Sub.nil) ⟨N,b,d,by omega,cG B A (by simpa using g17)⟩ (by omega)
 simp at g11
 have F:bA x.ab k=⟨k,⟨#[]⟩,0⟩:=by unfold bA;rw [pV (i:=i) (by omega) A];rfl
 refine(aZ) ao b.range<|?_;refine WP .r (PV.bB (us:=(ct.mk k ⟨#[]⟩ 0).cells) Nh rfl rfl rfl)<|?_;refine WL.go rfl (OX.mr zn d rfl rfl rfl rfl rfl fun w5 g _ d=>?_);have c5:=c4.own g J;have b:=b.bX g (by simp [z]);refine(kT) ku d.range<|?_;exact⟨by rw [F],c5⟩
theorem rW(hi:Rd RR.aD 4 Z w a1 n1 e1 x.ab) (hr:Rd RR.ei 8 Z w a2 n2 e2 x.ah) {k:Key}:CR prog 39 #[.agg (x.row a1 n1 e1 a2 n2 e2).toArray,k.val] w (.string (bA x.ab k).value):=by
 refine enter func39 rfl ntmps39 rfl<|?_;have c0:aT [] w w:=aT.refl _ _;refine bO ?_;refine WL.go rfl (OX.box rfl rfl rfl fun b2 w1 h b=>?_);have s1:=h.ext;have j:=h.iI c0;have c1:=c0.trans s1;refine WL.go rfl (OX.box rfl rfl rfl fun b3 w2 d e=>?_);have s2:=d.ext;have m:=d.iI c1;have i:b2≠b3:=d.ne b.lt;have o:b3≠b2:=Ne.symm i;have c2:=c1.trans s2;have b:=b.ext s2;refine(aZ) aO b.range<|(aZ) ao e.range<|(bY) WW (sT (k:=k) (hi.ext c2) (hr.ext c2)) ?_;rintro _ w3 ⟨rfl,g⟩;have c3:=c2.trans g;have b:=b.ext g;have e:=e.ext g;refine WP .r (PV.ui (fs:=[_,_,_]) (f:=1) (off:=2) (T:=78) underlying78 rfl rfl (show ∀w,(isAgg 9).run _ w=.ok false w from isAgg9) rfl rfl)<|(bz) ?_;exact⟨rfl,c3⟩
theorem Cr(hi:Rd RR.aD 4 Z w a1 n1 e1 x.ab) (hr:Rd RR.ei 8 Z w a2 n2 e2 x.ah) {k:Key}:CR prog 222 #[.agg (x.row a1 n1 e1 a2 n2 e2).toArray,k.val] w (.int .i64 (bA x.ab k).changed):=by
 refine enter func222 rfl ntmps222 rfl<|?_;have c0:aT [] w w:=aT.refl _ _;refine bO ?_;refine WL.go rfl (OX.box rfl rfl rfl fun b2 w1 h b=>?_);have s1:=h.ext;have j:=h.iI c0;have c1:=c0.trans s1;refine WL.go rfl (OX.box rfl rfl rfl fun b3 w2 d e=>?_);have s2:=d.ext;have m:=d.iI c1;have i:b2≠b3:=d.ne b.lt;have o:b3≠b2:=Ne.symm i;have c2:=c1.trans s2;have b:=b.ext s2;refine(aZ) aO b.range<|(aZ) ao e.range<|(bY) WW (sT (k:=k) (hi.ext c2) (hr.ext c2)) ?_;rintro _ w3 ⟨rfl,g⟩;have c3:=c2.trans g;have b:=b.ext g;have e:=e.ext g;refine WP .r (PV.ui (fs:=[_,_,_]) (f:=2) (off:=3) (T:=78) underlying78 rfl rfl (show ∀w,(isAgg 3).run _ w=.ok false w from isAgg3) rfl rfl)<|(bz) ?_;exact⟨rfl,c3⟩
theorem mb(hi:Rd RR.aD 4 Z w a1 n1 e1 x.ab) (hr:Rd RR.ei 8 Z w a2 n2 e2 x.ah):Calls prog 36 #[.agg (x.row a1 n1 e1 a2 n2 e2).toArray] w fun e w'=>∃b:Bool,e=.returned (.bool b)∧(b=true↔jB x)∧aT [] w w':=by
 have hlen:=SR.len hi;have hle:=SR.le hi;have vf:=SR.len hr;have vk:=SR.le hr;refine enter func36 rfl ntmps36 rfl<|?_;have c0:aT [] w w:=aT.refl _ _;refine bO ?_;refine WL.go rfl (OX.box rfl rfl rfl fun b1 w1 Ye f=>?_);have s1:=Ye.ext;have aej:=Ye.iI c0;have c1:=c0.trans s1;refine fL ?_;refine WP .r (PV.fa uY rfl)<|(a7) i7 f.range<|?_;refine WP .r (PV.ie qv rfl)<|cy ?_;refine WC.loop (σ:=Nat) (dn:=fun i=>[(1,.pointer (some ⟨b1,0,none⟩)),(8,.slice a1 n1 e1),(9,.int .i64 (n1:Int)),(10,.int .i64 (i:Int))]) (I:=fun i w'=>aT [] w w'∧bU w' b1 31 (x.row a1 n1 e1 a2 n2 e2)∧i≤n1∧∀j y,j<i→x.ab[j]?=some y→ig x.ad x.ab j=false) (μ:=fun i=>n1 - i) 0 Sub.t ⟨c1,f,by omega,fun j y h=>by omega⟩ ?_;rintro i w2 ⟨c2,f,eK,L⟩;refine(aS) (fun g11=>?_) fun g11=>?_
 ·
  simp at g11
  have G:i<x.ab.length:=by omega
  have o:=getElem!_pos x.ab i G;obtain⟨bx1,ox1,rx1,R,_,S,H,_⟩:=SR.at hi (ak G);have S:=RR.bd S;subst S;refine dd ?_;have H:=aW H c2 (by simp);refine bO ?_;refine WP .r (PV.dU qv R rfl rfl (by omega))<|(aZ) ku H<|?_;refine WL.go rfl (OX.alloc Nk rfl fun b4 w3 U s=>?_);have s3:=U.ext;have vg:=U.iI c2;have vl:b1≠b4:=U.ne f.lt;have Sx:b4≠b1:=Ne.symm vl;have c3:=c2.trans s3;have f:=f.ext s3;refine nx ?_;refine WL.go rfl (OX.mr zn s rfl rfl rfl rfl rfl fun w4 F _ s=>?_);have c4:=c3.own F vg;have f:=f.bX F (by simp [vl]);refine cq ?_;refine WC.ke (t:=59) (v:=.bool (ig x.ad x.ab i)) (aT [] w4) ?_<|?_
  ·
   refine WC.drawn (m:=43) (C:=aT [] w4) (T:=fun _=>aT []) (E:=cB [(2,fun v _=>v=.bool (fQ x.ab[i].key)),(7,fun v _=>v=.bool (aw x.ab[i].key)),(23,fun v _=>v=.int .i64 (bC x.ab[i - 1].key x.ab[i].key))]) (bm (⟨fun _ _ _ _ _ _ _ h=>h,⟨fun _ _ _ _ _ _ _ h=>h,⟨fun _ _ _ _ _ _ _ h=>h,trivial⟩⟩⟩)) mixed (by kernel_rfl) (aT.drew _ _)<|?_;refine DP .r (fun _ g=>PV.fa rR rfl)<|DP .r (fun _ g=>PV.wi ao (s.ext g).range rfl rfl)<|?_;refine DW.e rfl rfl rfl rfl rfl (fun wx g hF=>OX.call Kw rfl rfl ((iS (k:=x.ab[i].key)).mono ?_))<|?_
   ·
    rintro _ wy ⟨rfl,hy⟩;exact⟨_,rfl,g.trans hy,hy,_,rfl,rfl⟩
   rintro _ wz _ rfl;refine(oo) (fun g19=>?_) (fun g19=>?_)
   ·
    refine aY ?_;refine aY ?_;refine aY ?_;refine(cQ) ?_;rintro w5 d _;have c5:=c4.trans d;have f:=f.ext d;have s:=s.ext d;exact(cA) (by unfold ig;first | (simp only [o,B,g19];done) | (simp only [o,B,g19];rfl) | (simp only [o,g19];rfl) | (simp only [o,g19];done)) d
   refine DP .r (fun _ g=>PV.fa rR rfl)<|DP .r (fun _ g=>PV.wi ao (s.ext g).range rfl rfl)<|?_;refine DW.e rfl rfl rfl rfl rfl (fun wx g hF=>OX.call HV rfl rfl ((ew (k:=x.ab[i].key)).mono ?_))<|?_
   ·
    rintro _ wy ⟨rfl,hy⟩;exact⟨_,rfl,g.trans hy,hy,_,rfl,rfl⟩
   rintro _ wz _ rfl;refine(oo) (fun p=>?_) (fun p=>?_)
   ·
    refine aY ?_;refine aY ?_;refine(cQ) ?_;rintro w5 d _;have c5:=c4.trans d;have f:=f.ext d;have s:=s.ext d;exact(cA) (by unfold ig;first | (simp only [o,B,g19,p];done) | (simp only [o,B,g19,p];rfl) | (simp only [o,g19,p];rfl) | (simp only [o,g19,p];done)) d
   refine(oo) (fun u=>?_) (fun u=>?_)
   ·
    have Sy:i - 1<x.ab.length:=by omega
    have B:=getElem!_pos x.ab (i - 1) Sy;have aei:=of_decide_eq_true u;obtain⟨bx2,ox2,rx2,DI,_,V,W,_⟩:=SR.at hi (ak Sy);have V:=RR.bd V;subst V;have W:=aW W c4 (by simp);refine DP .r (fun _ g=>PV.fa uY rfl)<|DP .r (fun _ g=>PV.ld1 i7 (f.ext g).range rfl rfl)<|bO ?_;refine DP .r (fun _ g=>PV.DU qv (i - 1) DI rfl rfl (by omega) (by omega))<|DP .r (fun _ g=>PV.fa rR rfl)<|DP .r (fun _ g=>PV.wi ao (aW W g (by simp)) rfl rfl)<|DP .r (fun _ g=>PV.fa rR rfl)<|DP .r (fun _ g=>PV.wi ao (s.ext g).range rfl rfl)<|?_;refine DW.e rfl rfl rfl rfl rfl (fun wx g hF=>OX.call Sd rfl rfl ((kb (k:=x.ab[i - 1].key) (q:=x.ab[i].key)).mono ?_))<|?_
    ·
     rintro _ wy ⟨rfl,hy⟩;exact⟨_,rfl,g.trans hy,hy,_,rfl,rfl⟩
    rintro _ wz _ rfl;refine(oo) (fun D=>?_) (fun D=>?_)
    ·
     refine aY ?_;refine(cQ) ?_;rintro w5 d _;have c5:=c4.trans d;have f:=f.ext d;have s:=s.ext d;exact(cA) (by unfold ig;first | (simp only [o,B,g19,p,u,D];done) | (simp only [o,B,g19,p,u,D];rfl) | (simp only [o,g19,p,u,D];rfl) | (simp only [o,g19,p,u,D];done)) d
    refine DP .r (fun _ g=>PV.fa E8 rfl)<|DP .r (fun _ g=>PV.ld1 fy (s.ext g).range rfl rfl)<|DP .r (fun _ g=>PV.tR rP rfl)<|(oo) (fun z=>?_) (fun z=>?_)
    ·
     refine(cQ) ?_;rintro w5 d _;have c5:=c4.trans d;have f:=f.ext d;have s:=s.ext d;exact(cA) (by unfold ig;first | (simp only [o,B,g19,p,u,D,z];done) | (simp only [o,B,g19,p,u,D,z];rfl) | (simp only [o,g19,p,u,D,z];rfl) | (simp only [o,g19,p,u,D,z];done)) d
    refine DP .r (fun _ g=>PV.fa uZ rfl)<|DP .r (fun _ g=>PV.ld1 aP (s.ext g).range rfl rfl)<|(oo) (fun A=>?_) (fun A=>?_)
    ·
     refine(cQ) ?_;rintro w5 d _;have c5:=c4.trans d;have f:=f.ext d;have s:=s.ext d;exact(cA) (by unfold ig;first | (simp only [o,B,g19,p,u,D,z,A];done) | (simp only [o,B,g19,p,u,D,z,A];rfl) | (simp only [o,g19,p,u,D,z,A];rfl) | (simp only [o,g19,p,u,D,z,A];done)) d
    refine DP .r (fun _ g=>PV.fa uZ rfl)<|DP .r (fun _ g=>PV.ld1 aP (s.ext g).range rfl rfl)<|DP .r (fun _ g=>PV.fa kY rfl)<|DP .r (fun _ g=>PV.ld1 aP (f.ext g).range rfl rfl)<|(cQ)<|?_;rintro w5 d _;have c5:=c4.trans d;have f:=f.ext d;have s:=s.ext d;exact(cA) (by unfold ig;first | (simp only [o,B,g19,p,u,D,z,A];done) | (simp only [o,B,g19,p,u,D,z,A];rfl) | (simp only [o,g19,p,u,D,z,A];rfl) | (simp only [o,g19,p,u,D,z,A];done)) d
   refine aY ?_;refine bO ?_;refine DP .r (fun _ g=>PV.fa E8 rfl)<|DP .r (fun _ g=>PV.ld1 fy (s.ext g).range rfl rfl)<|DP .r (fun _ g=>PV.tR rP rfl)<|(oo) (fun z=>?_) (fun z=>?_)
   ·
    refine(cQ) ?_;rintro w5 d _;have c5:=c4.trans d;have f:=f.ext d;have s:=s.ext d;exact(cA) (by unfold ig;first | (simp only [o,B,g19,p,u,z];done) | (simp only [o,B,g19,p,u,z];rfl) | (simp only [o,g19,p,u,z];rfl) | (simp only [o,g19,p,u,z];done)) d
   refine DP .r (fun _ g=>PV.fa uZ rfl)<|DP .r (fun _ g=>PV.ld1 aP (s.ext g).range rfl rfl)<|(oo) (fun A=>?_) (fun A=>?_)
   ·
    refine(cQ) ?_;rintro w5 d _;have c5:=c4.trans d;have f:=f.ext d;have s:=s.ext d;exact(cA) (by unfold ig;first | (simp only [o,B,g19,p,u,z,A];done) | (simp only [o,B,g19,p,u,z,A];rfl) | (simp only [o,g19,p,u,z,A];rfl) | (simp only [o,g19,p,u,z,A];done)) d
   refine DP .r (fun _ g=>PV.fa uZ rfl)<|DP .r (fun _ g=>PV.ld1 aP (s.ext g).range rfl rfl)<|DP .r (fun _ g=>PV.fa kY rfl)<|DP .r (fun _ g=>PV.ld1 aP (f.ext g).range rfl rfl)<|(cQ)<|?_;rintro w5 d _;have c5:=c4.trans d;have f:=f.ext d;have s:=s.ext d;exact(cA) (by unfold ig;first | (simp only [o,B,g19,p,u,z,A];done) | (simp only [o,B,g19,p,u,z,A];rfl) | (simp only [o,g19,p,u,z,A];rfl) | (simp only [o,g19,p,u,z,A];done)) d
  intro w5 d;have c5:=c4.trans d;have f:=f.ext d;have s:=s.ext d;refine(aS) (fun X=>?_) fun X=>?_
  ·
   skip
   refine(bz) ?_;exact⟨false,rfl,⟨fun h=>(by cases h),fun h=>absurd (h.1 i _ (ak G)) (by simp [X])⟩,c5⟩
  refine ez ?_;refine EX.again (i+1) (Sub.k2 rfl rfl<|Sub.cons rfl<|Sub.i1 rfl (by simp)<|Sub.nil) ⟨c5,f,by omega,cG (P:=fun j _=>ig x.ad x.ab j=false) G L X⟩ (by omega)
 simp at g11
 have L:yI x.ad x.ab:=fun j y J=>L j y (by have:=(List.getElem?_eq_some_iff.1 J).1;omega) J;refine gV ?_;refine WP .r (PV.fa rQ rfl)<|(a7) dD f.range<|?_;refine WP .r (PV.ie iG rfl)<|cy ?_;refine WC.loop (σ:=Nat) (dn:=fun i=>[(1,.pointer (some ⟨b1,0,none⟩)),(62,.slice a2 n2 e2),(63,.int .i64 (n2:Int)),(64,.int .i64 (i:Int))]) (I:=fun i w'=>aT [] w w'∧bU w' b1 31 (x.row a1 n1 e1 a2 n2 e2)∧i≤n2∧∀(j:Nat) (y:Rec),j<i→x.ah[j]?=some y→y.av≤x.ad) (μ:=fun i=>n2 - i) 0 Sub.t ⟨c2,f,by omega,fun j y h=>by omega⟩ ?_;rintro i2 w3 ⟨c3,f,anq,N⟩;refine(aS) (fun Y=>?_) fun Y=>?_
 ·
  simp at Y
  have G:i2<x.ah.length:=by omega
  obtain⟨bx1,ox1,rx1,R,_,⟨q1,q2,q3,rfl,IJ,DJ⟩,H,_⟩:=SR.at hr (ak G);refine dd ?_;have H:=aW H c3 (by simp);refine nx ?_;refine WP .r (PV.dU iG R rfl rfl (by omega))<|(aZ) cV H<|?_;refine WL.go rfl (OX.alloc nL rfl fun b6 w4 DH IK=>?_);have F:=DH.ext;have Fm:=DH.iI c3;have vm:b1≠b6:=DH.ne f.lt;have SA:b6≠b1:=Ne.symm vm;have c4:=c3.trans F;have f:=f.ext F;refine WL.go rfl (OX.mr fY IK rfl rfl rfl rfl rfl fun w5 d _ IK=>?_);have c5:=c4.own d Fm;have f:=f.bX d (by simp [vm]);refine cy ?_;refine WP .r (PV.fa pB rfl)<|(a7) aP IK.range<|?_;refine WP .r (PV.fa kY rfl)<|(a7) aP f.range<|(aS) (fun O=>?_) fun O=>?_
  ·
   simp at O
   refine(bz) ?_;exact⟨false,rfl,⟨fun h=>(by cases h),fun h=>absurd (h.2.1 i2 _ (ak G)) (by omega)⟩,c5⟩
  simp at O
  refine ez ?_;refine EX.again (i2+1) (Sub.k2 rfl rfl<|Sub.cons rfl<|Sub.i1 rfl (by simp)<|Sub.nil) ⟨c5,f,by omega,cG (P:=fun _ (y:Rec)=>y.av≤x.ad) G N O⟩ (by omega)
 simp at Y
 have N:∀(j:Nat) (y:Rec),x.ah[j]?=some y→y.av≤x.ad:=fun j y J=>N j y (by have:=(List.getElem?_eq_some_iff.1 J).1;omega) J;refine fL ?_;refine WC.lA (t:=2) (v:=.bool (lY x)) (aT [] w3) ?_<|?_
 ·
  refine nx ?_;refine WP .r (PV.fa kY rfl)<|(a7) aP f.range<|(db) (fun K=>?_) (fun K=>?_)
  ·
   refine WP .r (PV.fa kY rfl)<|(a7) aP f.range<|(db) (fun Q=>?_) (fun Q=>?_)
   ·
    refine WP .r (PV.fa uY rfl)<|(a7) i7 f.range<|?_;refine WP .r (PV.ie qv rfl)<|(db) (fun Yf=>?_) (fun Yf=>?_)
    ·
     refine WP .r (PV.fa rQ rfl)<|(a7) dD f.range<|(bY) adQ (rV (hr.ext c3)) ?_;rintro _ w4 ⟨rfl,F⟩;have c4:=c3.trans F;have f:=f.ext F;exact(gH) (by unfold lY;simp only [K,Q,Yf,← hlen];first | rfl | simp) F
    exact(gH) (by unfold lY;simp only [K,Q,Yf,← hlen];first | rfl | simp) (aT.refl _ _)
   exact(gH) (by unfold lY;simp only [K,Q,← hlen];first | rfl | simp) (aT.refl _ _)
  refine aY ?_;exact(gH) (by unfold lY;simp only [K,← hlen];first | rfl | simp) (aT.refl _ _)
 intro w4 F;have c4:=c3.trans F;have f:=f.ext F;refine(bz) ?_;exact⟨_,rfl,⟨fun h=>by have:=(sw x).1 h;exact⟨L,N,this⟩,fun h=>(sw x).2 h.2.2⟩,c4⟩
end Go.Rc

