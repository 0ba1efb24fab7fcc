/- Walks over the program, part WZl. Conditions: as each theorem says. -/
import Derived.Test.YtfamnpoplgkkcaaGreatDoorOFacts
import Derived.Test.YtfamnpoplgkkcaaGreatDoorOWB
import Derived.Test.YtfamnpoplgkkcaaGreatDoorOWD
import Derived.Test.YtfamnpoplgkkcaaGreatDoorOBf
import Derived.Test.YtfamnpoplgkkcaaGreatDoorOBd
import Derived.Test.YtfamnpoplgkkcaaGreatDoorOWUa
import Derived.Test.YtfamnpoplgkkcaaGreatDoorOBg
set_option linter.all false
namespace Go.Rc
open Go Go.Proofs Go.Proofs.Tryz
variable {a ar a1 a2:Option Addr}{n c d r cr n1 e1 n2 e2:Nat}{w:World}{M Z A:Nat→Prop}{m:Int}{l:List Key}{f:FuncId}{cap:Value}{aa:List aG}{x:cy}{k:Key}
set_option maxHeartbeats 400000
theorem Di{l:List Int}(g:St w M Z w []) (hl:Rd RR.int 1 Z w a n c l) (h:n≤400):Calls prog 8 #[.slice a n c] w fun e w'=>∃d,e=.returned (.pointer (some ⟨d,0,none⟩))∧St w M Z w' [As.gY 70 d]:=
 (E8 (A:=Z) (l:=l) hl h).mono fun e w' ⟨d,h1,i,j,hc⟩=>⟨d,h1,g.new hc j fun x b=>by have b:x=d:=b;subst b;exact i⟩
theorem bq(b:St w M Z w [As.gY 70 d]) (hm:m≤4611686018427387904):Calls prog 23 #[.pointer (some ⟨d,0,none⟩),.int .i64 m] w fun e w'=>∃z:Int,e=.returned (.int .i64 z)∧0≤z∧(1≤m→z<m)∧St w M Z w' [As.gY 70 d]:=
 (E9 (A:=Z) (As.gd b.g0) (b.lR (As.gY 70 d) (by simp) d rfl) hm).mono fun e w' ⟨z,h1,h,i,hc,j⟩=>⟨z,h1,h,i,b.ku (hc.p.mono fun x _ g=>show x=d from by simpa using g) j fun x g=>.inl g⟩
theorem Dl{l:List ByteArray}(b:St w M Z w [As.gY 70 d,As.os RR.str 9 1 a r c l]) (h0:0<r) (h1:r≤1000):Calls prog 94 #[.pointer (some ⟨d,0,none⟩),.slice a r c] w fun e w'=>∃s:ByteArray,e=.returned (.string s)∧s∈l∧St w M Z w' [As.gY 70 d,As.os RR.str 9 1 a r c l]:=by
 have hlen:=(As.gs b.g1).len;refine enter func94 rfl ntmps94 rfl<|?_;have aO:=b;refine jT ?_;have st1:=aO;refine(bX) jA (bq st1.e1 (m:=(r:Int)) (by omega)) ?_;rintro _ w1 ⟨z,rfl,o,g,j⟩;have st2:=St.lr st1 j;have g:=g (by omega);obtain⟨i,rfl⟩:∃i:Nat,z=i:=⟨z.toNat,by omega⟩
 have hi:i<l.length:=by omega
 obtain⟨p,h⟩:=Ow.addr (As.gs st2.g1) (ak hi);refine WP .r (PV.dI oC h rfl rfl (by omega))<|WP .r (PV.mf fh (Ow.jD (As.gs st2.g1) (by omega) h (ak hi)) rfl rfl)<|(bs) ?_;exact⟨_,rfl,List.getElem_mem hi,st2⟩
theorem xd(p:St w M Z w [As.gY 70 d]):Calls prog 52 #[.pointer (some ⟨d,0,none⟩)] w fun e w'=>∃x:Change,e=.returned (.agg x.cells.toArray)∧(x.small∧x.value.size≤50)∧St w M Z w' [As.gY 70 d]:=by
 refine enter func52 rfl ntmps52 rfl<|?_;have aO:=p;refine(eN) aO fun b2 w1 F G st1=>?_;refine db ?_;have st2:=st1.p1;refine(bX) jA (bq st2.e1 (m:=4) (by omega)) ?_;rintro _ w2 ⟨z4,rfl,q,b,t⟩;have u:=St.lr st2 t;have b:=b (by omega);refine(eS) (jj (n:=z4)) u fun w3 H v=>?_;refine nx ?_;refine WL.go rfl (OX.aP (us:=words.map Value.string) J5 rfl rfl rfl rfl fun y w4 g z=>?_);have B:=St.pU (R:=RR.str) (E:=9) (k:=1) (a:=some ⟨y,0,none⟩) (n:=10) (c:=10) (xs:=words) v g.ext (Ow.flat z rfl (by simp) (by simp [words,Value.oneCell']) rfl (by decide)) (fun x h=>by simp [aI] at h;subst h;exact g.ge);have i:=B.p1;refine(bX) adQ (Dl i.e2 (by decide) (by decide)) ?_;rintro _ w5 ⟨s,rfl,j,C⟩;have D:=St.lr i C;refine WP .r (PV.bz (us:=(Change.mk (cD z4) s).cells) RO rfl rfl rfl)<|(cF) J8 D.p2 fun w6 I J o=>?_;refine(kR) B2 o.b0<|?_;exact⟨⟨cD z4,s⟩,rfl,⟨⟨⟨z4,q,by omega,rfl⟩,Ks s j⟩,(show ∀s∈words,s.size≤50 by decide) s j⟩,o.drop.p1.drop⟩
theorem nR(D:St w M Z w [As.gY 70 d]) (hm:0≤m) (R:m≤1000):Calls prog 19 #[.pointer (some ⟨d,0,none⟩),.int .i64 m] w fun e w'=>∃a n c,∃l:List Change,e=.returned (.slice a n c)∧((l.length:Int)≤m∧∀x∈l,x.value.size≤50)∧(∀x∈l,x.small)∧St w M Z w' [As.gY 70 d,As.os RR.bV 65 3 a n c l]:=by
 refine enter func19 rfl ntmps19 rfl<|?_;have aO:=D;have st1:=aO.dp RR.bV 65 3;refine aX ?_;refine cj ?_;have st2:=st1.p1;refine(bX) jA (bq st2.e1 (m:=m+1) (by omega)) ?_;rintro _ w1 ⟨z0,rfl,S,u,E⟩;have G:=St.lr st2 E;have u:=u (by omega);obtain⟨z,rfl⟩:∃z:Nat,z0=z:=⟨z0.toNat,by omega⟩;refine cj ?_;refine WC.bd (σ:=Nat × (List Change) × (Option Addr) × Nat × Nat) (dj:=fun(i,l,g,b,j)=>[(0,.pointer (some ⟨d,0,none⟩)),(5,.slice g b j),(6,.int .i64 (i:Int))]) (F:=fun(i,l,g,b,j)=>[As.os RR.bV 65 3 g b j (l),As.gY 70 d]) (I:=fun(i,l,g,b,j)=>(l.length+i≤z)∧(∀x∈l,x.small)∧(∀x∈l,x.value.size≤50)∧True) (μ:=fun(i,l,g,b,j)=>i) (z,[],none,0,0) (G.p1) Sub.t (⟨by simp,by simp,by simp,trivial⟩)<|?_;rintro⟨i,l,g,b,j⟩ w2 o ⟨H,p,q,_⟩;simp only [CA,NA] at o H p q ⊢;have T:=((As.gs o.g0)).len;refine(aR) (fun g12=>?_) fun g12=>?_
 ·
  simp at g12
  refine ed ?_;have v:=o.p1;refine(bX) adq (xd v.e1) ?_;rintro _ w3 ⟨x,rfl,B,J⟩;have K:=St.lr v J;refine WL.go rfl (OX.aP (us:=x.cells) EH rfl rfl rfl rfl fun U w4 L N=>?_);have C:=K.de L N;refine WL.ap rfl rfl C.p2 (SR.dd (A:=fun _=>True) (x:=x) (As.gb C.g0) trivial rfl (by simp [Change.cells,Value.oneCell']) rfl) fun O P w5 V W Q=>?_;refine kI ?_;refine ef (i - 1,l++[x],O,(b+1),P) ⟨Q.p1.drop,⟨by simp;omega,fun y s=>by rcases List.mem_append.1 s with h | h;exact p y h;simp at h;subst h;exact B.1,fun y s=>by rcases List.mem_append.1 s with h | h;exact q y h;simp at h;subst h;exact B.2,trivial⟩⟩
 simp at g12
 refine(bs) ?_;exact⟨_,_,_,l,rfl,⟨by omega,q⟩,p,o.p1⟩
set_option maxHeartbeats 4000000 in
theorem Ao(gk:St w M Z w [As.gY 70 d]):Calls prog 21 #[.pointer (some ⟨d,0,none⟩)] w fun e w'=>∃a n c,∃l:List aG,∃Z',e=.returned (.slice a n c)∧aq l∧2≤l.length∧l.length≤8∧bH w.heap.size Z Z'∧St w M Z' w' [As.gY 70 d,As.os RR.eT 58 4 a n c l]:=by
 refine enter func21 rfl ntmps21 rfl<|?_;have aO:=gk;have st1:=aO.dp RR.eT 58 4;refine aX ?_;refine bK ?_;have st2:=st1.p1;refine(bX) jA (bq st2.e1 (m:=7) (by omega)) ?_;rintro _ w1 ⟨z0,rfl,ZF,Dc,TT⟩;have iT:=St.lr st2 TT;have Dc:=Dc (by omega);obtain⟨z,rfl⟩:∃z:Nat,z0=z:=⟨z0.toNat,by omega⟩;refine db ?_;refine WC.bd (σ:=Nat × (List aG) × (Option Addr) × Nat × Nat) (dj:=fun(i,l,C,q,D)=>[(0,.pointer (some ⟨d,0,none⟩)),(3,.slice C q D),(4,.int .i64 (i:Int))]) (F:=fun(i,l,C,q,D)=>[As.os RR.eT 58 4 C q D (l),As.gY 70 d]) (I:=fun(i,l,C,q,D)=>(l.length+i=z+2)∧True) (μ:=fun(i,l,C,q,D)=>i) (z+2,[],none,0,0) (iT.p1) Sub.t (⟨by simp,trivial⟩)<|?_;rintro⟨i,l,C,q,D⟩ w2 ik ⟨hlz,_⟩;simp only [CA,NA] at ik hlz ⊢;have hol:=((As.gs ik.g0)).len;refine(aR) (fun g16=>?_) fun g16=>?_
 ·
  simp at g16
  refine ed ?_;have R:=ik.p1;refine(bX) jA (bq R.e1 (m:=3) (by omega)) ?_;rintro _ w3 ⟨z1,rfl,akY,P6,kq⟩;have iC:=St.lr R kq;have P6:=P6 (by omega);obtain⟨g,hg⟩:∃g:Bool,g=decide (z1=1):=⟨_,rfl⟩;refine nx ?_;refine WP .r (PV.bz (us:=[.bool (decide (z1=1)),.slice none 0 0,.int .i64 0,.int .i64 0]) MQ rfl rfl rfl)<|?_;refine WL.go rfl (OX.aP (us:=[.bool (decide (z1=1)),.slice none 0 0,.int .i64 0,.int .i64 0]) J3 rfl rfl rfl rfl fun b24 w4 ZW ZX=>?_);have gW:=iC.de ZW ZX;refine WL.ap rfl rfl gW.p2 (SR.dd (A:=fun _=>True) (x:=begun g) (As.gb gW.g0) trivial rfl (by simp [Value.oneCell']) ⟨none,0,0,by rw [hg];rfl,SR.nil _ _ _ _⟩) fun a25 aih w5 aqB ahd iH=>?_;refine kI ?_;refine ef (i - 1,l++[begun g],a25,(q+1),aih) ⟨iH.p1.drop,⟨by simp;omega,trivial⟩⟩
 simp at g16
 refine aX ?_;refine bK ?_;refine WC.hh (σ:=Nat × (List aG) × (Nat→Prop)) (dj:=fun(i,l1,V)=>[(0,.pointer (some ⟨d,0,none⟩)),(3,.slice C q D),(27,.int .i64 (q:Int)),(28,.int .i64 (i:Int))]) (F:=fun(i,l1,V)=>[As.gY 70 d,As.os RR.eT 58 4 C q D l1]) (I:=fun(i,l1,V)=>(i≤q)∧(kV l1 i)∧(bH w.heap.size Z V)∧True) (μ:=fun(i,l1,V)=>q - i) (Zf:=fun(i,l1,V)=>V) (0,l,Z) (ik.p1) Sub.t (⟨Nat.zero_le _,kV.start (by omega),bH.refl _ _,trivial⟩)<|?_;rintro⟨i,l1,V⟩ w3 R ⟨hi,hPo,hZ,_⟩;simp only [CA,NA] at R hi hPo hZ ⊢;have Dv:=((As.gs R.g1)).len;have hP8:=hPo.1;refine(aR) (fun Ic=>?_) fun Ic=>?_
 ·
  simp at Ic
  have S:i<l1.length:=by omega
  have hrt:=bW S;have hmt:=wv S;refine aX ?_;refine(eS) (sO (n:=(i:Int)) (Ow.rd (As.gs R.g1) (by omega))) R fun w4 s4 iC=>?_;refine kI ?_;obtain⟨bx,CD⟩:=Ow.addr (As.gs iC.g1) (ak S);refine bY ?_;refine WP .r (PV.dI jh CD rfl rfl (by omega))<|nx ?_;refine WP .r (PV.mf dG (Ow.ring (As.gs iC.g1) CD (by omega) S) rfl rfl)<|bY ?_;have gW:=iC;refine WC.jw (σ:=Int) [] (fun most=>[(0,.pointer (some ⟨d,0,none⟩)),(3,.slice C q D),(5,.int .i64 (i:Int)),(7,.int .i64 most),(27,.int .i64 (q:Int)),(28,.int .i64 (i:Int))]) (fun most=>[]) (fun most=>(most=fE l1 i)∧True) gW ?_ ?_
  ·
   refine(aR) (fun W=>?_) fun W=>?_
   ·
    have W:l1[i].ring=false:=by simpa using W
    refine cj ?_;exact mK ((block l1 (i:Int)).1) ⟨gW,⟨by unfold fE;rw [hrt,W];rfl,trivial⟩⟩
   have W:l1[i].ring=true:=by simpa using W
   refine nx ?_;exact mK ((block l1 (i:Int)).2) ⟨gW,⟨by unfold fE;rw [hrt,W];rfl,trivial⟩⟩
  rintro most w5 iH ⟨P7,_⟩;simp only [CA,NA] at iH P7 ⊢;refine bK ?_;refine WC.bN (m:=12) [] [6,9] [5,6,8,9,0,1,2,3,4,7,10,11] [(11,.blk 58 [.bool false,.slice none 0 0,.int .i64 0,.int .i64 0])] iH (ai.cons M1<|ai.nil) mixed (by kernel_rfl) (by kernel_rfl) rfl<|(fV) (fun w6 Tk Fy iE oK=>?_);simp only [CA,NA] at iE;have eD:=iE;refine OX.call jA rfl rfl ((bq eD.e1 (m:=4) (by omega)).mono ?_);rintro _ w7 ⟨z2,rfl,akZ,P8,jB⟩;have dh:=St.lr eD jB;have P8:=P8 (by omega);refine⟨_,rfl,jB.bV.size,_,rfl,_,_,_,dh,aw.k2<|aw.nil,ai.cons M1<|ai.nil,?_⟩;refine(fV) (fun w8 UI H8 cW qK=>?_);simp only [CA,NA] at cW;have di:=cW;refine OX.call jA rfl rfl ((bq di.e1 (m:=6) (by omega)).mono ?_);rintro _ w9 ⟨z3,rfl,ZK,De,nI⟩;have da:=St.lr di nI;have De:=De (by omega);refine⟨_,rfl,nI.bV.size,_,rfl,_,_,_,da,aw.k2<|aw.nil,ai.cons M1<|ai.nil,?_⟩
  iterate 2 refine DG.a ?_
  refine DQ .r (fun J Zx Rx _ pB yk=>PV.dI jh CD rfl rfl (by omega))<|?_;refine DG.a<|?_;refine DQ .r (fun J Zx Rx _ pB yk=>PV.mf dG (Ow.ring (As.gs (pB.sv yk).g0) CD (by omega) S) rfl rfl)<|?_;refine DG.a<|?_;refine DQ .r (fun J Zx Rx _ pB yk=>PV.bz (us:=[.bool l1[i].ring,.slice none 0 0,.int .i64 (1+z2),.int .i64 z3]) MQ rfl rfl rfl)<|?_;refine DG.side (s:=.blk 58 [.bool false,.slice none 0 0,.int .i64 0,.int .i64 0]) rfl rfl rfl rfl rfl rfl (fun J Zx Rx qW pB=>OX.alloc MS rfl fun b wy X hb=>⟨X.ext.size,_,rfl,⟨b,rfl⟩,pB.de X hb⟩)<|?_;rintro _ ⟨y,rfl⟩;refine(jv) ?_;intro iN GJ eb;simp only [CM,NM,CA,NA,hI.it] at eb;refine(cF) EL eb fun iV jO jZ fX=>?_;refine WL.nil (EX.np ?_);refine(aZ) dG fX.b0<|bK ?_;have eu:=fX;refine WC.jw (σ:=Int × Int) [_] (fun(f0,c0)=>[(0,.pointer (some ⟨d,0,none⟩)),(3,.slice C q D),(5,.int .i64 (i:Int)),(7,.int .i64 most),(8,.pointer (some ⟨y,0,none⟩)),(27,.int .i64 (q:Int)),(28,.int .i64 (i:Int))]) (fun(f0,c0)=>[As.blk y 58 [.bool l1[i].ring,.slice none 0 0,.int .i64 f0,.int .i64 c0]]) (fun(f0,c0)=>(∀xs:List Ask,gZ ⟨l1[i].ring,xs,f0,c0⟩=true)∧True) eu ?_ ?_
  ·
   refine(aR) (fun H6=>?_) fun H6=>?_
   ·
    have aii:d<iV.heap.size:=(As.gY 70 d).lt (eu.g1) d rfl;have Oc:y<iV.heap.size:=((As.gb eu.g0)).lt;have dZ:=eu;have Y:=dZ.conv (B:=As.acm (ι:=Int) y 58 fun f=>[.bool l1[i].ring,.slice none 0 0,.int .i64 f,.int .i64 z3]) ⟨_,(As.gb dZ.g0)⟩ (fun _ h=>h);have aij:=Y.bL;have aar:=Y.jG;have aas:=Y.size;refine WC.I4 (m:=8) (fun j w w'=>match j with | 2=>gK (fun x=>x=d) w w' | 6=>gK (fun x=>x=y) w w' | _=>gK (fun _=>False) w w') (E:=cA [(0,PS iV.heap.size 3 6 [.int .i64 0,.int .i64 1,.int .i64 2,.int .i64 4,.int .i64 8,.int .i64 16]),(2,fun v _=>∃z:Nat,v=.int .i64 (z:Int)∧z<6),(3,fun v J=>∃b k:Nat,v=.pointer (some ⟨b,0+k*1,none⟩)∧k<6∧iV.heap.size≤b∧bQ J b 3 [.int .i64 0,.int .i64 1,.int .i64 2,.int .i64 4,.int .i64 8,.int .i64 16]),(4,fun v _=>∃z:Int,v=.int .i64 z∧0≤z∧z≤65535),(6,fun _ J=>J.cell? ⟨y,2,none⟩=some (.int .i64 5))]) Y (lB (⟨⟨trivial,fun _ _ _ _ _ c h=>PS.st (fun x u=>by subst u;exact aii) c h,fun _ _ _ _ _ c h=>PS.st (fun x u=>u.elim) c h,fun _ _ _ _ _ c h=>PS.st (fun x u=>u.elim) c h,fun _ _ _ _ _ c h=>PS.st (fun x u=>by subst u;exact Oc) c h,trivial⟩,⟨⟨fun _ _ _ _ _ _ h=>h,trivial,fun _ _ _ _ _ _ h=>h,fun _ _ _ _ _ _ h=>h,fun _ _ _ _ _ _ h=>h,trivial⟩,⟨⟨trivial,trivial,trivial,fun _ _ _ _ _ c ⟨b,k,h1,h2,h3,h4⟩=>⟨b,k,h1,h2,h3,(PB.get (PB.st (fun x u=>u.elim) c (v:=.pointer (some ⟨b,0,none⟩)) ⟨b,rfl,h3,h4⟩)).2⟩,fun _ _ _ _ _ c ⟨b,k,h1,h2,h3,h4⟩=>⟨b,k,h1,h2,h3,(PB.get (PB.st (fun x u=>by subst u;exact Oc) c (v:=.pointer (some ⟨b,0,none⟩)) ⟨b,rfl,h3,h4⟩)).2⟩,trivial⟩,⟨⟨fun _ _ _ _ _ _ h=>h,fun _ _ _ _ _ _ h=>h,trivial,trivial,fun _ _ _ _ _ _ h=>h,trivial⟩,⟨⟨fun _ _ _ _ _ c h=>by rw [← h];exact World.cell?_of_block (c.block y (by omega) (fun u=>u.elim)),trivial,fun _ _ _ _ _ c h=>by rw [← h];exact World.cell?_of_block (c.block y (by omega) (fun u=>u.elim)),fun _ _ _ _ _ c h=>by rw [← h];exact World.cell?_of_block (c.block y (by omega) (fun u=>u.elim)),trivial,trivial⟩,trivial⟩⟩⟩⟩⟩)) mixed (by kernel_rfl)<|?_;refine DW.e rfl rfl rfl rfl rfl (fun J H hF=>OX.aP (us:=[.int .i64 0,.int .i64 1,.int .i64 2,.int .i64 4,.int .i64 8,.int .i64 16]) RN rfl rfl rfl rfl fun b wy X hb=>⟨⟨Nat.le_trans H.1 X.ext.size,H.2.step X.ext⟩,X.ext.p0,_,rfl,_,rfl,Nat.le_trans H.1 X.ge,hb⟩)<|?_;rintro _ wz _ ⟨b57,rfl,_,_⟩;refine nx ?_;refine DW.e rfl rfl rfl rfl rfl (fun J H hF=>OX.call jA rfl rfl ((bq (H.2.one (.tail _ (.head _))) (m:=6) (by omega)).mono ?_))<|?_
    ·
     rintro _ wy ⟨z,rfl,h0,h1,hy⟩;exact⟨_,rfl,⟨Nat.le_trans H.1 hy.bV.size,H.2.xA M1 hy⟩,hy.bV.mono (fun x _ u=>by obtain⟨A,hA,u⟩:=u;simp at hA;subst hA;exact u),_,rfl,⟨z.toNat,by congr 1;omega,by have:=h1 (by omega);omega⟩⟩
    rintro _ wz _ ⟨z13,rfl,z131⟩
    refine DW.e rfl rfl rfl rfl rfl (fun J H hF=>by
     obtain⟨_,⟨b1_,E0,wD,wE⟩,_⟩:=hF;simp only [Value.slice.injEq,Option.some.injEq,Addr.mk.injEq,and_true,true_and] at E0;subst E0;exact OX.pv (PV.ix (i:=z13) EJ rfl rfl z131) rfl ⟨H,gK.refl _ _,_,rfl,_,z13,rfl,z131,wD,wE⟩) ?_
    rintro _ wz _ ⟨b3,k3,rfl,Ir,Dz,wE⟩
    refine DW.e rfl rfl rfl rfl rfl (fun J H hF=>by
     obtain⟨⟨b1_,k1_,Dw,Gn,_,Ci⟩,_⟩:=hF;simp only [Value.pointer.injEq,Option.some.injEq,Addr.mk.injEq,and_true] at Dw;obtain⟨rfl,Uz⟩:=Dw
     obtain⟨z,hz,h0,h1⟩:∃z:Int,nth [.int .i64 0,.int .i64 1,.int .i64 2,.int .i64 4,.int .i64 8,.int .i64 16] (k3*1)=some (.int .i64 z)∧0≤z∧z≤65535:=by
      have h6:k3=0∨k3=1∨k3=2∨k3=3∨k3=4∨k3=5:=by omega
      rcases h6 with rfl | rfl | rfl | rfl | rfl | rfl <;> exact⟨_,rfl,by decide,by decide⟩
     exact OX.pv (PV.ld1 (o:=0) (j:=k3*1) aN (bQ.range Ci) rfl hz) rfl ⟨H,gK.refl _ _,_,rfl,z,rfl,h0,h1⟩) ?_
    rintro _ wz _ ⟨z5,rfl,h5a,h5b⟩;refine nx ?_
    refine DW.e0 rfl rfl rfl rfl (fun J H hF=>by
     obtain⟨f,hb⟩:∃f:Int,bQ J y 58 [.bool l1[i].ring,.slice none 0 0,.int .i64 f,.int .i64 z3]:=H.2.ok _ M0;exact OX.st (j:=2) GB hb rfl rfl (by simp [nth]) rfl rfl fun wy s hsz wD=>⟨⟨Nat.le_trans H.1 s.size,H.2.same M0 (s.p.mono fun x _ u=>show x=y from by simpa using u) ⟨5,wD⟩⟩,s.p.mono (fun x _ u=>by simpa using u),fun _=>bQ.range wD 2 _ rfl⟩) ?_
    rintro _ wz _ h6c;refine(cP) ?_;rintro k9 ⟨PO,dF⟩ ⟨SU,⟨_,⟨_,⟨_,⟨hF0,_⟩⟩⟩⟩⟩;have e7:=dF.tp (PS.pb hF0) aij aar aas;have dL:=e7.p1
    have P:=dL.conv (B:=As.blk y 58 [.bool l1[i].ring,.slice none 0 0,.int .i64 5,.int .i64 z3]) (by
     obtain⟨f,hb⟩:∃f:Int,bQ k9 y 58 [.bool l1[i].ring,.slice none 0 0,.int .i64 f,.int .i64 z3]:=dL.ok _ M0;have h1:=(bQ.range hb 2 _ rfl).symm.trans SU
     have h2:f=5:=by simpa using h1
     subst h2;exact hb) (fun _ h=>h)
    refine WL.s1 P fun mM _ N=>?_;refine nx ?_;exact mK (5,z5) ⟨N.p1.drop,⟨fun _=>by unfold gZ;simp [H6,h5a,h5b],trivial⟩⟩
   have H6:l1[i].ring=false:=by simpa using H6
   refine nx ?_;exact mK (1+z2,z3) ⟨eu,⟨fun _=>by unfold gZ;simp [H6];omega,trivial⟩⟩
  rintro⟨f0,c0⟩ k9 dZ ⟨On,_⟩;simp only [CA,NA] at dZ On ⊢;refine db ?_;have Y:=dZ.p1;refine(bX) jA (bq Y.e1 (m:=4) (by omega)) ?_;rintro _ mM ⟨z6,rfl,ak1,P9,KI⟩;have dF:=St.lr Y KI;have P9:=P9 (by omega);obtain⟨z,hz6⟩:∃z:Nat,z6=z:=⟨z6.toNat,by omega⟩;subst hz6;refine cj ?_;have e7:=dF.dp RR.ask 102 4;refine WC.bd (σ:=Nat × (List Ask) × (Option Addr) × Nat × Nat) (dj:=fun(k,xs,Q,T,FQ)=>[(0,.pointer (some ⟨d,0,none⟩)),(3,.slice C q D),(5,.int .i64 (i:Int)),(7,.int .i64 most),(8,.pointer (some ⟨y,0,none⟩)),(9,.int .i64 (k:Int)),(27,.int .i64 (q:Int)),(28,.int .i64 (i:Int))]) (F:=fun(k,xs,Q,T,FQ)=>[As.os RR.ask 102 4 Q T FQ (xs),As.blk y 58 [.bool l1[i].ring,.slice Q T FQ,.int .i64 f0,.int .i64 c0],As.gY 70 d]) (I:=fun(k,xs,Q,T,FQ)=>(∀x∈aI Q,w.heap.size≤x)∧(xs.length+k≤3)∧(∀(k:Nat) x,xs[k]?=some x→fq l1 i l1[i].ring k x=true)∧True) (μ:=fun(k,xs,Q,T,FQ)=>k) (z,[],none,0,0) (e7.p1.p2.p2) Sub.t (⟨by simp [aI],by simp;omega,by simp,trivial⟩)<|?_;rintro⟨k,xs,Q,T,FQ⟩ pH dL ⟨hga,hxk,Qu,_⟩;simp only [CA,NA] at dL hga hxk Qu ⊢;have hxl:=((As.gs dL.g0)).len;refine(aR) (fun UP=>?_) fun UP=>?_
  ·
   simp at UP
   refine db ?_;have P:=dL.p2;refine WC.jw (σ:=Nat × Bool) [_] (fun(G,cell)=>[(0,.pointer (some ⟨d,0,none⟩)),(3,.slice C q D),(5,.int .i64 (i:Int)),(7,.int .i64 most),(8,.pointer (some ⟨y,0,none⟩)),(9,.int .i64 (k:Int)),(10,.pointer (some ⟨G,0,none⟩)),(27,.int .i64 (q:Int)),(28,.int .i64 (i:Int))]) (fun(G,cell)=>[As.blk G 102 [.bool cell,.bool false,.int .i64 0,.int .i64 0],As.gY 70 d]) (fun(G,cell)=>(cell=false→most≠0)∧True) P ?_ ?_
   ·
    refine bK ?_;have N:=P;refine(bX) jA (bq N.e1 (m:=3) (by omega)) ?_;rintro _ og ⟨z7,rfl,ak2,Qa,nL⟩;have ez:=St.lr N nL;have Qa:=Qa (by omega);refine(dc) (fun LJ=>?_) (fun LJ=>?_)
    ·
     refine bY ?_;refine WP .r (PV.bz (us:=_) B5 rfl rfl rfl)<|(eN) ez fun G sZ Fo Fp fj=>?_;refine(cF) u2 fj fun yg qV mi dM=>?_;refine nx ?_;exact mK (G,true) ⟨dM,⟨(fun h=>by cases h),trivial⟩⟩
    refine bY ?_;refine WP .r (PV.bz (us:=_) B5 rfl rfl rfl)<|(eN) ez fun G sZ Fo Fp fj=>?_;refine(cF) u2 fj fun yg zy tK dM=>?_;refine nx ?_;exact mK (G,decide (most=0)) ⟨dM,⟨fun h=>by simpa using h,trivial⟩⟩
   rintro⟨G,cell⟩ og N ⟨Gu,_⟩;simp only [CA,NA] at N Gu ⊢;refine(aZ) dG N.b0<|bK ?_;have ez:=N;refine WC.jw (σ:=Int) [] (fun m2=>[(0,.pointer (some ⟨d,0,none⟩)),(3,.slice C q D),(5,.int .i64 (i:Int)),(7,.int .i64 most),(8,.pointer (some ⟨y,0,none⟩)),(9,.int .i64 (k:Int)),(10,.pointer (some ⟨G,0,none⟩)),(11,.int .i64 m2),(27,.int .i64 (q:Int)),(28,.int .i64 (i:Int))]) (fun m2=>[]) (fun m2=>(m2=if cell then 4 else fE l1 i)∧True) ez ?_ ?_
   ·
    refine(aR) (fun g80=>?_) fun g80=>?_
    ·
     refine bY ?_;exact mK (4) ⟨ez,⟨by rw [g80];rfl,trivial⟩⟩
    have g80:cell=false:=by simpa using g80
    refine nx ?_;exact mK (most) ⟨ez,⟨by rw [g80,P7];rfl,trivial⟩⟩
   rintro m2 sZ fj ⟨LA,_⟩;simp only [CA,NA] at fj LA ⊢
   have HR:1≤m2∧m2≤24:=by
    cases cell
    ·
     simp at LA;have:=Gu rfl;omega
    simp at LA;omega
   refine db ?_;have dM:=fj.p1;refine(bX) jA (bq dM.e1 (m:=m2) (by omega)) ?_;rintro _ yg ⟨z8,rfl,ZG,Dd,Cu⟩;have fD:=St.lr dM Cu;have Dd:=Dd (by omega);refine nx ?_;refine WL.s1 fD.p1 fun yh _ lL=>?_;refine cj ?_;have mG:=lL.p1;refine WC.jw (σ:=Bool) [_] (fun b92=>[(0,.pointer (some ⟨d,0,none⟩)),(3,.slice C q D),(5,.int .i64 (i:Int)),(7,.int .i64 most),(8,.pointer (some ⟨y,0,none⟩)),(9,.int .i64 (k:Int)),(10,.pointer (some ⟨G,0,none⟩)),(11,.int .i64 m2),(27,.int .i64 (q:Int)),(28,.int .i64 (i:Int)),(92,.bool b92)]) (fun b92=>[As.gY 70 d]) (fun b92=>True) mG ?_ ?_
   ·
    refine(aZ) dG mG.b1<|(dc) (fun Pp=>?_) (fun Pp=>?_)
    ·
     refine nx ?_;have qQ:=mG;refine(bX) jA (bq qQ.e1 (m:=2) (by omega)) ?_;rintro _ GK ⟨z9,rfl,ZM,Df,K8⟩;have qR:=St.lr qQ K8;have Df:=Df (by omega);refine bY ?_;exact mK (decide (z9=0)) ⟨qR,trivial⟩
    refine db ?_;exact mK (false) ⟨mG,trivial⟩
   rintro b92 GK qQ _;simp only [CA,NA] at qQ ⊢;refine nx ?_;have qR:=qQ.p1;refine WC.jw (σ:=Int) [_,_] (fun K=>[(0,.pointer (some ⟨d,0,none⟩)),(3,.slice C q D),(5,.int .i64 (i:Int)),(7,.int .i64 most),(8,.pointer (some ⟨y,0,none⟩)),(9,.int .i64 (k:Int)),(10,.pointer (some ⟨G,0,none⟩)),(11,.int .i64 m2),(27,.int .i64 (q:Int)),(28,.int .i64 (i:Int))]) (fun K=>[As.blk G 102 [.bool cell,.bool false,.int .i64 K,.int .i64 0],As.gY 70 d]) (fun K=>(0≤K)∧(K<m2)∧True) qR ?_ ?_
   ·
    refine(aR) (fun g92=>?_) fun g92=>?_
    ·
     refine fO ?_;have mF:=qR.p1;refine(bX) jA (bq mF.e1 (m:=(min m2 3)) (by omega)) ?_;rintro _ Ix ⟨z10,rfl,ail,Le,vH⟩;have U:=St.lr mF vH;have Le:=Le (by omega);refine bK ?_;refine WL.s1 U.p1 fun KQ _ kB=>?_;refine nx ?_;exact mK (m2 - 1 - z10) ⟨kB,⟨by omega,by omega,trivial⟩⟩
    refine nx ?_;exact mK (z8) ⟨qR,⟨by omega,by omega,trivial⟩⟩
   rintro K Ix mF ⟨hn0,hn1,_⟩;simp only [CA,NA] at mF hn0 hn1 ⊢;refine bY ?_;have U:=mF.p1;refine WC.jw (σ:=Bool) [_] (fun Lf=>[(0,.pointer (some ⟨d,0,none⟩)),(3,.slice C q D),(5,.int .i64 (i:Int)),(7,.int .i64 most),(8,.pointer (some ⟨y,0,none⟩)),(9,.int .i64 (k:Int)),(10,.pointer (some ⟨G,0,none⟩)),(11,.int .i64 m2),(27,.int .i64 (q:Int)),(28,.int .i64 (i:Int)),(114,.bool Lf)]) (fun Lf=>[As.gY 70 d]) (fun Lf=>(Lf=true→l1[i].ring=false∧xs.length≠0)∧True) U ?_ ?_
   ·
    refine(aZ) dG U.b3<|(dc) (fun aau=>?_) (fun aau=>?_)
    ·
     refine(aZ) kn U.b3<|(dc) (fun oh=>?_) (fun oh=>?_)
     ·
      refine nx ?_;have kB:=U;refine(bX) jA (bq kB.e1 (m:=3) (by omega)) ?_;rintro _ KQ ⟨z11,rfl,aim,Lg,aav⟩;have ll:=St.lr kB aav;have Lg:=Lg (by omega);refine bY ?_;exact mK (decide (z11=1)) ⟨ll,⟨fun _=>⟨by simpa using aau,by have h0:=oh;simp at h0;omega⟩,trivial⟩⟩
     refine db ?_;exact mK (false) ⟨U,⟨(fun h=>by cases h),trivial⟩⟩
    refine jT ?_;exact mK (false) ⟨U,⟨(fun h=>by cases h),trivial⟩⟩
   rintro Lf KQ kB ⟨hb,_⟩;simp only [CA,NA] at kB hb ⊢;refine nx ?_;have ll:=kB.p1;refine WC.jw (σ:=Bool × Int) [_,_] (fun(O,L)=>[(0,.pointer (some ⟨d,0,none⟩)),(3,.slice C q D),(5,.int .i64 (i:Int)),(7,.int .i64 most),(8,.pointer (some ⟨y,0,none⟩)),(9,.int .i64 (k:Int)),(10,.pointer (some ⟨G,0,none⟩)),(27,.int .i64 (q:Int)),(28,.int .i64 (i:Int))]) (fun(O,L)=>[As.blk G 102 [.bool cell,.bool O,.int .i64 K,.int .i64 L],As.gY 70 d]) (fun(O,L)=>(O=true→l1[i].ring=false∧xs.length≠0∧0≤L∧L<m2)∧(O=false→L=0)∧True) ll ?_ ?_
   ·
    refine(aR) (fun tF=>?_) fun tF=>?_
    ·
     refine bY ?_;have sf:=ll.p1;refine(bX) jA (bq sf.e1 (m:=m2) (by omega)) ?_;rintro _ N8 ⟨z12,rfl,ain,Lh,GQ⟩;have om:=St.lr sf GQ;have Lh:=Lh (by omega);refine nx ?_;refine WL.s1 om.p1 fun Tm _ vV=>?_;refine nx ?_;refine WL.s1 vV fun Tn _ Aj=>?_;refine nx ?_;exact mK (true,z12) ⟨Aj,⟨fun _=>⟨(hb tF).1,(hb tF).2,by omega,by omega⟩,(fun h=>by cases h),trivial⟩⟩
    refine nx ?_;exact mK (false,0) ⟨ll,⟨(fun h=>by cases h),fun _=>rfl,trivial⟩⟩
   rintro⟨O,L⟩ N8 sf ⟨hpk,Vr,_⟩;simp only [CA,NA] at sf hpk Vr ⊢;refine(aZ) kn sf.b3<|(aY) kW sf.b0<|?_;refine WL.go rfl (OX.aP (us:=(Ask.mk cell O K L).cells) J4 rfl rfl rfl rfl fun Ie Tm aaw aax=>?_);have om:=sf.de aaw aax;have hzs:=om.size;refine WL.ap rfl rfl om.p3 (SR.dd (A:=fun _=>True) (x:=Ask.mk cell O K L) (As.gb om.g0) trivial rfl (by simp [Ask.cells,Value.oneCell']) rfl) fun a124 aay Tn aaz ak5 vV=>?_;refine nx ?_;refine WL.s1 vV.p4 fun YT _ Aj=>?_;refine gL ?_;refine ef (k - 1,xs++[⟨cell,O,K,L⟩],a124,(T+1),aay) ⟨Aj.p2.drop.p2.drop.p1,⟨fun x u=>(aaz x u).elim (hga x) (Nat.le_trans hzs),by simp;omega,Hf Qu (QK (x:=⟨cell,O,K,L⟩) LA hn0 hn1 hpk Vr),trivial⟩⟩
  simp at UP
  refine db ?_;have On:=On xs;have P:=dL.ba (by omega);have mN:=hZ.trans (bH.dA (F:=fun x=>x∈aI Q) hga) (Nat.le_refl _);refine(aY) sM P.b1<|?_;refine WP .r (PV.dI jh CD rfl rfl (by omega))<|?_;refine WL.go rfl (OX.Ve (i:=i) EL (As.gs P.g3) CD S rfl rfl rfl (by simp [Value.oneCell']) ⟨l1[i].ring,xs,f0,c0⟩ ⟨Q,T,FQ,rfl,(As.gr P.g0)⟩ fun og s8 h8=>?_);have N:=P.p3.eV s8 h8 (fun x h=>.inl h);refine ed ?_;refine ef (i+1,l1.set i ⟨l1[i].ring,xs,f0,c0⟩,_) ⟨N.p1.drop.p1.drop.p1,⟨by omega,kV.set hPo S (bW S).symm ⟨show xs.length≤6 by omega,Qu,On⟩,mN,trivial⟩⟩
 simp at Ic
 have H0:i=l1.length:=by omega
 subst H0;have hRk:=hPo.ok;refine(bs) ?_;exact⟨_,_,_,l1,_,rfl,hRk,by omega,by omega,hZ,R⟩
set_option maxHeartbeats 400000
theorem v7{p:Key→Bool}(q:CF prog f) (hl:Rd RR.key 2 Z w a n c l) (s:∀w1,aS [] w w1→∀x∈l,Calls prog f #[x.val,cap] w1 fun e w'=>e=.returned (.bool (p x))∧aS [] w1 w'):Calls prog 109 #[.slice a n c,.func (.func f) #[] #[cap]] w fun e w'=>∃j:Int,e=.returned (.int .i64 j)∧uE l p j∧aS [] w w':=by
 have hlen:=hl.len;have hle:=hl.le;refine enter func109 rfl ntmps109 rfl<|?_;have aO:=St.s0 w;refine aX ?_;refine bK ?_;refine WC.bd (σ:=Nat) (dj:=fun i=>[(0,.slice a n c),(1,.func (.func f) #[] #[cap]),(7,.int .i64 (n:Int)),(8,.int .i64 (i:Int))]) (F:=fun i=>[]) (I:=fun i=>(i≤n)∧(∀j x,j<i→l[j]?=some x→p x=false)∧True) (μ:=fun i=>n - i) (0) (aO) Sub.t (⟨by omega,fun j x h=>by omega,trivial⟩)<|?_;rintro i w1 st1 ⟨hi,b,_⟩;simp only [CA,NA] at st1 hi b ⊢;refine(aR) (fun g9=>?_) fun g9=>?_
 ·
  simp at g9
  have g:i<l.length:=by omega
  refine jT ?_;obtain⟨C,D,E,u,G,o,v,H⟩:=Rd.at hl g;have o:=RR.a8 o;subst o;refine cj ?_;refine WP .r (PV.dI ek u rfl rfl (by omega))<|(aY) ao (aW v (St.cg st1) (by simp))<|?_;refine WL.go rfl (OX.mT q rfl rfl rfl ((Calls.cap (s _ (St.cg st1) l[i] (List.getElem_mem g))).mono ?_));rintro _ w2 ⟨rfl,s2⟩;refine⟨_,rfl,?_⟩;have st2:=st1.step s2;refine(aR) (fun g16=>?_) fun g16=>?_
  ·
   refine(bs) ?_;exact⟨_,rfl,.inl ⟨i,_,ak g,g16,b,rfl⟩,(St.cg st2)⟩
  have g16:p l[i]=false:=by simpa using g16
  refine ed ?_;refine ef (i+1) ⟨st2,⟨by omega,cG g b (by simpa using g16),trivial⟩⟩
 simp at g9
 have y:∀x∈l,p x=false:=fun x z=>by obtain⟨j,B,rfl⟩:=List.getElem_of_mem z;exact b j _ (by omega) (ak B)
 refine(bs) ?_;exact⟨_,rfl,.inr ⟨y,rfl⟩,(St.cg st1)⟩
theorem qO{p:Key→Bool}(b:CF prog f) (hl:Rd RR.key 2 Z w a n c l) (g:∀w1,aS [] w w1→∀x∈l,Calls prog f #[x.val,cap] w1 fun e w'=>e=.returned (.bool (p x))∧aS [] w1 w'):CR prog 64 #[.slice a n c,.func (.func f) #[] #[cap]] w (.bool (l.any p)):=by
 refine enter func64 rfl ntmps64 rfl<|?_;have aO:=St.s0 w;refine(bX) Kk (v7 (w:=w) b (hl.ext (St.cg aO)) (fun w1 h1=>g w1 (aS.trans (St.cg aO) h1))) ?_;rintro _ w1 ⟨j,rfl,h,s1⟩;have st1:=aO.step s1;have i:=h.any;refine(bs) ?_;exact⟨by rw [i],(St.cg st1)⟩
set_option maxHeartbeats 400000
theorem xe(hu:fK A w ar r cr aa) (hi:Rd RR.aD 4 Z w a1 n1 e1 x.ab) (hr:Rd RR.dV 8 Z w a2 n2 e2 x.ah) (g:aq aa) (h:gU x) (hk:gM aa k=true):CR prog 45 #[.slice ar r cr,.agg (x.row a1 n1 e1 a2 n2 e2).toArray,k.val] w (.int .i64 0):=by
 refine enter func45 rfl ntmps45 rfl<|?_;have aO:=St.s0 w;refine(dq) aO fun b4 w1 t v st1=>?_;refine(dq) st1 fun b5 w2 y z st2=>?_;refine(bX) Wx (sS (hu.ext (St.cg st2))) ?_;rintro _ w3 ⟨bv,rfl,i,j⟩;have b:=st2.step j;obtain rfl:bv=true:=i.2 g;refine(aR) (fun g7=>?_) fun g7=>?_
 ·
  exact dm g7
 ·
  refine(aY) aL b.b1<|(bX) Kf (iO (x:=x) (hi.ext (St.cg b)) (hr.ext (St.cg b))) ?_;rintro _ w4 ⟨o,rfl,p,q⟩;have e:=b.step q;obtain rfl:o=true:=p.2 h;refine(aR) (fun g11=>?_) fun g11=>?_
  ·
   exact dm g11
  refine(aY) ao e.b0<|?_;refine WL.c1 (u:=.bool true) (sV (k:=k) (hu.ext (St.cg e))) (by rw [hk]) e fun w5 B s=>?_;refine cj ?_;refine WC.eA rfl<|(bs) ?_;exact⟨rfl,(St.cg s)⟩
 -- C D E
theorem oN(t:St w M Z w []) (ht:lq prog Z w) (hu:Rd RR.eT 4 Z w ar r cr aa) (hi:Rd RR.aD 4 Z w a1 n1 e1 x.ab) (hr:Rd RR.dV 8 Z w a2 n2 e2 x.ah) (h:aq aa) (u:gU x) (hk:eG aa k) (v:gM aa k=true):Calls prog 14 #[.slice ar r cr,.agg (x.row a1 n1 e1 a2 n2 e2).toArray,k.val] w fun e w'=>e=.returned (.tuple #[.string (valOf aa x.ab k),.int .i64 0])∧St w M Z w' []:=by
 refine enter func14 rfl ntmps14 rfl<|?_;have aO:=t;have st1:=aO.fr hu;have st2:=st1.fr hi;have y:=st2.fr hr;have z:=y.fact (B:=As.fz (FZ.Ij prog)) ht (fun _ C=>C);refine(dq) z fun b4 w1 I J E=>?_;refine(dq) E fun b5 w2 K L b=>?_;refine(aY) aL b.b1<|(aY) ao b.b0<|(eS) (xe (As.gr b.g5) (As.gr b.g4) (As.gr b.g3) h u v) b fun w3 N F=>?_;refine(aR) (fun g14=>?_) fun g14=>?_
 ·
  exact dm g14
 refine bY ?_;refine WC.bN (m:=5) [] [2,4] [0,1,2,3,4] [] F (ai.k4 M0 M1 M2 M3<|ai.cons M4<|ai.cons M5<|ai.nil) mixed (by kernel_rfl) (by kernel_rfl) rfl<|(lx) aL SV.g1<|(fV) (fun w4 O P i Q=>?_);simp only [CA,NA] at i;have j:=i;refine OX.call R3 rfl rfl ((pw (x:=x) j.e0).mono ?_);rintro _ w5 ⟨d1,d2,d3,rfl,o⟩;have G:=St.lr j o;refine⟨_,rfl,o.bV.size,_,rfl,_,_,_,G,aw.k4<|aw.k4<|aw.cons<|aw.nil,ai.k4 M3 M4 M5 M6<|ai.cons M7<|ai.cons M8<|ai.nil,?_⟩;refine(lx) ao SV.g0<|(fV) (fun w6 R S p T=>?_);simp only [CA,NA] at p;have g:=p.p1.p1;refine OX.call Kh rfl rfl ((yi (x:=x) (D:=⟨ar,a1,a2,r,cr,n1,e1,n2,e2,d2,d3,d1⟩) h hk _ _ _ [] g.e2 ⟨(As.gr g.g8),(As.gr g.g7),(As.gr g.g6),(As.gf g.g5)⟩ aU.nil).mono ?_);rintro _ w7 ⟨eO,rfl,U,V,q⟩;have H:=St.lr g q;refine⟨_,rfl,q.bV.size,_,rfl,_,_,_,H,aw.k4<|aw.k4<|aw.cons<|aw.nil,ai.k4 M3 M4 M5 M6<|ai.cons M7<|ai.cons M8<|ai.nil,?_⟩;refine(jv) ?_;intro W X s;simp only [CM,NM,CA,NA,hI.it] at s;refine bK ?_;refine WL.nil (EX.np ?_);refine(yE) ?_;exact⟨rfl,s.k0⟩
set_option maxHeartbeats 400000
set_option maxHeartbeats 400000
set_option maxHeartbeats 400000
set_option maxHeartbeats 400000
theorem mz(hl:Rd RR.key 2 A w a n c l) (u:l.Nodup):CR prog 80 #[.slice a n c] w (.slice a n c):=by
 have hle:=SR.le hl;have hlen:=SR.len hl;refine enter func80 rfl ntmps80 rfl<|?_;have aO:=St.s0 w;refine aX ?_;refine(aR) (fun g8=>?_) fun g8=>?_
 ·
  skip
  refine(bs) ?_;exact⟨rfl,(St.cg aO)⟩
 simp at g8
 refine kI ?_;refine WC.bd (σ:=Nat) (dj:=fun i=>[(0,.slice a n c),(3,.int .i64 (i:Int))]) (F:=fun i=>[]) (I:=fun i=>(1≤i)∧(i≤n)∧True) (μ:=fun i=>n - i) (1) (aO) Sub.t (⟨Nat.le_refl _,by omega,trivial⟩)<|?_;rintro i w1 st1 ⟨hi,eJ,_⟩;simp only [CA,NA] at st1 hi eJ ⊢;refine(aR) (fun g13=>?_) fun g13=>?_
 ·
  simp at g13
  have j:i<l.length:=by omega
  have o:i - 1<l.length:=by omega
  obtain⟨D,E,G,v,_,g,y,_⟩:=Rd.at hl j;have g:=RR.a8 g;subst g;obtain⟨H,J,K,z,_,h,B,_⟩:=Rd.at hl o;have h:=RR.a8 h;subst h
  have C:l[i]≠l[i - 1]:=fun e=>by
   exact List.pairwise_iff_getElem.1 u (i - 1) i o j (by omega) e.symm
  refine db ?_;have L:=st1.bL;refine WC.dS (m:=9) st1 mixed<|bK ?_;refine DP .r (fun _ b=>PV.dI ek (i:=i) v rfl rfl (by omega))<|DP .r (fun _ b=>VA ao (aW y (St.cg b.2) (by simp)) .r)<|bK ?_;refine DP .r (fun _ b=>(PV.sub rfl rfl (by omega) (by omega)).cast (v':=.int .i64 ((i - 1:Nat):Int)) (congrArg (Value.int .i64) (by omega)))<|DP .r (fun _ b=>PV.dI ek (i:=i - 1) z rfl rfl (by omega))<|DP .r (fun _ b=>VA ao (aW B (St.cg b.2) (by simp)) .r)<|(cP)<|?_;rintro w2 ⟨N,st2⟩ _;refine WP .r (PV.DL fH (p:=l[i]) (q:=l[i - 1]) rfl rfl)<|(aR) (fun s=>?_) fun s=>?_
  ·
   exact absurd s (by simpa using C)
  skip
  refine gL ?_;refine ef (i+1) ⟨st2,⟨by omega,by omega,trivial⟩⟩
 simp at g13
 refine(bs) ?_;exact⟨rfl,(St.cg st1)⟩
theorem v8(s:St w M Z w []) (hl:Rd RR.key 2 Z w a n c l) (h0:l≠[]) (h:l.Nodup) (hn:l.length≤1000000):Calls prog 37 #[.slice a n c] w fun e w'=>∃i j o,∃l':List Key,e=.returned (.slice i j o)∧yS l'∧l'.Perm l∧St w M Z w' [As.os RR.key 41 2 i j o l']:=by
 refine enter func37 rfl ntmps37 rfl<|?_;have aO:=s;have st1:=aO.fr hl;refine gL ?_;have st2:=st1;refine(bX) Ki (jo st2.e0 (As.gr st2.g0) hn) ?_;rintro _ w1 ⟨b1,b2,c1,rfl,t⟩;have u:=St.lr st2 t;refine fO ?_;have p:=u;refine(bX) Wu (ti p.e1 h0 hn) ?_;rintro _ w2 ⟨rfl,g,b,v,y⟩;have q:=St.lr p y;have D:g.length=l.length:=b.length_eq;have z:g.Nodup:=b.nodup_iff.2 h;have B:=yT b h v;refine(eS) (mz (Ow.rd (As.gs q.g0) (by omega)) z) q fun w3 E C=>?_;refine(bs) ?_;exact⟨b1,_,c1,g,rfl,B,b,C.p1.drop⟩
theorem xf{aa:List aG}(jl:n≤99):CR prog 66 #[.slice a r c,(cD (n:Int)).val] w (.bool true):=by
 have b:cD (n:Int)=⟨30,itoa n⟩:=by unfold cD;rw [if_neg (by omega)]
 have e:(cD (n:Int)).kind=30:=by rw [b]
 have g:(cD (n:Int)).text=itoa n:=by rw [b]
 refine enter func66 rfl ntmps66 rfl<|?_;have aO:=St.s0 w;refine(dq) aO fun b3 w1 p q st1=>?_;refine cj ?_;have s:=st1.bL;refine WC.dB (m:=12) (E:=cA [(1,fun v _=>v=.bool true),(4,fun v _=>v=.bool false)]) st1 (bj (⟨fun _ _ _ _ _ _ _ h=>h,⟨fun _ _ _ _ _ _ _ h=>h,trivial⟩⟩)) mixed (by kernel_rfl)<|(gI) ao St.g0<|?_;refine DW.c0 (fun i j o=>hM (k:=cD (n:Int)) (by omega) g jl)<|(gI) ao St.g0<|?_;refine DW.c1 (u:=.bool false) (fun i j o=>nJ (k:=cD (n:Int))) (by rw [show(decide ((cD (n:Int)).kind=31) || decide ((cD (n:Int)).kind=32))=false by(rw [e];simp)])<|(cP) ?_;rintro w2 ⟨t,st2⟩ ⟨_,⟨_,_⟩⟩;refine(bs) ?_;exact⟨by simp,(St.cg st2)⟩
theorem wW{B:Nat→Prop}(hk:eG aa k) (hr:fK B w a r c aa):CR prog 66 #[.slice a r c,k.val] w (.bool true):=by
 cases hk with
 | cell h=>exact xf (aa:=aa) h
 | eT hi h=>exact wM hi h hr
end Go.Rc

