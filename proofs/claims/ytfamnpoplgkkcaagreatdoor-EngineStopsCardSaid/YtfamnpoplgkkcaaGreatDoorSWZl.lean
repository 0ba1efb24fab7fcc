/- Walks over the program, part WZl. Conditions: as each theorem says. -/
import Derived.Test.YtfamnpoplgkkcaaGreatDoorSFacts
import Derived.Test.YtfamnpoplgkkcaaGreatDoorSWB
import Derived.Test.YtfamnpoplgkkcaaGreatDoorSWD
import Derived.Test.YtfamnpoplgkkcaaGreatDoorSBf
import Derived.Test.YtfamnpoplgkkcaaGreatDoorSBd
import Derived.Test.YtfamnpoplgkkcaaGreatDoorSWUa
import Derived.Test.YtfamnpoplgkkcaaGreatDoorSBg
set_option linter.all false
namespace Go.Rc
open Go Go.Proofs Go.Proofs.Tryz
variable {a ar a1 a2:Option Addr}{n c d r cr n1 e1 n2 e2:Nat}{w:World}{M Z A:Nat→Prop}{m:Int}{l:List Key}{f:FuncId}{cap:Value}{aa:List aG}{x:cz}{k:Key}
set_option maxHeartbeats 400000
theorem DA{l:List Int}(g:St w M Z w []) (hl:Rd RR.int 1 Z w a n c l) (h:n≤400):Calls prog 8 #[.slice a n c] w fun e w'=>∃d,e=.returned (.pointer (some ⟨d,0,none⟩))∧St w M Z w' [As.hI 70 d]:=
 (Fp (A:=Z) (l:=l) hl h).mono fun e w' ⟨d,h1,i,j,hc⟩=>⟨d,h1,g.new hc j fun x b=>by have b:x=d:=b;subst b;exact i⟩
theorem bs(b:St w M Z w [As.hI 70 d]) (hm:m≤4611686018427387904):Calls prog 23 #[.pointer (some ⟨d,0,none⟩),.int .i64 m] w fun e w'=>∃z:Int,e=.returned (.int .i64 z)∧0≤z∧(1≤m→z<m)∧St w M Z w' [As.hI 70 d]:=
 (Fq (A:=Z) (As.gd b.g0) (b.lV (As.hI 70 d) (by simp) d rfl) hm).mono fun e w' ⟨z,h1,h,i,hc,j⟩=>⟨z,h1,h,i,b.kC (hc.p.mono fun x _ g=>show x=d from by simpa using g) j fun x g=>.inl g⟩
theorem DD{l:List ByteArray}(b:St w M Z w [As.hI 70 d,As.os RR.str 9 1 a r c l]) (h0:0<r) (h1:r≤1000):Calls prog 94 #[.pointer (some ⟨d,0,none⟩),.slice a r c] w fun e w'=>∃s:ByteArray,e=.returned (.string s)∧s∈l∧St w M Z w' [As.hI 70 d,As.os RR.str 9 1 a r c l]:=by
 have hlen:=(As.gs b.g1).len;refine enter func94 rfl ntmps94 rfl<|?_;have aQ:=b;refine kg ?_;have st1:=aQ;refine(bY) jA (bs st1.e1 (m:=(r:Int)) (by omega)) ?_;rintro _ w1 ⟨z,rfl,o,g,j⟩;have st2:=St.lr st1 j;have g:=g (by omega);obtain⟨i,rfl⟩:∃i:Nat,z=i:=⟨z.toNat,by omega⟩
 have hi:i<l.length:=by omega
 obtain⟨p,h⟩:=Ow.addr (As.gs st2.g1) (ak hi);refine WP .r (PV.dV oL h rfl rfl (by omega))<|WP .r (PV.mn e7 (Ow.jD (As.gs st2.g1) (by omega) h (ak hi)) rfl rfl)<|(bA) ?_;exact⟨_,rfl,List.getElem_mem hi,st2⟩
theorem xo(p:St w M Z w [As.hI 70 d]):Calls prog 52 #[.pointer (some ⟨d,0,none⟩)] w fun e w'=>∃x:Change,e=.returned (.agg x.cells.toArray)∧(x.small∧x.value.size≤50)∧St w M Z w' [As.hI 70 d]:=by
 refine enter func52 rfl ntmps52 rfl<|?_;have aQ:=p;refine(eT) aQ fun b2 w1 F G st1=>?_;refine dd ?_;have st2:=st1.p1;refine(bY) jA (bs st2.e1 (m:=4) (by omega)) ?_;rintro _ w2 ⟨z4,rfl,q,b,t⟩;have u:=St.lr st2 t;have b:=b (by omega);refine(eV) (jk (n:=z4)) u fun w3 H v=>?_;refine nx ?_;refine WL.go rfl (OX.aP (us:=words.map Value.string) Ks rfl rfl rfl rfl fun y w4 g z=>?_);have B:=St.qe (R:=RR.str) (E:=9) (k:=1) (a:=some ⟨y,0,none⟩) (n:=10) (c:=10) (xs:=words) v g.ext (Ow.flat z rfl (by simp) (by simp [words,Value.oneCell']) rfl (by decide)) (fun x h=>by simp [aJ] at h;subst h;exact g.ge);have i:=B.p1;refine(bY) aef (DD i.e2 (by decide) (by decide)) ?_;rintro _ w5 ⟨s,rfl,j,C⟩;have D:=St.lr i C;refine WP .r (PV.bC (us:=(Change.mk (bX z4) s).cells) Sb rfl rfl rfl)<|(cI) Kv D.p2 fun w6 I J o=>?_;refine(kV) Ce o.b0<|?_;exact⟨⟨bX z4,s⟩,rfl,⟨⟨⟨z4,q,by omega,rfl⟩,KS s j⟩,(show ∀s∈words,s.size≤50 by decide) s j⟩,o.drop.p1.drop⟩
theorem kA(D:St w M Z w [As.hI 70 d]) (hm:0≤m) (R:m≤1000):Calls prog 19 #[.pointer (some ⟨d,0,none⟩),.int .i64 m] w fun e w'=>∃a n c,∃l:List Change,e=.returned (.slice a n c)∧((l.length:Int)≤m∧∀x∈l,x.value.size≤50)∧(∀x∈l,x.small)∧St w M Z w' [As.hI 70 d,As.os RR.bW 65 3 a n c l]:=by
 refine enter func19 rfl ntmps19 rfl<|?_;have aQ:=D;have st1:=aQ.dp RR.bW 65 3;refine aW ?_;refine ck ?_;have st2:=st1.p1;refine(bY) jA (bs st2.e1 (m:=m+1) (by omega)) ?_;rintro _ w1 ⟨z0,rfl,S,u,E⟩;have G:=St.lr st2 E;have u:=u (by omega);obtain⟨z,rfl⟩:∃z:Nat,z0=z:=⟨z0.toNat,by omega⟩;refine ck ?_;refine WC.bm (σ:=Nat × (List Change) × (Option Addr) × Nat × Nat) (dn:=fun(i,l,g,b,j)=>[(0,.pointer (some ⟨d,0,none⟩)),(5,.slice g b j),(6,.int .i64 (i:Int))]) (F:=fun(i,l,g,b,j)=>[As.os RR.bW 65 3 g b j (l),As.hI 70 d]) (I:=fun(i,l,g,b,j)=>(l.length+i≤z)∧(∀x∈l,x.small)∧(∀x∈l,x.value.size≤50)∧True) (μ:=fun(i,l,g,b,j)=>i) (z,[],none,0,0) (G.p1) Sub.t (⟨by simp,by simp,by simp,trivial⟩)<|?_;rintro⟨i,l,g,b,j⟩ w2 o ⟨H,p,q,_⟩;simp only [CA,NA] at o H p q ⊢;have T:=((As.gs o.g0)).len;refine(aS) (fun g12=>?_) fun g12=>?_
 ·
  simp at g12
  refine eD ?_;have v:=o.p1;refine(bY) adQ (xo v.e1) ?_;rintro _ w3 ⟨x,rfl,B,J⟩;have K:=St.lr v J;refine WL.go rfl (OX.aP (us:=x.cells) E4 rfl rfl rfl rfl fun U w4 L N=>?_);have C:=K.cZ L N;refine WL.ap rfl rfl C.p2 (SR.dc (A:=fun _=>True) (x:=x) (As.gb C.g0) trivial rfl (by simp [Change.cells,Value.oneCell']) rfl) fun O P w5 V W Q=>?_;refine kU ?_;refine ez (i - 1,l++[x],O,(b+1),P) ⟨Q.p1.drop,⟨by simp;omega,fun y s=>by rcases List.mem_append.1 s with h | h;exact p y h;simp at h;subst h;exact B.1,fun y s=>by rcases List.mem_append.1 s with h | h;exact q y h;simp at h;subst h;exact B.2,trivial⟩⟩
 simp at g12
 refine(bA) ?_;exact⟨_,_,_,l,rfl,⟨by omega,q⟩,p,o.p1⟩
set_option maxHeartbeats 4000000 in
theorem Ax(gp:St w M Z w [As.hI 70 d]):Calls prog 21 #[.pointer (some ⟨d,0,none⟩)] w fun e w'=>∃a n c,∃l:List aG,∃Z',e=.returned (.slice a n c)∧aq l∧2≤l.length∧l.length≤8∧bJ w.heap.size Z Z'∧St w M Z' w' [As.hI 70 d,As.os RR.eG 58 4 a n c l]:=by
 refine enter func21 rfl ntmps21 rfl<|?_;have aQ:=gp;have st1:=aQ.dp RR.eG 58 4;refine aW ?_;refine bO ?_;have st2:=st1.p1;refine(bY) jA (bs st2.e1 (m:=7) (by omega)) ?_;rintro _ w1 ⟨z0,rfl,aag,Du,Uh⟩;have ir:=St.lr st2 Uh;have Du:=Du (by omega);obtain⟨z,rfl⟩:∃z:Nat,z0=z:=⟨z0.toNat,by omega⟩;refine dd ?_;refine WC.bm (σ:=Nat × (List aG) × (Option Addr) × Nat × Nat) (dn:=fun(i,l,C,q,D)=>[(0,.pointer (some ⟨d,0,none⟩)),(3,.slice C q D),(4,.int .i64 (i:Int))]) (F:=fun(i,l,C,q,D)=>[As.os RR.eG 58 4 C q D (l),As.hI 70 d]) (I:=fun(i,l,C,q,D)=>(l.length+i=z+2)∧True) (μ:=fun(i,l,C,q,D)=>i) (z+2,[],none,0,0) (ir.p1) Sub.t (⟨by simp,trivial⟩)<|?_;rintro⟨i,l,C,q,D⟩ w2 hJ ⟨hlz,_⟩;simp only [CA,NA] at hJ hlz ⊢;have hol:=((As.gs hJ.g0)).len;refine(aS) (fun g16=>?_) fun g16=>?_
 ·
  simp at g16
  refine eD ?_;have R:=hJ.p1;refine(bY) jA (bs R.e1 (m:=3) (by omega)) ?_;rintro _ w3 ⟨z1,rfl,alH,Qr,ky⟩;have hM:=St.lr R ky;have Qr:=Qr (by omega);obtain⟨g,hg⟩:∃g:Bool,g=decide (z1=1):=⟨_,rfl⟩;refine nx ?_;refine WP .r (PV.bC (us:=[.bool (decide (z1=1)),.slice none 0 0,.int .i64 0,.int .i64 0]) Nu rfl rfl rfl)<|?_;refine WL.go rfl (OX.aP (us:=[.bool (decide (z1=1)),.slice none 0 0,.int .i64 0,.int .i64 0]) Kq rfl rfl rfl rfl fun b24 w4 aiS aiT=>?_);have hh:=hM.cZ aiS aiT;refine WL.ap rfl rfl hh.p2 (SR.dc (A:=fun _=>True) (x:=begun g) (As.gb hh.g0) trivial rfl (by simp [Value.oneCell']) ⟨none,0,0,by rw [hg];rfl,SR.nil _ _ _ _⟩) fun a25 aiU w5 arq ahC iI=>?_;refine kU ?_;refine ez (i - 1,l++[begun g],a25,(q+1),aiU) ⟨iI.p1.drop,⟨by simp;omega,trivial⟩⟩
 simp at g16
 refine aW ?_;refine bO ?_;refine WC.gY (σ:=Nat × (List aG) × (Nat→Prop)) (dn:=fun(i,l1,V)=>[(0,.pointer (some ⟨d,0,none⟩)),(3,.slice C q D),(27,.int .i64 (q:Int)),(28,.int .i64 (i:Int))]) (F:=fun(i,l1,V)=>[As.hI 70 d,As.os RR.eG 58 4 C q D l1]) (I:=fun(i,l1,V)=>(i≤q)∧(k7 l1 i)∧(bJ w.heap.size Z V)∧True) (μ:=fun(i,l1,V)=>q - i) (Zf:=fun(i,l1,V)=>V) (0,l,Z) (hJ.p1) Sub.t (⟨Nat.zero_le _,k7.start (by omega),bJ.refl _ _,trivial⟩)<|?_;rintro⟨i,l1,V⟩ w3 R ⟨hi,hPo,hZ,_⟩;simp only [CA,NA] at R hi hPo hZ ⊢;have DO:=((As.gs R.g1)).len;have hP8:=hPo.1;refine(aS) (fun Mi=>?_) fun Mi=>?_
 ·
  simp at Mi
  have S:i<l1.length:=by omega
  have hrt:=bU S;have hmt:=wI S;refine aW ?_;refine(eV) (sX (n:=(i:Int)) (Ow.rd (As.gs R.g1) (by omega))) R fun w4 s4 hM=>?_;refine kU ?_;obtain⟨bx,CV⟩:=Ow.addr (As.gs hM.g1) (ak S);refine cm ?_;refine WP .r (PV.dV iU CV rfl rfl (by omega))<|nx ?_;refine WP .r (PV.mn dA (Ow.ring (As.gs hM.g1) CV (by omega) S) rfl rfl)<|cm ?_;have hh:=hM;refine WC.jx (σ:=Int) [] (fun most=>[(0,.pointer (some ⟨d,0,none⟩)),(3,.slice C q D),(5,.int .i64 (i:Int)),(7,.int .i64 most),(27,.int .i64 (q:Int)),(28,.int .i64 (i:Int))]) (fun most=>[]) (fun most=>(most=fA l1 i)∧True) hh ?_ ?_
  ·
   refine(aS) (fun W=>?_) fun W=>?_
   ·
    have W:l1[i].ring=false:=by simpa using W
    refine ck ?_;exact mQ ((block l1 (i:Int)).1) ⟨hh,⟨by unfold fA;rw [hrt,W];rfl,trivial⟩⟩
   have W:l1[i].ring=true:=by simpa using W
   refine nx ?_;exact mQ ((block l1 (i:Int)).2) ⟨hh,⟨by unfold fA;rw [hrt,W];rfl,trivial⟩⟩
  rintro most w5 iI ⟨Qs,_⟩;simp only [CA,NA] at iI Qs ⊢;refine bO ?_;refine WC.bM (m:=12) [] [6,9] [5,6,8,9,0,1,2,3,4,7,10,11] [(11,.blk 58 [.bool false,.slice none 0 0,.int .i64 0,.int .i64 0])] iI (ai.cons M1<|ai.nil) mixed (by kernel_rfl) (by kernel_rfl) rfl<|(fL) (fun w6 TJ FX iF oT=>?_);simp only [CA,NA] at iF;have eE:=iF;refine OX.call jA rfl rfl ((bs eE.e1 (m:=4) (by omega)).mono ?_);rintro _ w7 ⟨z2,rfl,alI,Qt,jB⟩;have di:=St.lr eE jB;have Qt:=Qt (by omega);refine⟨_,rfl,jB.bW.size,_,rfl,_,_,_,di,aw.k2<|aw.nil,ai.cons M1<|ai.nil,?_⟩;refine(fL) (fun w8 U7 Iy cX qT=>?_);simp only [CA,NA] at cX;have dm:=cX;refine OX.call jA rfl rfl ((bs dm.e1 (m:=6) (by omega)).mono ?_);rintro _ w9 ⟨z3,rfl,aak,Dw,nL⟩;have cW:=St.lr dm nL;have Dw:=Dw (by omega);refine⟨_,rfl,nL.bW.size,_,rfl,_,_,_,cW,aw.k2<|aw.nil,ai.cons M1<|ai.nil,?_⟩
  iterate 2 refine DG.a ?_
  refine DQ .r (fun J Zx Rx _ oA yw=>PV.dV iU CV rfl rfl (by omega))<|?_;refine DG.a<|?_;refine DQ .r (fun J Zx Rx _ oA yw=>PV.mn dA (Ow.ring (As.gs (oA.sv yw).g0) CV (by omega) S) rfl rfl)<|?_;refine DG.a<|?_;refine DQ .r (fun J Zx Rx _ oA yw=>PV.bC (us:=[.bool l1[i].ring,.slice none 0 0,.int .i64 (1+z2),.int .i64 z3]) Nu rfl rfl rfl)<|?_;refine DG.side (s:=.blk 58 [.bool false,.slice none 0 0,.int .i64 0,.int .i64 0]) rfl rfl rfl rfl rfl rfl (fun J Zx Rx qS oA=>OX.alloc Nw rfl fun b wy X hb=>⟨X.ext.size,_,rfl,⟨b,rfl⟩,oA.cZ X hb⟩)<|?_;rintro _ ⟨y,rfl⟩;refine(jm) ?_;intro iP CB ed;simp only [CM,NM,CA,NA,hK.it] at ed;refine(cI) Cj ed fun iW jW ka fJ=>?_;refine WL.nil (EX.np ?_);refine(aZ) dA fJ.b0<|bO ?_;have ep:=fJ;refine WC.jx (σ:=Int × Int) [_] (fun(f0,c0)=>[(0,.pointer (some ⟨d,0,none⟩)),(3,.slice C q D),(5,.int .i64 (i:Int)),(7,.int .i64 most),(8,.pointer (some ⟨y,0,none⟩)),(27,.int .i64 (q:Int)),(28,.int .i64 (i:Int))]) (fun(f0,c0)=>[As.blk y 58 [.bool l1[i].ring,.slice none 0 0,.int .i64 f0,.int .i64 c0]]) (fun(f0,c0)=>(∀xs:List Ask,hU ⟨l1[i].ring,xs,f0,c0⟩=true)∧True) ep ?_ ?_
  ·
   refine(aS) (fun Iw=>?_) fun Iw=>?_
   ·
    have aiV:d<iW.heap.size:=(As.hI 70 d).lt (ep.g1) d rfl;have OI:y<iW.heap.size:=((As.gb ep.g0)).lt;have eb:=ep;have Y:=eb.conv (B:=As.acL (ι:=Int) y 58 fun f=>[.bool l1[i].ring,.slice none 0 0,.int .i64 f,.int .i64 z3]) ⟨_,(As.gb eb.g0)⟩ (fun _ h=>h);have aiW:=Y.bQ;have aaP:=Y.jG;have aaQ:=Y.size;refine WC.Jo (m:=8) (fun j w w'=>match j with | 2=>gM (fun x=>x=d) w w' | 6=>gM (fun x=>x=y) w w' | _=>gM (fun _=>False) w w') (E:=cF [(0,PS iW.heap.size 3 6 [.int .i64 0,.int .i64 1,.int .i64 2,.int .i64 4,.int .i64 8,.int .i64 16]),(2,fun v _=>∃z:Nat,v=.int .i64 (z:Int)∧z<6),(3,fun v J=>∃b k:Nat,v=.pointer (some ⟨b,0+k*1,none⟩)∧k<6∧iW.heap.size≤b∧bR J b 3 [.int .i64 0,.int .i64 1,.int .i64 2,.int .i64 4,.int .i64 8,.int .i64 16]),(4,fun v _=>∃z:Int,v=.int .i64 z∧0≤z∧z≤65535),(6,fun _ J=>J.cell? ⟨y,2,none⟩=some (.int .i64 5))]) Y (lF (⟨⟨trivial,fun _ _ _ _ _ c h=>PS.st (fun x u=>by subst u;exact aiV) c h,fun _ _ _ _ _ c h=>PS.st (fun x u=>u.elim) c h,fun _ _ _ _ _ c h=>PS.st (fun x u=>u.elim) c h,fun _ _ _ _ _ c h=>PS.st (fun x u=>by subst u;exact OI) c h,trivial⟩,⟨⟨fun _ _ _ _ _ _ h=>h,trivial,fun _ _ _ _ _ _ h=>h,fun _ _ _ _ _ _ h=>h,fun _ _ _ _ _ _ h=>h,trivial⟩,⟨⟨trivial,trivial,trivial,fun _ _ _ _ _ c ⟨b,k,h1,h2,h3,h4⟩=>⟨b,k,h1,h2,h3,(PB.get (PB.st (fun x u=>u.elim) c (v:=.pointer (some ⟨b,0,none⟩)) ⟨b,rfl,h3,h4⟩)).2⟩,fun _ _ _ _ _ c ⟨b,k,h1,h2,h3,h4⟩=>⟨b,k,h1,h2,h3,(PB.get (PB.st (fun x u=>by subst u;exact OI) c (v:=.pointer (some ⟨b,0,none⟩)) ⟨b,rfl,h3,h4⟩)).2⟩,trivial⟩,⟨⟨fun _ _ _ _ _ _ h=>h,fun _ _ _ _ _ _ h=>h,trivial,trivial,fun _ _ _ _ _ _ h=>h,trivial⟩,⟨⟨fun _ _ _ _ _ c h=>by rw [← h];exact World.cell?_of_block (c.block y (by omega) (fun u=>u.elim)),trivial,fun _ _ _ _ _ c h=>by rw [← h];exact World.cell?_of_block (c.block y (by omega) (fun u=>u.elim)),fun _ _ _ _ _ c h=>by rw [← h];exact World.cell?_of_block (c.block y (by omega) (fun u=>u.elim)),trivial,trivial⟩,trivial⟩⟩⟩⟩⟩)) mixed (by kernel_rfl)<|?_;refine DW.e rfl rfl rfl rfl rfl (fun J H hF=>OX.aP (us:=[.int .i64 0,.int .i64 1,.int .i64 2,.int .i64 4,.int .i64 8,.int .i64 16]) Sa rfl rfl rfl rfl fun b wy X hb=>⟨⟨Nat.le_trans H.1 X.ext.size,H.2.step X.ext⟩,X.ext.p0,_,rfl,_,rfl,Nat.le_trans H.1 X.ge,hb⟩)<|?_;rintro _ wz _ ⟨b57,rfl,_,_⟩;refine nx ?_;refine DW.e rfl rfl rfl rfl rfl (fun J H hF=>OX.call jA rfl rfl ((bs (H.2.one (.tail _ (.head _))) (m:=6) (by omega)).mono ?_))<|?_
    ·
     rintro _ wy ⟨z,rfl,h0,h1,hy⟩;exact⟨_,rfl,⟨Nat.le_trans H.1 hy.bW.size,H.2.xL M1 hy⟩,hy.bW.mono (fun x _ u=>by obtain⟨A,hA,u⟩:=u;simp at hA;subst hA;exact u),_,rfl,⟨z.toNat,by congr 1;omega,by have:=h1 (by omega);omega⟩⟩
    rintro _ wz _ ⟨z13,rfl,z131⟩
    refine DW.e rfl rfl rfl rfl rfl (fun J H hF=>by
     obtain⟨_,⟨b1_,Fk,wN,wO⟩,_⟩:=hF;simp only [Value.slice.injEq,Option.some.injEq,Addr.mk.injEq,and_true,true_and] at Fk;subst Fk;exact OX.pv (PV.ix (i:=z13) E7 rfl rfl z131) rfl ⟨H,gM.refl _ _,_,rfl,_,z13,rfl,z131,wN,wO⟩) ?_
    rintro _ wz _ ⟨b3,k3,rfl,IP,DU,wO⟩
    refine DW.e rfl rfl rfl rfl rfl (fun J H hF=>by
     obtain⟨⟨b1_,k1_,DR,GL,_,DT⟩,_⟩:=hF;simp only [Value.pointer.injEq,Option.some.injEq,Addr.mk.injEq,and_true] at DR;obtain⟨rfl,UZ⟩:=DR
     obtain⟨z,hz,h0,h1⟩:∃z:Int,nth [.int .i64 0,.int .i64 1,.int .i64 2,.int .i64 4,.int .i64 8,.int .i64 16] (k3*1)=some (.int .i64 z)∧0≤z∧z≤65535:=by
      have h6:k3=0∨k3=1∨k3=2∨k3=3∨k3=4∨k3=5:=by omega
      rcases h6 with rfl | rfl | rfl | rfl | rfl | rfl <;> exact⟨_,rfl,by decide,by decide⟩
     exact OX.pv (PV.ld1 (o:=0) (j:=k3*1) aO (bR.range DT) rfl hz) rfl ⟨H,gM.refl _ _,_,rfl,z,rfl,h0,h1⟩) ?_
    rintro _ wz _ ⟨z5,rfl,h5a,h5b⟩;refine nx ?_
    refine DW.e0 rfl rfl rfl rfl (fun J H hF=>by
     obtain⟨f,hb⟩:∃f:Int,bR J y 58 [.bool l1[i].ring,.slice none 0 0,.int .i64 f,.int .i64 z3]:=H.2.ok _ M0;exact OX.st (j:=2) G1 hb rfl rfl (by simp [nth]) rfl rfl fun wy s hsz wN=>⟨⟨Nat.le_trans H.1 s.size,H.2.same M0 (s.p.mono fun x _ u=>show x=y from by simpa using u) ⟨5,wN⟩⟩,s.p.mono (fun x _ u=>by simpa using u),fun _=>bR.range wN 2 _ rfl⟩) ?_
    rintro _ wz _ h6c;refine(cS) ?_;rintro lB ⟨Qd,dI⟩ ⟨Tk,⟨_,⟨_,⟨_,⟨hF0,_⟩⟩⟩⟩⟩;have fb:=dI.tt (PS.pb hF0) aiW aaP aaQ;have dN:=fb.p1
    have P:=dN.conv (B:=As.blk y 58 [.bool l1[i].ring,.slice none 0 0,.int .i64 5,.int .i64 z3]) (by
     obtain⟨f,hb⟩:∃f:Int,bR lB y 58 [.bool l1[i].ring,.slice none 0 0,.int .i64 f,.int .i64 z3]:=dN.ok _ M0;have h1:=(bR.range hb 2 _ rfl).symm.trans Tk
     have h2:f=5:=by simpa using h1
     subst h2;exact hb) (fun _ h=>h)
    refine WL.s1 P fun oh _ N=>?_;refine nx ?_;exact mQ (5,z5) ⟨N.p1.drop,⟨fun _=>by unfold hU;simp [Iw,h5a,h5b],trivial⟩⟩
   have Iw:l1[i].ring=false:=by simpa using Iw
   refine nx ?_;exact mQ (1+z2,z3) ⟨ep,⟨fun _=>by unfold hU;simp [Iw];omega,trivial⟩⟩
  rintro⟨f0,c0⟩ lB eb ⟨OS,_⟩;simp only [CA,NA] at eb OS ⊢;refine dd ?_;have Y:=eb.p1;refine(bY) jA (bs Y.e1 (m:=4) (by omega)) ?_;rintro _ oh ⟨z6,rfl,alK,Qu,Lc⟩;have dI:=St.lr Y Lc;have Qu:=Qu (by omega);obtain⟨z,hz6⟩:∃z:Nat,z6=z:=⟨z6.toNat,by omega⟩;subst hz6;refine ck ?_;have fb:=dI.dp RR.ask 102 4;refine WC.bm (σ:=Nat × (List Ask) × (Option Addr) × Nat × Nat) (dn:=fun(k,xs,Q,T,Gf)=>[(0,.pointer (some ⟨d,0,none⟩)),(3,.slice C q D),(5,.int .i64 (i:Int)),(7,.int .i64 most),(8,.pointer (some ⟨y,0,none⟩)),(9,.int .i64 (k:Int)),(27,.int .i64 (q:Int)),(28,.int .i64 (i:Int))]) (F:=fun(k,xs,Q,T,Gf)=>[As.os RR.ask 102 4 Q T Gf (xs),As.blk y 58 [.bool l1[i].ring,.slice Q T Gf,.int .i64 f0,.int .i64 c0],As.hI 70 d]) (I:=fun(k,xs,Q,T,Gf)=>(∀x∈aJ Q,w.heap.size≤x)∧(xs.length+k≤3)∧(∀(k:Nat) x,xs[k]?=some x→fm l1 i l1[i].ring k x=true)∧True) (μ:=fun(k,xs,Q,T,Gf)=>k) (z,[],none,0,0) (fb.p1.p2.p2) Sub.t (⟨by simp [aJ],by simp;omega,by simp,trivial⟩)<|?_;rintro⟨k,xs,Q,T,Gf⟩ sg dN ⟨hga,hxk,QN,_⟩;simp only [CA,NA] at dN hga hxk QN ⊢;have hxl:=((As.gs dN.g0)).len;refine(aS) (fun Vf=>?_) fun Vf=>?_
  ·
   simp at Vf
   refine dd ?_;have P:=dN.p2;refine WC.jx (σ:=Nat × Bool) [_] (fun(G,cell)=>[(0,.pointer (some ⟨d,0,none⟩)),(3,.slice C q D),(5,.int .i64 (i:Int)),(7,.int .i64 most),(8,.pointer (some ⟨y,0,none⟩)),(9,.int .i64 (k:Int)),(10,.pointer (some ⟨G,0,none⟩)),(27,.int .i64 (q:Int)),(28,.int .i64 (i:Int))]) (fun(G,cell)=>[As.blk G 102 [.bool cell,.bool false,.int .i64 0,.int .i64 0],As.hI 70 d]) (fun(G,cell)=>(cell=false→most≠0)∧True) P ?_ ?_
   ·
    refine bO ?_;have N:=P;refine(bY) jA (bs N.e1 (m:=3) (by omega)) ?_;rintro _ pR ⟨z7,rfl,alL,Qv,qX⟩;have dQ:=St.lr N qX;have Qv:=Qv (by omega);refine(de) (fun Mj=>?_) (fun Mj=>?_)
    ·
     refine cm ?_;refine WP .r (PV.bC (us:=_) Ch rfl rfl rfl)<|(eT) dQ fun G tL FL FM eZ=>?_;refine(cI) ve eZ fun zN ry mu dB=>?_;refine nx ?_;exact mQ (G,true) ⟨dB,⟨(fun h=>by cases h),trivial⟩⟩
    refine cm ?_;refine WP .r (PV.bC (us:=_) Ch rfl rfl rfl)<|(eT) dQ fun G tL FL FM eZ=>?_;refine(cI) ve eZ fun zN zH tR dB=>?_;refine nx ?_;exact mQ (G,decide (most=0)) ⟨dB,⟨fun h=>by simpa using h,trivial⟩⟩
   rintro⟨G,cell⟩ pR N ⟨GU,_⟩;simp only [CA,NA] at N GU ⊢;refine(aZ) dA N.b0<|bO ?_;have dQ:=N;refine WC.jx (σ:=Int) [] (fun m2=>[(0,.pointer (some ⟨d,0,none⟩)),(3,.slice C q D),(5,.int .i64 (i:Int)),(7,.int .i64 most),(8,.pointer (some ⟨y,0,none⟩)),(9,.int .i64 (k:Int)),(10,.pointer (some ⟨G,0,none⟩)),(11,.int .i64 m2),(27,.int .i64 (q:Int)),(28,.int .i64 (i:Int))]) (fun m2=>[]) (fun m2=>(m2=if cell then 4 else fA l1 i)∧True) dQ ?_ ?_
   ·
    refine(aS) (fun g80=>?_) fun g80=>?_
    ·
     refine cm ?_;exact mQ (4) ⟨dQ,⟨by rw [g80];rfl,trivial⟩⟩
    have g80:cell=false:=by simpa using g80
    refine nx ?_;exact mQ (most) ⟨dQ,⟨by rw [g80,Qs];rfl,trivial⟩⟩
   rintro m2 tL eZ ⟨Mb,_⟩;simp only [CA,NA] at eZ Mb ⊢
   have Ih:1≤m2∧m2≤24:=by
    cases cell
    ·
     simp at Mb;have:=GU rfl;omega
    simp at Mb;omega
   refine dd ?_;have dB:=eZ.p1;refine(bY) jA (bs dB.e1 (m:=m2) (by omega)) ?_;rintro _ zN ⟨z8,rfl,aah,Dv,CL⟩;have eK:=St.lr dB CL;have Dv:=Dv (by omega);refine nx ?_;refine WL.s1 eK.p1 fun yt _ kH=>?_;refine ck ?_;have lP:=kH.p1;refine WC.jx (σ:=Bool) [_] (fun b92=>[(0,.pointer (some ⟨d,0,none⟩)),(3,.slice C q D),(5,.int .i64 (i:Int)),(7,.int .i64 most),(8,.pointer (some ⟨y,0,none⟩)),(9,.int .i64 (k:Int)),(10,.pointer (some ⟨G,0,none⟩)),(11,.int .i64 m2),(27,.int .i64 (q:Int)),(28,.int .i64 (i:Int)),(92,.bool b92)]) (fun b92=>[As.hI 70 d]) (fun b92=>True) lP ?_ ?_
   ·
    refine(aZ) dA lP.b1<|(de) (fun Yw=>?_) (fun Yw=>?_)
    ·
     refine nx ?_;have oB:=lP;refine(bY) jA (bs oB.e1 (m:=2) (by omega)) ?_;rintro _ FE ⟨z9,rfl,aan,Dx,Ly⟩;have nT:=St.lr oB Ly;have Dx:=Dx (by omega);refine cm ?_;exact mQ (decide (z9=0)) ⟨nT,trivial⟩
    refine dd ?_;exact mQ (false) ⟨lP,trivial⟩
   rintro b92 FE oB _;simp only [CA,NA] at oB ⊢;refine nx ?_;have nT:=oB.p1;refine WC.jx (σ:=Int) [_,_] (fun K=>[(0,.pointer (some ⟨d,0,none⟩)),(3,.slice C q D),(5,.int .i64 (i:Int)),(7,.int .i64 most),(8,.pointer (some ⟨y,0,none⟩)),(9,.int .i64 (k:Int)),(10,.pointer (some ⟨G,0,none⟩)),(11,.int .i64 m2),(27,.int .i64 (q:Int)),(28,.int .i64 (i:Int))]) (fun K=>[As.blk G 102 [.bool cell,.bool false,.int .i64 K,.int .i64 0],As.hI 70 d]) (fun K=>(0≤K)∧(K<m2)∧True) nT ?_ ?_
   ·
    refine(aS) (fun g92=>?_) fun g92=>?_
    ·
     refine fH ?_;have nS:=nT.p1;refine(bY) jA (bs nS.e1 (m:=(min m2 3)) (by omega)) ?_;rintro _ Io ⟨z10,rfl,aiY,LJ,vP⟩;have U:=St.lr nS vP;have LJ:=LJ (by omega);refine bO ?_;refine WL.s1 U.p1 fun IZ _ jY=>?_;refine nx ?_;exact mQ (m2 - 1 - z10) ⟨jY,⟨by omega,by omega,trivial⟩⟩
    refine nx ?_;exact mQ (z8) ⟨nT,⟨by omega,by omega,trivial⟩⟩
   rintro K Io nS ⟨hn0,hn1,_⟩;simp only [CA,NA] at nS hn0 hn1 ⊢;refine cm ?_;have U:=nS.p1;refine WC.jx (σ:=Bool) [_] (fun LK=>[(0,.pointer (some ⟨d,0,none⟩)),(3,.slice C q D),(5,.int .i64 (i:Int)),(7,.int .i64 most),(8,.pointer (some ⟨y,0,none⟩)),(9,.int .i64 (k:Int)),(10,.pointer (some ⟨G,0,none⟩)),(11,.int .i64 m2),(27,.int .i64 (q:Int)),(28,.int .i64 (i:Int)),(114,.bool LK)]) (fun LK=>[As.hI 70 d]) (fun LK=>(LK=true→l1[i].ring=false∧xs.length≠0)∧True) U ?_ ?_
   ·
    refine(aZ) dA U.b3<|(de) (fun aaS=>?_) (fun aaS=>?_)
    ·
     refine(aZ) ku U.b3<|(de) (fun ox=>?_) (fun ox=>?_)
     ·
      refine nx ?_;have jY:=U;refine(bY) jA (bs jY.e1 (m:=3) (by omega)) ?_;rintro _ IZ ⟨z11,rfl,aiZ,LL,aaT⟩;have jZ:=St.lr jY aaT;have LL:=LL (by omega);refine cm ?_;exact mQ (decide (z11=1)) ⟨jZ,⟨fun _=>⟨by simpa using aaS,by have h0:=ox;simp at h0;omega⟩,trivial⟩⟩
     refine dd ?_;exact mQ (false) ⟨U,⟨(fun h=>by cases h),trivial⟩⟩
    refine kg ?_;exact mQ (false) ⟨U,⟨(fun h=>by cases h),trivial⟩⟩
   rintro LK IZ jY ⟨hb,_⟩;simp only [CA,NA] at jY hb ⊢;refine nx ?_;have jZ:=jY.p1;refine WC.jx (σ:=Bool × Int) [_,_] (fun(O,L)=>[(0,.pointer (some ⟨d,0,none⟩)),(3,.slice C q D),(5,.int .i64 (i:Int)),(7,.int .i64 most),(8,.pointer (some ⟨y,0,none⟩)),(9,.int .i64 (k:Int)),(10,.pointer (some ⟨G,0,none⟩)),(27,.int .i64 (q:Int)),(28,.int .i64 (i:Int))]) (fun(O,L)=>[As.blk G 102 [.bool cell,.bool O,.int .i64 K,.int .i64 L],As.hI 70 d]) (fun(O,L)=>(O=true→l1[i].ring=false∧xs.length≠0∧0≤L∧L<m2)∧(O=false→L=0)∧True) jZ ?_ ?_
   ·
    refine(aS) (fun AA=>?_) fun AA=>?_
    ·
     refine cm ?_;have oC:=jZ.p1;refine(bY) jA (bs oC.e1 (m:=m2) (by omega)) ?_;rintro _ Mh ⟨z12,rfl,ai0,LM,Ha⟩;have mN:=St.lr oC Ha;have LM:=LM (by omega);refine nx ?_;refine WL.s1 mN.p1 fun P9 _ su=>?_;refine nx ?_;refine WL.s1 su fun Qa _ wg=>?_;refine nx ?_;exact mQ (true,z12) ⟨wg,⟨fun _=>⟨(hb AA).1,(hb AA).2,by omega,by omega⟩,(fun h=>by cases h),trivial⟩⟩
    refine nx ?_;exact mQ (false,0) ⟨jZ,⟨(fun h=>by cases h),fun _=>rfl,trivial⟩⟩
   rintro⟨O,L⟩ Mh oC ⟨hpk,VS,_⟩;simp only [CA,NA] at oC hpk VS ⊢;refine(aZ) ku oC.b3<|(aX) k9 oC.b0<|?_;refine WL.go rfl (OX.aP (us:=(Ask.mk cell O K L).cells) Kr rfl rfl rfl rfl fun IB P9 aaU aaV=>?_);have mN:=oC.cZ aaU aaV;have hzs:=mN.size;refine WL.ap rfl rfl mN.p3 (SR.dc (A:=fun _=>True) (x:=Ask.mk cell O K L) (As.gb mN.g0) trivial rfl (by simp [Ask.cells,Value.oneCell']) rfl) fun a124 aaW Qa aaX alO su=>?_;refine nx ?_;refine WL.s1 su.p4 fun U8 _ wg=>?_;refine gK ?_;refine ez (k - 1,xs++[⟨cell,O,K,L⟩],a124,(T+1),aaW) ⟨wg.p2.drop.p2.drop.p1,⟨fun x u=>(aaX x u).elim (hga x) (Nat.le_trans hzs),by simp;omega,Hz QN (Q4 (x:=⟨cell,O,K,L⟩) Mb hn0 hn1 hpk VS),trivial⟩⟩
  simp at Vf
  refine dd ?_;have OS:=OS xs;have P:=dN.a8 (by omega);have mS:=hZ.trans (bJ.dC (F:=fun x=>x∈aJ Q) hga) (Nat.le_refl _);refine(aX) qD P.b1<|?_;refine WP .r (PV.dV iU CV rfl rfl (by omega))<|?_;refine WL.go rfl (OX.VF (i:=i) Cj (As.gs P.g3) CV S rfl rfl rfl (by simp [Value.oneCell']) ⟨l1[i].ring,xs,f0,c0⟩ ⟨Q,T,Gf,rfl,(As.gr P.g0)⟩ fun pR s8 h8=>?_);have N:=P.p3.eU s8 h8 (fun x h=>.inl h);refine eD ?_;refine ez (i+1,l1.set i ⟨l1[i].ring,xs,f0,c0⟩,_) ⟨N.p1.drop.p1.drop.p1,⟨by omega,k7.set hPo S (bU S).symm ⟨show xs.length≤6 by omega,QN,OS⟩,mS,trivial⟩⟩
 simp at Mi
 have Is:i=l1.length:=by omega
 subst Is;have hRk:=hPo.ok;refine(bA) ?_;exact⟨_,_,_,l1,_,rfl,hRk,by omega,by omega,hZ,R⟩
set_option maxHeartbeats 400000
theorem wu{p:Key→Bool}(q:CF prog f) (hl:Rd RR.key 2 Z w a n c l) (s:∀w1,aU [] w w1→∀x∈l,Calls prog f #[x.val,cap] w1 fun e w'=>e=.returned (.bool (p x))∧aU [] w1 w'):Calls prog 109 #[.slice a n c,.func (.func f) #[] #[cap]] w fun e w'=>∃j:Int,e=.returned (.int .i64 j)∧uJ l p j∧aU [] w w':=by
 have hlen:=hl.len;have hle:=hl.le;refine enter func109 rfl ntmps109 rfl<|?_;have aQ:=St.s0 w;refine aW ?_;refine bO ?_;refine WC.bm (σ:=Nat) (dn:=fun i=>[(0,.slice a n c),(1,.func (.func f) #[] #[cap]),(7,.int .i64 (n:Int)),(8,.int .i64 (i:Int))]) (F:=fun i=>[]) (I:=fun i=>(i≤n)∧(∀j x,j<i→l[j]?=some x→p x=false)∧True) (μ:=fun i=>n - i) (0) (aQ) Sub.t (⟨by omega,fun j x h=>by omega,trivial⟩)<|?_;rintro i w1 st1 ⟨hi,b,_⟩;simp only [CA,NA] at st1 hi b ⊢;refine(aS) (fun g9=>?_) fun g9=>?_
 ·
  simp at g9
  have g:i<l.length:=by omega
  refine kg ?_;obtain⟨C,D,E,u,G,o,v,H⟩:=Rd.at hl g;have o:=RR.ba o;subst o;refine ck ?_;refine WP .r (PV.dV ey u rfl rfl (by omega))<|(aX) ao (a7 v (St.cg st1) (by simp))<|?_;refine WL.go rfl (OX.mY q rfl rfl rfl ((Calls.cap (s _ (St.cg st1) l[i] (List.getElem_mem g))).mono ?_));rintro _ w2 ⟨rfl,s2⟩;refine⟨_,rfl,?_⟩;have st2:=st1.step s2;refine(aS) (fun g16=>?_) fun g16=>?_
  ·
   refine(bA) ?_;exact⟨_,rfl,.inl ⟨i,_,ak g,g16,b,rfl⟩,(St.cg st2)⟩
  have g16:p l[i]=false:=by simpa using g16
  refine eD ?_;refine ez (i+1) ⟨st2,⟨by omega,cJ g b (by simpa using g16),trivial⟩⟩
 simp at g9
 have y:∀x∈l,p x=false:=fun x z=>by obtain⟨j,B,rfl⟩:=List.getElem_of_mem z;exact b j _ (by omega) (ak B)
 refine(bA) ?_;exact⟨_,rfl,.inr ⟨y,rfl⟩,(St.cg st1)⟩
theorem qY{p:Key→Bool}(b:CF prog f) (hl:Rd RR.key 2 Z w a n c l) (g:∀w1,aU [] w w1→∀x∈l,Calls prog f #[x.val,cap] w1 fun e w'=>e=.returned (.bool (p x))∧aU [] w1 w'):CR prog 64 #[.slice a n c,.func (.func f) #[] #[cap]] w (.bool (l.any p)):=by
 refine enter func64 rfl ntmps64 rfl<|?_;have aQ:=St.s0 w;refine(bY) KH (wu (w:=w) b (hl.ext (St.cg aQ)) (fun w1 h1=>g w1 (aU.trans (St.cg aQ) h1))) ?_;rintro _ w1 ⟨j,rfl,h,s1⟩;have st1:=aQ.step s1;have i:=h.any;refine(bA) ?_;exact⟨by rw [i],(St.cg st1)⟩
set_option maxHeartbeats 400000
theorem xp(hu:fG A w ar r cr aa) (hi:Rd RR.aD 4 Z w a1 n1 e1 x.ab) (hr:Rd RR.ew 8 Z w a2 n2 e2 x.ah) (g:aq aa) (h:hV x) (hk:gD aa k=true):CR prog 45 #[.slice ar r cr,.agg (x.row a1 n1 e1 a2 n2 e2).toArray,k.val] w (.int .i64 0):=by
 refine enter func45 rfl ntmps45 rfl<|?_;have aQ:=St.s0 w;refine(dz) aQ fun b4 w1 t v st1=>?_;refine(dz) st1 fun b5 w2 y z st2=>?_;refine(bY) Xa (tb (hu.ext (St.cg st2))) ?_;rintro _ w3 ⟨bv,rfl,i,j⟩;have b:=st2.step j;obtain rfl:bv=true:=i.2 g;refine(aS) (fun g7=>?_) fun g7=>?_
 ·
  exact dr g7
 ·
  refine(aX) aN b.b1<|(bY) N4 (jX (x:=x) (hi.ext (St.cg b)) (hr.ext (St.cg b))) ?_;rintro _ w4 ⟨o,rfl,p,q⟩;have e:=b.step q;obtain rfl:o=true:=p.2 h;refine(aS) (fun g11=>?_) fun g11=>?_
  ·
   exact dr g11
  refine(aX) ao e.b0<|?_;refine WL.c1 (u:=.bool true) (te (k:=k) (hu.ext (St.cg e))) (by rw [hk]) e fun w5 B s=>?_;refine ck ?_;refine WC.fX rfl<|(bA) ?_;exact⟨rfl,(St.cg s)⟩
 -- C D E
theorem xm(t:St w M Z w []) (ht:lA prog Z w) (hu:Rd RR.eG 4 Z w ar r cr aa) (hi:Rd RR.aD 4 Z w a1 n1 e1 x.ab) (hr:Rd RR.ew 8 Z w a2 n2 e2 x.ah) (h:aq aa) (u:hV x) (hk:eA aa k) (v:gD aa k=true):Calls prog 14 #[.slice ar r cr,.agg (x.row a1 n1 e1 a2 n2 e2).toArray,k.val] w fun e w'=>e=.returned (.tuple #[.string (valOf aa x.ab k),.int .i64 0])∧St w M Z w' []:=by
 refine enter func14 rfl ntmps14 rfl<|?_;have aQ:=t;have st1:=aQ.fr hu;have st2:=st1.fr hi;have y:=st2.fr hr;have z:=y.fact (B:=As.fz (FZ.IH prog)) ht (fun _ C=>C);refine(dz) z fun b4 w1 I J E=>?_;refine(dz) E fun b5 w2 K L b=>?_;refine(aX) aN b.b1<|(aX) ao b.b0<|(eV) (xp (As.gr b.g5) (As.gr b.g4) (As.gr b.g3) h u v) b fun w3 N F=>?_;refine(aS) (fun g14=>?_) fun g14=>?_
 ·
  exact dr g14
 refine cm ?_;refine WC.bM (m:=5) [] [2,4] [0,1,2,3,4] [] F (ai.k4 M0 M1 M2 M3<|ai.cons M4<|ai.cons M5<|ai.nil) mixed (by kernel_rfl) (by kernel_rfl) rfl<|(kW) aN SV.g1<|(fL) (fun w4 O P i Q=>?_);simp only [CA,NA] at i;have j:=i;refine OX.call Sp rfl rfl ((pH (x:=x) j.e0).mono ?_);rintro _ w5 ⟨d1,d2,d3,rfl,o⟩;have G:=St.lr j o;refine⟨_,rfl,o.bW.size,_,rfl,_,_,_,G,aw.k4<|aw.k4<|aw.cons<|aw.nil,ai.k4 M3 M4 M5 M6<|ai.cons M7<|ai.cons M8<|ai.nil,?_⟩;refine(kW) ao SV.g0<|(fL) (fun w6 R S p T=>?_);simp only [CA,NA] at p;have g:=p.p1.p1;refine OX.call KD rfl rfl ((yu (x:=x) (D:=⟨ar,a1,a2,r,cr,n1,e1,n2,e2,d2,d3,d1⟩) h hk _ _ _ [] g.e2 ⟨(As.gr g.g8),(As.gr g.g7),(As.gr g.g6),(As.gf g.g5)⟩ aV.nil).mono ?_);rintro _ w7 ⟨eO,rfl,U,V,q⟩;have H:=St.lr g q;refine⟨_,rfl,q.bW.size,_,rfl,_,_,_,H,aw.k4<|aw.k4<|aw.cons<|aw.nil,ai.k4 M3 M4 M5 M6<|ai.cons M7<|ai.cons M8<|ai.nil,?_⟩;refine(jm) ?_;intro W X s;simp only [CM,NM,CA,NA,hK.it] at s;refine bO ?_;refine WL.nil (EX.np ?_);refine(yP) ?_;exact⟨rfl,s.k0⟩
set_option maxHeartbeats 400000
set_option maxHeartbeats 400000
set_option maxHeartbeats 400000
set_option maxHeartbeats 400000
theorem mH(hl:Rd RR.key 2 A w a n c l) (u:l.Nodup):CR prog 80 #[.slice a n c] w (.slice a n c):=by
 have hle:=SR.le hl;have hlen:=SR.len hl;refine enter func80 rfl ntmps80 rfl<|?_;have aQ:=St.s0 w;refine aW ?_;refine(aS) (fun g8=>?_) fun g8=>?_
 ·
  skip
  refine(bA) ?_;exact⟨rfl,(St.cg aQ)⟩
 simp at g8
 refine kU ?_;refine WC.bm (σ:=Nat) (dn:=fun i=>[(0,.slice a n c),(3,.int .i64 (i:Int))]) (F:=fun i=>[]) (I:=fun i=>(1≤i)∧(i≤n)∧True) (μ:=fun i=>n - i) (1) (aQ) Sub.t (⟨Nat.le_refl _,by omega,trivial⟩)<|?_;rintro i w1 st1 ⟨hi,eS,_⟩;simp only [CA,NA] at st1 hi eS ⊢;refine(aS) (fun g13=>?_) fun g13=>?_
 ·
  simp at g13
  have j:i<l.length:=by omega
  have o:i - 1<l.length:=by omega
  obtain⟨D,E,G,v,_,g,y,_⟩:=Rd.at hl j;have g:=RR.ba g;subst g;obtain⟨H,J,K,z,_,h,B,_⟩:=Rd.at hl o;have h:=RR.ba h;subst h
  have C:l[i]≠l[i - 1]:=fun e=>by
   exact List.pairwise_iff_getElem.1 u (i - 1) i o j (by omega) e.symm
  refine dd ?_;have L:=st1.bQ;refine WC.dS (m:=9) st1 mixed<|bO ?_;refine DP .r (fun _ b=>PV.dV ey (i:=i) v rfl rfl (by omega))<|DP .r (fun _ b=>VA ao (a7 y (St.cg b.2) (by simp)) .r)<|bO ?_;refine DP .r (fun _ b=>(PV.sub rfl rfl (by omega) (by omega)).cast (v':=.int .i64 ((i - 1:Nat):Int)) (congrArg (Value.int .i64) (by omega)))<|DP .r (fun _ b=>PV.dV ey (i:=i - 1) z rfl rfl (by omega))<|DP .r (fun _ b=>VA ao (a7 B (St.cg b.2) (by simp)) .r)<|(cS)<|?_;rintro w2 ⟨N,st2⟩ _;refine WP .r (PV.Gl fS (p:=l[i]) (q:=l[i - 1]) rfl rfl)<|(aS) (fun s=>?_) fun s=>?_
  ·
   exact absurd s (by simpa using C)
  skip
  refine gK ?_;refine ez (i+1) ⟨st2,⟨by omega,by omega,trivial⟩⟩
 simp at g13
 refine(bA) ?_;exact⟨rfl,(St.cg st1)⟩
theorem wv(s:St w M Z w []) (hl:Rd RR.key 2 Z w a n c l) (h0:l≠[]) (h:l.Nodup) (hn:l.length≤1000000):Calls prog 37 #[.slice a n c] w fun e w'=>∃i j o,∃l':List Key,e=.returned (.slice i j o)∧y9 l'∧l'.Perm l∧St w M Z w' [As.os RR.key 41 2 i j o l']:=by
 refine enter func37 rfl ntmps37 rfl<|?_;have aQ:=s;have st1:=aQ.fr hl;refine gK ?_;have st2:=st1;refine(bY) KF (js st2.e0 (As.gr st2.g0) hn) ?_;rintro _ w1 ⟨b1,b2,c1,rfl,t⟩;have u:=St.lr st2 t;refine fH ?_;have p:=u;refine(bY) W7 (tq p.e1 h0 hn) ?_;rintro _ w2 ⟨rfl,g,b,v,y⟩;have q:=St.lr p y;have D:g.length=l.length:=b.length_eq;have z:g.Nodup:=b.nodup_iff.2 h;have B:=zc b h v;refine(eV) (mH (Ow.rd (As.gs q.g0) (by omega)) z) q fun w3 E C=>?_;refine(bA) ?_;exact⟨b1,_,c1,g,rfl,B,b,C.p1.drop⟩
theorem xr{aa:List aG}(jo:n≤99):CR prog 66 #[.slice a r c,(bX (n:Int)).val] w (.bool true):=by
 have b:bX (n:Int)=⟨30,itoa n⟩:=by unfold bX;rw [if_neg (by omega)]
 have e:(bX (n:Int)).kind=30:=by rw [b]
 have g:(bX (n:Int)).text=itoa n:=by rw [b]
 refine enter func66 rfl ntmps66 rfl<|?_;have aQ:=St.s0 w;refine(dz) aQ fun b3 w1 p q st1=>?_;refine ck ?_;have s:=st1.bQ;refine WC.dD (m:=12) (E:=cF [(1,fun v _=>v=.bool true),(4,fun v _=>v=.bool false)]) st1 (bj (⟨fun _ _ _ _ _ _ _ h=>h,⟨fun _ _ _ _ _ _ _ h=>h,trivial⟩⟩)) mixed (by kernel_rfl)<|(gU) ao St.g0<|?_;refine DW.c0 (fun i j o=>hY (k:=bX (n:Int)) (by omega) g jo)<|(gU) ao St.g0<|?_;refine DW.c1 (u:=.bool false) (fun i j o=>nM (k:=bX (n:Int))) (by rw [show(decide ((bX (n:Int)).kind=31) || decide ((bX (n:Int)).kind=32))=false by(rw [e];simp)])<|(cS) ?_;rintro w2 ⟨t,st2⟩ ⟨_,⟨_,_⟩⟩;refine(bA) ?_;exact⟨by simp,(St.cg st2)⟩
theorem xh{B:Nat→Prop}(hk:eA aa k) (hr:fG B w a r c aa):CR prog 66 #[.slice a r c,k.val] w (.bool true):=by
 cases hk with
 | cell h=>exact xr (aa:=aa) h
 | eG hi h=>exact wW hi h hr
end Go.Rc

