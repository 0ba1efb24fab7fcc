/- Walks over the program, part WZl. Conditions: as each theorem says. -/
import Derived.Test.YtmpkegmkoclbhaaGreatDoorDFacts
import Derived.Test.YtmpkegmkoclbhaaGreatDoorDWB
import Derived.Test.YtmpkegmkoclbhaaGreatDoorDWD
import Derived.Test.YtmpkegmkoclbhaaGreatDoorDBf
import Derived.Test.YtmpkegmkoclbhaaGreatDoorDBd
import Derived.Test.YtmpkegmkoclbhaaGreatDoorDWUa
import Derived.Test.YtmpkegmkoclbhaaGreatDoorDBg
set_option linter.all false
namespace Go.Rc
open Go Go.Proofs Go.Proofs.Tryz
variable {a:Option Addr}{n c d r:Nat}{w:World}{M Z:Nat→Prop}{m:Int}{l:List Key}{f:FuncId}{cap:Value}
set_option maxHeartbeats 400000
theorem Du{l:List Int}(g:St w M Z w []) (hl:Rd RR.int 1 Z w a n c l) (h:n≤400):Calls prog 7 #[.slice a n c] w fun e w'=>∃d,e=.returned (.pointer (some ⟨d,0,none⟩))∧St w M Z w' [As.hM 55 d]:=
 (Fo (A:=Z) (l:=l) hl h).mono fun e w' ⟨d,h1,i,j,hc⟩=>⟨d,h1,g.new hc j fun x b=>by have b:x=d:=b;subst b;exact i⟩
theorem bu(b:St w M Z w [As.hM 55 d]) (hm:m≤4611686018427387904):Calls prog 22 #[.pointer (some ⟨d,0,none⟩),.int .i64 m] w fun e w'=>∃z:Int,e=.returned (.int .i64 z)∧0≤z∧(1≤m→z<m)∧St w M Z w' [As.hM 55 d]:=
 (Fp (A:=Z) (As.gd b.g0) (b.lV (As.hM 55 d) (by simp) d rfl) hm).mono fun e w' ⟨z,h1,h,i,hc,j⟩=>⟨z,h1,h,i,b.kB (hc.p.mono fun x _ g=>show x=d from by simpa using g) j fun x g=>.inl g⟩
theorem Dx{l:List ByteArray}(b:St w M Z w [As.hM 55 d,As.os RR.str 9 1 a r c l]) (h0:0<r) (h1:r≤1000):Calls prog 80 #[.pointer (some ⟨d,0,none⟩),.slice a r c] w fun e w'=>∃s:ByteArray,e=.returned (.string s)∧s∈l∧St w M Z w' [As.hM 55 d,As.os RR.str 9 1 a r c l]:=by
 have hlen:=(As.gs b.g1).len;refine enter func80 rfl ntmps80 rfl<|?_;have aQ:=b;refine kg ?_;have st1:=aQ;refine(bY) jE (bu st1.e1 (m:=(r:Int)) (by omega)) ?_;rintro _ w1 ⟨z,rfl,k,g,j⟩;have st2:=St.lr st1 j;have g:=g (by omega);obtain⟨i,rfl⟩:∃i:Nat,z=i:=⟨z.toNat,by omega⟩
 have hi:i<l.length:=by omega
 obtain⟨o,h⟩:=Ow.addr (As.gs st2.g1) (ak hi);refine WP .r (PV.dU oK h rfl rfl (by omega))<|WP .r (PV.mq fy (Ow.jH (As.gs st2.g1) (by omega) h (ak hi)) rfl rfl)<|(bz) ?_;exact⟨_,rfl,List.getElem_mem hi,st2⟩
theorem xk(p:St w M Z w [As.hM 55 d]):Calls prog 44 #[.pointer (some ⟨d,0,none⟩)] w fun e w'=>∃x:Change,e=.returned (.agg x.cells.toArray)∧(x.small∧x.value.size≤50)∧St w M Z w' [As.hM 55 d]:=by
 refine enter func44 rfl ntmps44 rfl<|?_;have aQ:=p;refine(eZ) aQ fun b2 w1 D F st1=>?_;refine dd ?_;have st2:=st1.p1;refine(bY) jE (bu st2.e1 (m:=4) (by omega)) ?_;rintro _ w2 ⟨z4,rfl,q,b,t⟩;have u:=St.lr st2 t;have b:=b (by omega);refine(eP) (jm (n:=z4)) u fun w3 G v=>?_;refine nx ?_;refine WL.go rfl (OX.aR (us:=words.map Value.string) Ko rfl rfl rfl rfl fun y w4 g z=>?_);have A:=St.pY (R:=RR.str) (E:=9) (k:=1) (a:=some ⟨y,0,none⟩) (n:=10) (c:=10) (xs:=words) v g.ext (Ow.flat z rfl (by simp) (by simp [words,Value.oneCell']) rfl (by decide)) (fun x h=>by simp [aJ] at h;subst h;exact g.ge);have i:=A.p1;refine(bY) adS (Dx i.e2 (by decide) (by decide)) ?_;rintro _ w5 ⟨s,rfl,j,B⟩;have C:=St.lr i B;refine WP .r (PV.bB (us:=(Change.mk (cF z4) s).cells) RV rfl rfl rfl)<|(cJ) Kr C.p2 fun w6 H I o=>?_;refine(kT) Cb o.b0<|?_;exact⟨⟨cF z4,s⟩,rfl,⟨⟨⟨z4,q,by omega,rfl⟩,KG s j⟩,(show ∀s∈words,s.size≤50 by decide) s j⟩,o.drop.p1.drop⟩
theorem nY(B:St w M Z w [As.hM 55 d]) (hm:0≤m) (P:m≤1000):Calls prog 20 #[.pointer (some ⟨d,0,none⟩),.int .i64 m] w fun e w'=>∃a n c,∃l:List Change,e=.returned (.slice a n c)∧((l.length:Int)≤m∧∀x∈l,x.value.size≤50)∧(∀x∈l,x.small)∧St w M Z w' [As.hM 55 d,As.os RR.bX 49 3 a n c l]:=by
 refine enter func20 rfl ntmps20 rfl<|?_;have aQ:=B;have st1:=aQ.dp RR.bX 49 3;refine aY ?_;refine cy ?_;have st2:=st1.p1;refine(bY) jE (bu st2.e1 (m:=m+1) (by omega)) ?_;rintro _ w1 ⟨z0,rfl,Q,q,C⟩;have D:=St.lr st2 C;have q:=q (by omega);obtain⟨z,rfl⟩:∃z:Nat,z0=z:=⟨z0.toNat,by omega⟩;refine cy ?_;refine WC.br (σ:=Nat × (List Change) × (Option Addr) × Nat × Nat) (dn:=fun(i,l,g,b,j)=>[(0,.pointer (some ⟨d,0,none⟩)),(5,.slice g b j),(6,.int .i64 (i:Int))]) (F:=fun(i,l,g,b,j)=>[As.os RR.bX 49 3 g b j (l),As.hM 55 d]) (I:=fun(i,l,g,b,j)=>(l.length+i≤z)∧(∀x∈l,x.small)∧(∀x∈l,x.value.size≤50)∧True) (μ:=fun(i,l,g,b,j)=>i) (z,[],none,0,0) (D.p1) Sub.t (⟨by simp,by simp,by simp,trivial⟩)<|?_;rintro⟨i,l,g,b,j⟩ w2 k ⟨E,o,p,_⟩;simp only [CA,NA] at k E o p ⊢;have R:=((As.gs k.g0)).len;refine(aS) (fun g12=>?_) fun g12=>?_
 ·
  simp at g12
  refine ez ?_;have s:=k.p1;refine(bY) adu (xk s.e1) ?_;rintro _ w3 ⟨x,rfl,u,G⟩;have H:=St.lr s G;refine WL.go rfl (OX.aR (us:=x.cells) EY rfl rfl rfl rfl fun S w4 J K=>?_);have v:=H.da J K;refine WL.ap rfl rfl v.p2 (SR.dc (A:=fun _=>True) (x:=x) (As.gb v.g0) trivial rfl (by simp [Change.cells,Value.oneCell']) rfl) fun L N w5 T U O=>?_;refine kS ?_;refine eB (i - 1,l++[x],L,(b+1),N) ⟨O.p1.drop,⟨by simp;omega,fun y hy=>by rcases List.mem_append.1 hy with h | h;exact o y h;simp at h;subst h;exact u.1,fun y hy=>by rcases List.mem_append.1 hy with h | h;exact p y h;simp at h;subst h;exact u.2,trivial⟩⟩
 simp at g12
 refine(bz) ?_;exact⟨_,_,_,l,rfl,⟨by omega,p⟩,o,k.p1⟩
set_option maxHeartbeats 4000000 in
theorem Ap(gF:St w M Z w [As.hM 55 d]):Calls prog 19 #[.pointer (some ⟨d,0,none⟩)] w fun e w'=>∃a n c,∃l:List aH,∃Z',e=.returned (.slice a n c)∧aq l∧2≤l.length∧l.length≤8∧bK w.heap.size Z Z'∧St w M Z' w' [As.hM 55 d,As.os RR.fb 84 4 a n c l]:=by
 refine enter func19 rfl ntmps19 rfl<|?_;have aQ:=gF;have st1:=aQ.dp RR.fb 84 4;refine aY ?_;refine bO ?_;have st2:=st1.p1;refine(bY) jE (bu st2.e1 (m:=7) (by omega)) ?_;rintro _ w1 ⟨z0,rfl,ZL,Dn,Uc⟩;have iW:=St.lr st2 Uc;have Dn:=Dn (by omega);obtain⟨z,rfl⟩:∃z:Nat,z0=z:=⟨z0.toNat,by omega⟩;refine dd ?_;refine WC.br (σ:=Nat × (List aH) × (Option Addr) × Nat × Nat) (dn:=fun(i,l,C,q,D)=>[(0,.pointer (some ⟨d,0,none⟩)),(3,.slice C q D),(4,.int .i64 (i:Int))]) (F:=fun(i,l,C,q,D)=>[As.os RR.fb 84 4 C q D (l),As.hM 55 d]) (I:=fun(i,l,C,q,D)=>(l.length+i=z+2)∧True) (μ:=fun(i,l,C,q,D)=>i) (z+2,[],none,0,0) (iW.p1) Sub.t (⟨by simp,trivial⟩)<|?_;rintro⟨i,l,C,q,D⟩ w2 hU ⟨hlz,_⟩;simp only [CA,NA] at hU hlz ⊢;have hol:=((As.gs hU.g0)).len;refine(aS) (fun g16=>?_) fun g16=>?_
 ·
  simp at g16
  refine ez ?_;have R:=hU.p1;refine(bY) jE (bu R.e1 (m:=3) (by omega)) ?_;rintro _ w3 ⟨z1,rfl,aly,Qc,kA⟩;have hY:=St.lr R kA;have Qc:=Qc (by omega);obtain⟨g,hg⟩:∃g:Bool,g=decide (z1=1):=⟨_,rfl⟩;refine nx ?_;refine WP .r (PV.bB (us:=[.bool (decide (z1=1)),.slice none 0 0,.int .i64 0,.int .i64 0]) Ni rfl rfl rfl)<|?_;refine WL.go rfl (OX.aR (us:=[.bool (decide (z1=1)),.slice none 0 0,.int .i64 0,.int .i64 0]) Km rfl rfl rfl rfl fun b24 w4 aiF aiG=>?_);have hh:=hY.da aiF aiG;refine WL.ap rfl rfl hh.p2 (SR.dc (A:=fun _=>True) (x:=begun g) (As.gb hh.g0) trivial rfl (by simp [Value.oneCell']) ⟨none,0,0,by rw [hg];rfl,SR.nil _ _ _ _⟩) fun a25 aiH w5 arf ahu iK=>?_;refine kS ?_;refine eB (i - 1,l++[begun g],a25,(q+1),aiH) ⟨iK.p1.drop,⟨by simp;omega,trivial⟩⟩
 simp at g16
 refine aY ?_;refine bO ?_;refine WC.gY (σ:=Nat × (List aH) × (Nat→Prop)) (dn:=fun(i,l1,V)=>[(0,.pointer (some ⟨d,0,none⟩)),(3,.slice C q D),(27,.int .i64 (q:Int)),(28,.int .i64 (i:Int))]) (F:=fun(i,l1,V)=>[As.hM 55 d,As.os RR.fb 84 4 C q D l1]) (I:=fun(i,l1,V)=>(i≤q)∧(kX l1 i)∧(bK w.heap.size Z V)∧True) (μ:=fun(i,l1,V)=>q - i) (Zf:=fun(i,l1,V)=>V) (0,l,Z) (hU.p1) Sub.t (⟨Nat.zero_le _,kX.start (by omega),bK.refl _ _,trivial⟩)<|?_;rintro⟨i,l1,V⟩ w3 R ⟨hi,hPo,hZ,_⟩;simp only [CA,NA] at R hi hPo hZ ⊢;have DF:=((As.gs R.g1)).len;have hP8:=hPo.1;refine(aS) (fun LY=>?_) fun LY=>?_
 ·
  simp at LY
  have S:i<l1.length:=by omega
  have hrt:=bW S;have hmt:=wD S;refine aY ?_;refine(eP) (sO (n:=(i:Int)) (Ow.rd (As.gs R.g1) (by omega))) R fun w4 s4 hY=>?_;refine kS ?_;obtain⟨bx,CP⟩:=Ow.addr (As.gs hY.g1) (ak S);refine cq ?_;refine WP .r (PV.dU jk CP rfl rfl (by omega))<|nx ?_;refine WP .r (PV.mq dH (Ow.ring (As.gs hY.g1) CP (by omega) S) rfl rfl)<|cq ?_;have hh:=hY;refine WC.jA (σ:=Int) [] (fun most=>[(0,.pointer (some ⟨d,0,none⟩)),(3,.slice C q D),(5,.int .i64 (i:Int)),(7,.int .i64 most),(27,.int .i64 (q:Int)),(28,.int .i64 (i:Int))]) (fun most=>[]) (fun most=>(most=fD l1 i)∧True) hh ?_ ?_
  ·
   refine(aS) (fun W=>?_) fun W=>?_
   ·
    have W:l1[i].ring=false:=by simpa using W
    refine cy ?_;exact mS ((block l1 (i:Int)).1) ⟨hh,⟨by unfold fD;rw [hrt,W];rfl,trivial⟩⟩
   have W:l1[i].ring=true:=by simpa using W
   refine nx ?_;exact mS ((block l1 (i:Int)).2) ⟨hh,⟨by unfold fD;rw [hrt,W];rfl,trivial⟩⟩
  rintro most w5 iK ⟨Qd,_⟩;simp only [CA,NA] at iK Qd ⊢;refine bO ?_;refine WC.bL (m:=12) [] [6,9] [5,6,8,9,0,1,2,3,4,7,10,11] [(11,.blk 84 [.bool false,.slice none 0 0,.int .i64 0,.int .i64 0])] iK (ai.cons M1<|ai.nil) mixed (by kernel_rfl) (by kernel_rfl) rfl<|(gh) (fun w6 TD FQ iH oS=>?_);simp only [CA,NA] at iH;have eE:=iH;refine OX.call jE rfl rfl ((bu eE.e1 (m:=4) (by omega)).mono ?_);rintro _ w7 ⟨z2,rfl,alz,Qe,jG⟩;have dh:=St.lr eE jG;have Qe:=Qe (by omega);refine⟨_,rfl,jG.bX.size,_,rfl,_,_,_,dh,ax.k2<|ax.nil,ai.cons M1<|ai.nil,?_⟩;refine(gh) (fun w8 U2 Is cX qJ=>?_);simp only [CA,NA] at cX;have dj:=cX;refine OX.call jE rfl rfl ((bu dj.e1 (m:=6) (by omega)).mono ?_);rintro _ w9 ⟨z3,rfl,ZR,Dq,nP⟩;have cS:=St.lr dj nP;have Dq:=Dq (by omega);refine⟨_,rfl,nP.bX.size,_,rfl,_,_,_,cS,ax.k2<|ax.nil,ai.cons M1<|ai.nil,?_⟩
  iterate 2 refine DG.a ?_
  refine DQ .r (fun J Zx Rx _ pH vI=>PV.dU jk CP rfl rfl (by omega))<|?_;refine DG.a<|?_;refine DQ .r (fun J Zx Rx _ pH vI=>PV.mq dH (Ow.ring (As.gs (pH.sv vI).g0) CP (by omega) S) rfl rfl)<|?_;refine DG.a<|?_;refine DQ .r (fun J Zx Rx _ pH vI=>PV.bB (us:=[.bool l1[i].ring,.slice none 0 0,.int .i64 (1+z2),.int .i64 z3]) Ni rfl rfl rfl)<|?_;refine DG.side (s:=.blk 84 [.bool false,.slice none 0 0,.int .i64 0,.int .i64 0]) rfl rfl rfl rfl rfl rfl (fun J Zx Rx qI pH=>OX.alloc Nl rfl fun b wy X hb=>⟨X.ext.size,_,rfl,⟨b,rfl⟩,pH.da X hb⟩)<|?_;rintro _ ⟨y,rfl⟩;refine(jo) ?_;intro iT G1 dI;simp only [CM,NM,CA,NA,hV.it] at dI;refine(cJ) E4 dI fun iY jU j3 gy=>?_;refine WL.nil (EX.np ?_);refine(a7) dH gy.b0<|bO ?_;have dT:=gy;refine WC.jA (σ:=Int × Int) [_] (fun(f0,c0)=>[(0,.pointer (some ⟨d,0,none⟩)),(3,.slice C q D),(5,.int .i64 (i:Int)),(7,.int .i64 most),(8,.pointer (some ⟨y,0,none⟩)),(27,.int .i64 (q:Int)),(28,.int .i64 (i:Int))]) (fun(f0,c0)=>[As.blk y 84 [.bool l1[i].ring,.slice none 0 0,.int .i64 f0,.int .i64 c0]]) (fun(f0,c0)=>(∀xs:List Ask,ia ⟨l1[i].ring,xs,f0,c0⟩=true)∧True) dT ?_ ?_
  ·
   refine(aS) (fun Iq=>?_) fun Iq=>?_
   ·
    have aiI:d<iY.heap.size:=(As.hM 55 d).lt (dT.g1) d rfl;have Oi:y<iY.heap.size:=((As.gb dT.g0)).lt;have ef:=dT;have Y:=ef.conv (B:=As.acj (ι:=Int) y 84 fun f=>[.bool l1[i].ring,.slice none 0 0,.int .i64 f,.int .i64 z3]) ⟨_,(As.gb ef.g0)⟩ (fun _ h=>h);have aiJ:=Y.bN;have aaq:=Y.jL;have aar:=Y.size;refine WC.Jj (m:=8) (fun j w w'=>match j with | 2=>gP (fun x=>x=d) w w' | 6=>gP (fun x=>x=y) w w' | _=>gP (fun _=>False) w w') (E:=cB [(0,PS iY.heap.size 3 6 [.int .i64 0,.int .i64 1,.int .i64 2,.int .i64 4,.int .i64 8,.int .i64 16]),(2,fun v _=>∃z:Nat,v=.int .i64 (z:Int)∧z<6),(3,fun v J=>∃b k:Nat,v=.pointer (some ⟨b,0+k*1,none⟩)∧k<6∧iY.heap.size≤b∧bU J b 3 [.int .i64 0,.int .i64 1,.int .i64 2,.int .i64 4,.int .i64 8,.int .i64 16]),(4,fun v _=>∃z:Int,v=.int .i64 z∧0≤z∧z≤65535),(6,fun _ J=>J.cell? ⟨y,2,none⟩=some (.int .i64 5))]) Y (lB (⟨⟨trivial,fun _ _ _ _ _ c h=>PS.st (fun x u=>by subst u;exact aiI) c h,fun _ _ _ _ _ c h=>PS.st (fun x u=>u.elim) c h,fun _ _ _ _ _ c h=>PS.st (fun x u=>u.elim) c h,fun _ _ _ _ _ c h=>PS.st (fun x u=>by subst u;exact Oi) c h,trivial⟩,⟨⟨fun _ _ _ _ _ _ h=>h,trivial,fun _ _ _ _ _ _ h=>h,fun _ _ _ _ _ _ h=>h,fun _ _ _ _ _ _ h=>h,trivial⟩,⟨⟨trivial,trivial,trivial,fun _ _ _ _ _ c ⟨b,k,h1,h2,h3,h4⟩=>⟨b,k,h1,h2,h3,(PB.get (PB.st (fun x u=>u.elim) c (v:=.pointer (some ⟨b,0,none⟩)) ⟨b,rfl,h3,h4⟩)).2⟩,fun _ _ _ _ _ c ⟨b,k,h1,h2,h3,h4⟩=>⟨b,k,h1,h2,h3,(PB.get (PB.st (fun x u=>by subst u;exact Oi) c (v:=.pointer (some ⟨b,0,none⟩)) ⟨b,rfl,h3,h4⟩)).2⟩,trivial⟩,⟨⟨fun _ _ _ _ _ _ h=>h,fun _ _ _ _ _ _ h=>h,trivial,trivial,fun _ _ _ _ _ _ h=>h,trivial⟩,⟨⟨fun _ _ _ _ _ c h=>by rw [← h];exact World.cell?_of_block (c.block y (by omega) (fun u=>u.elim)),trivial,fun _ _ _ _ _ c h=>by rw [← h];exact World.cell?_of_block (c.block y (by omega) (fun u=>u.elim)),fun _ _ _ _ _ c h=>by rw [← h];exact World.cell?_of_block (c.block y (by omega) (fun u=>u.elim)),trivial,trivial⟩,trivial⟩⟩⟩⟩⟩)) mixed (by kernel_rfl)<|?_;refine DW.e rfl rfl rfl rfl rfl (fun J H hF=>OX.aR (us:=[.int .i64 0,.int .i64 1,.int .i64 2,.int .i64 4,.int .i64 8,.int .i64 16]) RU rfl rfl rfl rfl fun b wy X hb=>⟨⟨Nat.le_trans H.1 X.ext.size,H.2.step X.ext⟩,X.ext.p0,_,rfl,_,rfl,Nat.le_trans H.1 X.ge,hb⟩)<|?_;rintro _ wz _ ⟨b57,rfl,_,_⟩;refine nx ?_;refine DW.e rfl rfl rfl rfl rfl (fun J H hF=>OX.call jE rfl rfl ((bu (H.2.one (.tail _ (.head _))) (m:=6) (by omega)).mono ?_))<|?_
    ·
     rintro _ wy ⟨z,rfl,h0,h1,hy⟩;exact⟨_,rfl,⟨Nat.le_trans H.1 hy.bX.size,H.2.xE M1 hy⟩,hy.bX.mono (fun x _ u=>by obtain⟨A,hA,u⟩:=u;simp at hA;subst hA;exact u),_,rfl,⟨z.toNat,by congr 1;omega,by have:=h1 (by omega);omega⟩⟩
    rintro _ wz _ ⟨z13,rfl,z131⟩
    refine DW.e rfl rfl rfl rfl rfl (fun J H hF=>by
     obtain⟨_,⟨b1_,Fj,wJ,wK⟩,_⟩:=hF;simp only [Value.slice.injEq,Option.some.injEq,Addr.mk.injEq,and_true,true_and] at Fj;subst Fj;exact OX.pv (PV.ix (i:=z13) E0 rfl rfl z131) rfl ⟨H,gP.refl _ _,_,rfl,_,z13,rfl,z131,wJ,wK⟩) ?_
    rintro _ wz _ ⟨b3,k3,rfl,IH,DK,wK⟩
    refine DW.e rfl rfl rfl rfl rfl (fun J H hF=>by
     obtain⟨⟨b1_,k1_,B2,GG,_,DJ⟩,_⟩:=hF;simp only [Value.pointer.injEq,Option.some.injEq,Addr.mk.injEq,and_true] at B2;obtain⟨rfl,UT⟩:=B2
     obtain⟨z,hz,h0,h1⟩:∃z:Int,nth [.int .i64 0,.int .i64 1,.int .i64 2,.int .i64 4,.int .i64 8,.int .i64 16] (k3*1)=some (.int .i64 z)∧0≤z∧z≤65535:=by
      have h6:k3=0∨k3=1∨k3=2∨k3=3∨k3=4∨k3=5:=by omega
      rcases h6 with rfl | rfl | rfl | rfl | rfl | rfl <;> exact⟨_,rfl,by decide,by decide⟩
     exact OX.pv (PV.ld1 (o:=0) (j:=k3*1) aP (bU.range DJ) rfl hz) rfl ⟨H,gP.refl _ _,_,rfl,z,rfl,h0,h1⟩) ?_
    rintro _ wz _ ⟨z5,rfl,h5a,h5b⟩;refine nx ?_
    refine DW.e0 rfl rfl rfl rfl (fun J H hF=>by
     obtain⟨f,hb⟩:∃f:Int,bU J y 84 [.bool l1[i].ring,.slice none 0 0,.int .i64 f,.int .i64 z3]:=H.2.ok _ M0;exact OX.st (j:=2) GS hb rfl rfl (by simp [nth]) rfl rfl fun wy s hsz wJ=>⟨⟨Nat.le_trans H.1 s.size,H.2.same M0 (s.p.mono fun x _ u=>show x=y from by simpa using u) ⟨5,wJ⟩⟩,s.p.mono (fun x _ u=>by simpa using u),fun _=>bU.range wJ 2 _ rfl⟩) ?_
    rintro _ wz _ h6c;refine(cQ) ?_;rintro lx ⟨Lf,dG⟩ ⟨Tb,⟨_,⟨_,⟨_,⟨hF0,_⟩⟩⟩⟩⟩;have eW:=dG.tj (PS.pb hF0) aiJ aaq aar;have dO:=eW.p1
    have P:=dO.conv (B:=As.blk y 84 [.bool l1[i].ring,.slice none 0 0,.int .i64 5,.int .i64 z3]) (by
     obtain⟨f,hb⟩:∃f:Int,bU lx y 84 [.bool l1[i].ring,.slice none 0 0,.int .i64 f,.int .i64 z3]:=dO.ok _ M0;have h1:=(bU.range hb 2 _ rfl).symm.trans Tb
     have h2:f=5:=by simpa using h1
     subst h2;exact hb) (fun _ h=>h)
    refine WL.s1 P fun nN _ N=>?_;refine nx ?_;exact mS (5,z5) ⟨N.p1.drop,⟨fun _=>by unfold ia;simp [Iq,h5a,h5b],trivial⟩⟩
   have Iq:l1[i].ring=false:=by simpa using Iq
   refine nx ?_;exact mS (1+z2,z3) ⟨dT,⟨fun _=>by unfold ia;simp [Iq];omega,trivial⟩⟩
  rintro⟨f0,c0⟩ lx ef ⟨Oy,_⟩;simp only [CA,NA] at ef Oy ⊢;refine dd ?_;have Y:=ef.p1;refine(bY) jE (bu Y.e1 (m:=4) (by omega)) ?_;rintro _ nN ⟨z6,rfl,alB,Qf,K3⟩;have dG:=St.lr Y K3;have Qf:=Qf (by omega);obtain⟨z,hz6⟩:∃z:Nat,z6=z:=⟨z6.toNat,by omega⟩;subst hz6;refine cy ?_;have eW:=dG.dp RR.ask 81 4;refine WC.br (σ:=Nat × (List Ask) × (Option Addr) × Nat × Nat) (dn:=fun(k,xs,Q,T,F8)=>[(0,.pointer (some ⟨d,0,none⟩)),(3,.slice C q D),(5,.int .i64 (i:Int)),(7,.int .i64 most),(8,.pointer (some ⟨y,0,none⟩)),(9,.int .i64 (k:Int)),(27,.int .i64 (q:Int)),(28,.int .i64 (i:Int))]) (F:=fun(k,xs,Q,T,F8)=>[As.os RR.ask 81 4 Q T F8 (xs),As.blk y 84 [.bool l1[i].ring,.slice Q T F8,.int .i64 f0,.int .i64 c0],As.hM 55 d]) (I:=fun(k,xs,Q,T,F8)=>(∀x∈aJ Q,w.heap.size≤x)∧(xs.length+k≤3)∧(∀(k:Nat) x,xs[k]?=some x→fo l1 i l1[i].ring k x=true)∧True) (μ:=fun(k,xs,Q,T,F8)=>k) (z,[],none,0,0) (eW.p1.p2.p2) Sub.t (⟨by simp [aJ],by simp;omega,by simp,trivial⟩)<|?_;rintro⟨k,xs,Q,T,F8⟩ qV dO ⟨hga,hxk,Qw,_⟩;simp only [CA,NA] at dO hga hxk Qw ⊢;have hxl:=((As.gs dO.g0)).len;refine(aS) (fun U8=>?_) fun U8=>?_
  ·
   simp at U8
   refine dd ?_;have P:=dO.p2;refine WC.jA (σ:=Nat × Bool) [_] (fun(G,cell)=>[(0,.pointer (some ⟨d,0,none⟩)),(3,.slice C q D),(5,.int .i64 (i:Int)),(7,.int .i64 most),(8,.pointer (some ⟨y,0,none⟩)),(9,.int .i64 (k:Int)),(10,.pointer (some ⟨G,0,none⟩)),(27,.int .i64 (q:Int)),(28,.int .i64 (i:Int))]) (fun(G,cell)=>[As.blk G 81 [.bool cell,.bool false,.int .i64 0,.int .i64 0],As.hM 55 d]) (fun(G,cell)=>(cell=false→most≠0)∧True) P ?_ ?_
   ·
    refine bO ?_;have N:=P;refine(bY) jE (bu N.e1 (m:=3) (by omega)) ?_;rintro _ pD ⟨z7,rfl,alC,Qg,vQ⟩;have eh:=St.lr N vQ;have Qg:=Qg (by omega);refine(db) (fun LZ=>?_) (fun LZ=>?_)
    ·
     refine cq ?_;refine WP .r (PV.bB (us:=_) Kp rfl rfl rfl)<|(eZ) eh fun G tB Cz CB eX=>?_;refine(cJ) E1 eX fun zF qU mu dz=>?_;refine nx ?_;exact mS (G,true) ⟨dz,⟨(fun h=>by cases h),trivial⟩⟩
    refine cq ?_;refine WP .r (PV.bB (us:=_) Kp rfl rfl rfl)<|(eZ) eh fun G tB Cz CB eX=>?_;refine(cJ) E1 eX fun zF zy tK dz=>?_;refine nx ?_;exact mS (G,decide (most=0)) ⟨dz,⟨fun h=>by simpa using h,trivial⟩⟩
   rintro⟨G,cell⟩ pD N ⟨x4,_⟩;simp only [CA,NA] at N x4 ⊢;refine(a7) dH N.b0<|bO ?_;have eh:=N;refine WC.jA (σ:=Int) [] (fun m2=>[(0,.pointer (some ⟨d,0,none⟩)),(3,.slice C q D),(5,.int .i64 (i:Int)),(7,.int .i64 most),(8,.pointer (some ⟨y,0,none⟩)),(9,.int .i64 (k:Int)),(10,.pointer (some ⟨G,0,none⟩)),(11,.int .i64 m2),(27,.int .i64 (q:Int)),(28,.int .i64 (i:Int))]) (fun m2=>[]) (fun m2=>(m2=if cell then 4 else fD l1 i)∧True) eh ?_ ?_
   ·
    refine(aS) (fun g80=>?_) fun g80=>?_
    ·
     refine cq ?_;exact mS (4) ⟨eh,⟨by rw [g80];rfl,trivial⟩⟩
    have g80:cell=false:=by simpa using g80
    refine nx ?_;exact mS (most) ⟨eh,⟨by rw [g80,Qd];rfl,trivial⟩⟩
   rintro m2 tB eX ⟨LS,_⟩;simp only [CA,NA] at eX LS ⊢
   have Ia:1≤m2∧m2≤24:=by
    cases cell
    ·
     simp at LS;have:=x4 rfl;omega
    simp at LS;omega
   refine dd ?_;have dz:=eX.p1;refine(bY) jE (bu dz.e1 (m:=m2) (by omega)) ?_;rintro _ zF ⟨z8,rfl,ZM,Dp,CE⟩;have eY:=St.lr dz CE;have Dp:=Dp (by omega);refine nx ?_;refine WL.s1 eY.p1 fun yk _ kF=>?_;refine cy ?_;have mP:=kF.p1;refine WC.jA (σ:=Bool) [_] (fun b92=>[(0,.pointer (some ⟨d,0,none⟩)),(3,.slice C q D),(5,.int .i64 (i:Int)),(7,.int .i64 most),(8,.pointer (some ⟨y,0,none⟩)),(9,.int .i64 (k:Int)),(10,.pointer (some ⟨G,0,none⟩)),(11,.int .i64 m2),(27,.int .i64 (q:Int)),(28,.int .i64 (i:Int)),(92,.bool b92)]) (fun b92=>[As.hM 55 d]) (fun b92=>True) mP ?_ ?_
   ·
    refine(a7) dH mP.b1<|(db) (fun Yf=>?_) (fun Yf=>?_)
    ·
     refine nx ?_;have qP:=mP;refine(bY) jE (bu qP.e1 (m:=2) (by omega)) ?_;rintro _ FC ⟨z9,rfl,ZU,Dr,Lr⟩;have qQ:=St.lr qP Lr;have Dr:=Dr (by omega);refine cq ?_;exact mS (decide (z9=0)) ⟨qQ,trivial⟩
    refine dd ?_;exact mS (false) ⟨mP,trivial⟩
   rintro b92 FC qP _;simp only [CA,NA] at qP ⊢;refine nx ?_;have qQ:=qP.p1;refine WC.jA (σ:=Int) [_,_] (fun K=>[(0,.pointer (some ⟨d,0,none⟩)),(3,.slice C q D),(5,.int .i64 (i:Int)),(7,.int .i64 most),(8,.pointer (some ⟨y,0,none⟩)),(9,.int .i64 (k:Int)),(10,.pointer (some ⟨G,0,none⟩)),(11,.int .i64 m2),(27,.int .i64 (q:Int)),(28,.int .i64 (i:Int))]) (fun K=>[As.blk G 81 [.bool cell,.bool false,.int .i64 K,.int .i64 0],As.hM 55 d]) (fun K=>(0≤K)∧(K<m2)∧True) qQ ?_ ?_
   ·
    refine(aS) (fun g92=>?_) fun g92=>?_
    ·
     refine fL ?_;have qN:=qQ.p1;refine(bY) jE (bu qN.e1 (m:=(min m2 3)) (by omega)) ?_;rintro _ Ii ⟨z10,rfl,aiL,Lx,vJ⟩;have U:=St.lr qN vJ;have Lx:=Lx (by omega);refine bO ?_;refine WL.s1 U.p1 fun K9 _ mO=>?_;refine nx ?_;exact mS (m2 - 1 - z10) ⟨mO,⟨by omega,by omega,trivial⟩⟩
    refine nx ?_;exact mS (z8) ⟨qQ,⟨by omega,by omega,trivial⟩⟩
   rintro K Ii qN ⟨hn0,hn1,_⟩;simp only [CA,NA] at qN hn0 hn1 ⊢;refine cq ?_;have U:=qN.p1;refine WC.jA (σ:=Bool) [_] (fun Ly=>[(0,.pointer (some ⟨d,0,none⟩)),(3,.slice C q D),(5,.int .i64 (i:Int)),(7,.int .i64 most),(8,.pointer (some ⟨y,0,none⟩)),(9,.int .i64 (k:Int)),(10,.pointer (some ⟨G,0,none⟩)),(11,.int .i64 m2),(27,.int .i64 (q:Int)),(28,.int .i64 (i:Int)),(114,.bool Ly)]) (fun Ly=>[As.hM 55 d]) (fun Ly=>(Ly=true→l1[i].ring=false∧xs.length≠0)∧True) U ?_ ?_
   ·
    refine(a7) dH U.b3<|(db) (fun aat=>?_) (fun aat=>?_)
    ·
     refine(a7) kx U.b3<|(db) (fun ov=>?_) (fun ov=>?_)
     ·
      refine nx ?_;have mO:=U;refine(bY) jE (bu mO.e1 (m:=3) (by omega)) ?_;rintro _ K9 ⟨z11,rfl,aiM,Lz,aau⟩;have j4:=St.lr mO aau;have Lz:=Lz (by omega);refine cq ?_;exact mS (decide (z11=1)) ⟨j4,⟨fun _=>⟨by simpa using aat,by have h0:=ov;simp at h0;omega⟩,trivial⟩⟩
     refine dd ?_;exact mS (false) ⟨U,⟨(fun h=>by cases h),trivial⟩⟩
    refine kg ?_;exact mS (false) ⟨U,⟨(fun h=>by cases h),trivial⟩⟩
   rintro Ly K9 mO ⟨hb,_⟩;simp only [CA,NA] at mO hb ⊢;refine nx ?_;have j4:=mO.p1;refine WC.jA (σ:=Bool × Int) [_,_] (fun(O,L)=>[(0,.pointer (some ⟨d,0,none⟩)),(3,.slice C q D),(5,.int .i64 (i:Int)),(7,.int .i64 most),(8,.pointer (some ⟨y,0,none⟩)),(9,.int .i64 (k:Int)),(10,.pointer (some ⟨G,0,none⟩)),(27,.int .i64 (q:Int)),(28,.int .i64 (i:Int))]) (fun(O,L)=>[As.blk G 81 [.bool cell,.bool O,.int .i64 K,.int .i64 L],As.hM 55 d]) (fun(O,L)=>(O=true→l1[i].ring=false∧xs.length≠0∧0≤L∧L<m2)∧(O=false→L=0)∧True) j4 ?_ ?_
   ·
    refine(aS) (fun Ar=>?_) fun Ar=>?_
    ·
     refine cq ?_;have pK:=j4.p1;refine(bY) jE (bu pK.e1 (m:=m2) (by omega)) ?_;rintro _ Oe ⟨z12,rfl,aiN,LA,G6⟩;have mj:=St.lr pK G6;have LA:=LA (by omega);refine nx ?_;refine WL.s1 mj.p1 fun TF _ sa=>?_;refine nx ?_;refine WL.s1 sa fun TG _ Ak=>?_;refine nx ?_;exact mS (true,z12) ⟨Ak,⟨fun _=>⟨(hb Ar).1,(hb Ar).2,by omega,by omega⟩,(fun h=>by cases h),trivial⟩⟩
    refine nx ?_;exact mS (false,0) ⟨j4,⟨(fun h=>by cases h),fun _=>rfl,trivial⟩⟩
   rintro⟨O,L⟩ Oe pK ⟨hpk,VK,_⟩;simp only [CA,NA] at pK hpk VK ⊢;refine(a7) kx pK.b3<|(aZ) oJ pK.b0<|?_;refine WL.go rfl (OX.aR (us:=(Ask.mk cell O K L).cells) Kn rfl rfl rfl rfl fun Iv TF aav aaw=>?_);have mj:=pK.da aav aaw;have hzs:=mj.size;refine WL.ap rfl rfl mj.p3 (SR.dc (A:=fun _=>True) (x:=Ask.mk cell O K L) (As.gb mj.g0) trivial rfl (by simp [Ask.cells,Value.oneCell']) rfl) fun a124 aax TG aay alF sa=>?_;refine nx ?_;refine WL.s1 sa.p4 fun Y1 _ Ak=>?_;refine gV ?_;refine eB (k - 1,xs++[⟨cell,O,K,L⟩],a124,(T+1),aax) ⟨Ak.p2.drop.p2.drop.p1,⟨fun x u=>(aay x u).elim (hga x) (Nat.le_trans hzs),by simp;omega,Hu Qw (QN (x:=⟨cell,O,K,L⟩) LS hn0 hn1 hpk VK),trivial⟩⟩
  simp at U8
  refine dd ?_;have Oy:=Oy xs;have P:=dO.ba (by omega);have mU:=hZ.trans (bK.dA (F:=fun x=>x∈aJ Q) hga) (Nat.le_refl _);refine(aZ) sM P.b1<|?_;refine WP .r (PV.dU jk CP rfl rfl (by omega))<|?_;refine WL.go rfl (OX.Vw (i:=i) E4 (As.gs P.g3) CP S rfl rfl rfl (by simp [Value.oneCell']) ⟨l1[i].ring,xs,f0,c0⟩ ⟨Q,T,F8,rfl,(As.gr P.g0)⟩ fun pD s8 h8=>?_);have N:=P.p3.eO s8 h8 (fun x h=>.inl h);refine ez ?_;refine eB (i+1,l1.set i ⟨l1[i].ring,xs,f0,c0⟩,_) ⟨N.p1.drop.p1.drop.p1,⟨by omega,kX.set hPo S (bW S).symm ⟨show xs.length≤6 by omega,Qw,Oy⟩,mU,trivial⟩⟩
 simp at LY
 have LU:i=l1.length:=by omega
 subst LU;have hRk:=hPo.ok;refine(bz) ?_;exact⟨_,_,_,l1,_,rfl,hRk,by omega,by omega,hZ,R⟩
set_option maxHeartbeats 400000
theorem we{p:Key→Bool}(o:CF prog f) (hl:Rd RR.key 2 Z w a n c l) (q:∀w1,aT [] w w1→∀x∈l,Calls prog f #[x.val,cap] w1 fun e w'=>e=.returned (.bool (p x))∧aT [] w1 w'):Calls prog 97 #[.slice a n c,.func (.func f) #[] #[cap]] w fun e w'=>∃j:Int,e=.returned (.int .i64 j)∧uA l p j∧aT [] w w':=by
 have hlen:=hl.len;have hle:=hl.le;refine enter func97 rfl ntmps97 rfl<|?_;have aQ:=St.s0 w;refine aY ?_;refine bO ?_;refine WC.br (σ:=Nat) (dn:=fun i=>[(0,.slice a n c),(1,.func (.func f) #[] #[cap]),(7,.int .i64 (n:Int)),(8,.int .i64 (i:Int))]) (F:=fun i=>[]) (I:=fun i=>(i≤n)∧(∀j x,j<i→l[j]?=some x→p x=false)∧True) (μ:=fun i=>n - i) (0) (aQ) Sub.t (⟨by omega,fun j x h=>by omega,trivial⟩)<|?_;rintro i w1 st1 ⟨hi,b,_⟩;simp only [CA,NA] at st1 hi b ⊢;refine(aS) (fun g9=>?_) fun g9=>?_
 ·
  simp at g9
  have g:i<l.length:=by omega
  refine kg ?_;obtain⟨A,B,C,s,D,k,u,E⟩:=Rd.at hl g;have k:=RR.bd k;subst k;refine cy ?_;refine WP .r (PV.dU eA s rfl rfl (by omega))<|(aZ) ao (aW u (St.cg st1) (by simp))<|?_;refine WL.go rfl (OX.na o rfl rfl rfl ((Calls.cap (q _ (St.cg st1) l[i] (List.getElem_mem g))).mono ?_));rintro _ w2 ⟨rfl,s2⟩;refine⟨_,rfl,?_⟩;have st2:=st1.step s2;refine(aS) (fun g16=>?_) fun g16=>?_
  ·
   refine(bz) ?_;exact⟨_,rfl,.inl ⟨i,_,ak g,g16,b,rfl⟩,(St.cg st2)⟩
  have g16:p l[i]=false:=by simpa using g16
  refine ez ?_;refine eB (i+1) ⟨st2,⟨by omega,cG g b (by simpa using g16),trivial⟩⟩
 simp at g9
 have v:∀x∈l,p x=false:=fun x y=>by obtain⟨j,z,rfl⟩:=List.getElem_of_mem y;exact b j _ (by omega) (ak z)
 refine(bz) ?_;exact⟨_,rfl,.inr ⟨v,rfl⟩,(St.cg st1)⟩
theorem qM{p:Key→Bool}(b:CF prog f) (hl:Rd RR.key 2 Z w a n c l) (g:∀w1,aT [] w w1→∀x∈l,Calls prog f #[x.val,cap] w1 fun e w'=>e=.returned (.bool (p x))∧aT [] w1 w'):CR prog 53 #[.slice a n c,.func (.func f) #[] #[cap]] w (.bool (l.any p)):=by
 refine enter func53 rfl ntmps53 rfl<|?_;have aQ:=St.s0 w;refine(bY) Sl (we (w:=w) b (hl.ext (St.cg aQ)) (fun w1 h1=>g w1 (aT.trans (St.cg aQ) h1))) ?_;rintro _ w1 ⟨j,rfl,h,s1⟩;have st1:=aQ.step s1;have i:=h.any;refine(bz) ?_;exact⟨by rw [i],(St.cg st1)⟩
set_option maxHeartbeats 400000
set_option maxHeartbeats 400000
set_option maxHeartbeats 400000
set_option maxHeartbeats 400000
theorem mG{A:Nat→Prop}(hl:Rd RR.key 2 A w a n c l) (s:l.Nodup):CR prog 69 #[.slice a n c] w (.slice a n c):=by
 have hle:=SR.le hl;have hlen:=SR.len hl;refine enter func69 rfl ntmps69 rfl<|?_;have aQ:=St.s0 w;refine aY ?_;refine(aS) (fun g8=>?_) fun g8=>?_
 ·
  skip
  refine(bz) ?_;exact⟨rfl,(St.cg aQ)⟩
 simp at g8
 refine kS ?_;refine WC.br (σ:=Nat) (dn:=fun i=>[(0,.slice a n c),(3,.int .i64 (i:Int))]) (F:=fun i=>[]) (I:=fun i=>(1≤i)∧(i≤n)∧True) (μ:=fun i=>n - i) (1) (aQ) Sub.t (⟨Nat.le_refl _,by omega,trivial⟩)<|?_;rintro i w1 st1 ⟨hi,eK,_⟩;simp only [CA,NA] at st1 hi eK ⊢;refine(aS) (fun g13=>?_) fun g13=>?_
 ·
  simp at g13
  have j:i<l.length:=by omega
  have k:i - 1<l.length:=by omega
  obtain⟨B,C,D,u,_,g,v,_⟩:=Rd.at hl j;have g:=RR.bd g;subst g;obtain⟨E,G,H,x,_,h,y,_⟩:=Rd.at hl k;have h:=RR.bd h;subst h
  have z:l[i]≠l[i - 1]:=fun e=>by
   exact List.pairwise_iff_getElem.1 s (i - 1) i k j (by omega) e.symm
  refine dd ?_;have J:=st1.bN;refine WC.dS (m:=9) st1 mixed<|bO ?_;refine DP .r (fun _ b=>PV.dU eA (i:=i) u rfl rfl (by omega))<|DP .r (fun _ b=>VA ao (aW v (St.cg b.2) (by simp)) .r)<|bO ?_;refine DP .r (fun _ b=>(PV.sub rfl rfl (by omega) (by omega)).cast (v':=.int .i64 ((i - 1:Nat):Int)) (congrArg (Value.int .i64) (by omega)))<|DP .r (fun _ b=>PV.dU eA (i:=i - 1) x rfl rfl (by omega))<|DP .r (fun _ b=>VA ao (aW y (St.cg b.2) (by simp)) .r)<|(cQ)<|?_;rintro w2 ⟨K,st2⟩ _;refine WP .r (PV.DX fI (p:=l[i]) (q:=l[i - 1]) rfl rfl)<|(aS) (fun o=>?_) fun o=>?_
  ·
   exact absurd o (by simpa using z)
  skip
  refine gV ?_;refine eB (i+1) ⟨st2,⟨by omega,by omega,trivial⟩⟩
 simp at g13
 refine(bz) ?_;exact⟨rfl,(St.cg st1)⟩
theorem wg(q:St w M Z w []) (hl:Rd RR.key 2 Z w a n c l) (h0:l≠[]) (h:l.Nodup) (hn:l.length≤1000000):Calls prog 31 #[.slice a n c] w fun e w'=>∃i j k,∃l':List Key,e=.returned (.slice i j k)∧wE l'∧l'.Perm l∧St w M Z w' [As.os RR.key 40 2 i j k l']:=by
 refine enter func31 rfl ntmps31 rfl<|?_;have aQ:=q;have st1:=aQ.fr hl;refine gV ?_;have st2:=st1;refine(bY) Kx (ju st2.e0 (As.gr st2.g0) hn) ?_;rintro _ w1 ⟨b1,b2,c1,rfl,s⟩;have t:=St.lr st2 s;refine fL ?_;have o:=t;refine(bY) WT (te o.e1 h0 hn) ?_;rintro _ w2 ⟨rfl,g,b,u,v⟩;have p:=St.lr o v;have A:g.length=l.length:=b.length_eq;have x:g.Nodup:=b.nodup_iff.2 h;have y:=yS b h u;refine(eP) (mG (Ow.rd (As.gs p.g0) (by omega)) x) p fun w3 B z=>?_;refine(bz) ?_;exact⟨b1,_,c1,g,rfl,y,b,z.p1.drop⟩
theorem xl{aa:List aH}(jr:n≤99):CR prog 55 #[.slice a r c,(cF (n:Int)).val] w (.bool true):=by
 have b:cF (n:Int)=⟨30,itoa n⟩:=by unfold cF;rw [if_neg (by omega)]
 have e:(cF (n:Int)).kind=30:=by rw [b]
 have g:(cF (n:Int)).text=itoa n:=by rw [b]
 refine enter func55 rfl ntmps55 rfl<|?_;have aQ:=St.s0 w;refine(dy) aQ fun b3 w1 p q st1=>?_;refine cy ?_;have s:=st1.bN;refine WC.dB (m:=12) (E:=cB [(1,fun v _=>v=.bool true),(4,fun v _=>v=.bool false)]) st1 (bm (⟨fun _ _ _ _ _ _ _ h=>h,⟨fun _ _ _ _ _ _ _ h=>h,trivial⟩⟩)) mixed (by kernel_rfl)<|(gN) ao St.g0<|?_;refine DW.c0 (fun i j o=>ib (k:=cF (n:Int)) (by omega) g jr)<|(gN) ao St.g0<|?_;refine DW.c1 (u:=.bool false) (fun i j o=>nQ (k:=cF (n:Int))) (by rw [show(decide ((cF (n:Int)).kind=31) || decide ((cF (n:Int)).kind=32))=false by(rw [e];simp)])<|(cQ) ?_;rintro w2 ⟨t,st2⟩ ⟨_,⟨_,_⟩⟩;refine(bz) ?_;exact⟨by simp,(St.cg st2)⟩
theorem xe{aa:List aH}{k:Key}{B:Nat→Prop}(hk:ep aa k) (hr:fP B w a r c aa):CR prog 55 #[.slice a r c,k.val] w (.bool true):=by
 cases hk with
 | cell h=>exact xl (aa:=aa) h
 | fb hi h=>exact wS hi h hr
end Go.Rc

