/- Walks over the program, part WYd. Conditions: as each theorem says. -/
import Derived.Test.YtilldnlhckpbjaaGreatDoorQFacts
import Derived.Test.YtilldnlhckpbjaaGreatDoorQWB
import Derived.Test.YtilldnlhckpbjaaGreatDoorQWE
import Derived.Test.YtilldnlhckpbjaaGreatDoorQBe
import Derived.Test.YtilldnlhckpbjaaGreatDoorQBd
import Derived.Test.YtilldnlhckpbjaaGreatDoorQWUa
import Derived.Test.YtilldnlhckpbjaaGreatDoorQBf
set_option linter.all false
namespace Go.Rc
open Go Go.Proofs Go.Proofs.Tryz
variable {a ar a1 a2:Option Addr}{n c d r cr n1 e1 n2 e2:Nat}{w:World}{M Z A:Nat→Prop}{m:Int}{l:List Key}{f:FuncId}{cap:Value}{aa:List aG}{x:cB}{k:Key}{D:SD}{ml ql:List (Key × Value)}
set_option maxHeartbeats 400000
theorem yl{l:List Int}(g:St w M Z w []) (hl:Rd RR.int 1 Z w a n c l) (h:n≤400):Calls prog 7 #[.slice a n c] w fun e w'=>∃d,e=.returned (.pointer (some ⟨d,0,none⟩))∧St w M Z w' [As.gv 67 d]:=
 (Ac (A:=Z) (l:=l) hl h).mono fun e w' ⟨d,h1,i,j,hc⟩=>⟨d,h1,g.new hc j fun x b=>by have b:x=d:=b;subst b;exact i⟩
theorem bu(b:St w M Z w [As.gv 67 d]) (hm:m≤4611686018427387904):Calls prog 29 #[.pointer (some ⟨d,0,none⟩),.int .i64 m] w fun e w'=>∃z:Int,e=.returned (.int .i64 z)∧0≤z∧(1≤m→z<m)∧St w M Z w' [As.gv 67 d]:=
 (Ad (A:=Z) (As.gd b.g0) (b.lx (As.gv 67 d) (by simp) d rfl) hm).mono fun e w' ⟨z,h1,h,i,hc,j⟩=>⟨z,h1,h,i,b.iL (hc.p.mono fun x _ g=>show x=d from by simpa using g) j fun x g=>.inl g⟩
theorem ym{l:List ByteArray}(b:St w M Z w [As.gv 67 d,As.os RR.str 9 1 a r c l]) (h0:0<r) (h1:r≤1000):Calls prog 67 #[.pointer (some ⟨d,0,none⟩),.slice a r c] w fun e w'=>∃s:ByteArray,e=.returned (.string s)∧s∈l∧St w M Z w' [As.gv 67 d,As.os RR.str 9 1 a r c l]:=by
 have hlen:=(As.gs b.g1).len;refine enter func67 rfl ntmps67 rfl<|?_;have aO:=b;refine iM ?_;have st1:=aO;refine(cJ) jh (bu st1.e1 (m:=(r:Int)) (by omega)) ?_;rintro _ w1 ⟨z,rfl,o,g,j⟩;have st2:=St.lr st1 j;have g:=g (by omega);obtain⟨i,rfl⟩:∃i:Nat,z=i:=⟨z.toNat,by omega⟩
 have hi:i<l.length:=by omega
 obtain⟨p,h⟩:=Ow.addr (As.gs st2.g1) (ah hi);refine WP .r (PV.dR l7 h rfl rfl (by omega))<|WP .r (PV.ky ff (Ow.kl (As.gs st2.g1) (by omega) h (ah hi)) rfl rfl)<|(bB) ?_;exact⟨_,rfl,List.getElem_mem hi,st2⟩
theorem sZ(p:St w M Z w [As.gv 67 d]):Calls prog 36 #[.pointer (some ⟨d,0,none⟩)] w fun e w'=>∃x:Change,e=.returned (.agg x.cells.toArray)∧(x.small∧x.value.size≤50)∧St w M Z w' [As.gv 67 d]:=by
 refine enter func36 rfl ntmps36 rfl<|?_;have aO:=p;refine(gx) aO fun b2 w1 G H st1=>?_;refine dp ?_;have st2:=st1.p1;refine(cJ) jh (bu st2.e1 (m:=4) (by omega)) ?_;rintro _ w2 ⟨z4,rfl,q,b,t⟩;have u:=St.lr st2 t;have b:=b (by omega);refine(eY) (gH (n:=z4)) u fun w3 I v=>?_;refine nx ?_;refine WL.go rfl (OX.aS (us:=words.map Value.string) Ew rfl rfl rfl rfl fun y w4 g z=>?_);have B:=St.qu (R:=RR.str) (E:=9) (k:=1) (a:=some ⟨y,0,none⟩) (n:=10) (c:=10) (xs:=words) v g.ext (Ow.flat z rfl (by simp) (by simp [words,Value.oneCell']) rfl (by decide)) (fun x h=>by simp [bA] at h;subst h;exact g.ge);have i:=B.p1;refine(cJ) Vl (ym i.e2 (by decide) (by decide)) ?_;rintro _ w5 ⟨s,rfl,j,C⟩;have F:=St.lr i C;refine WP .r (PV.br (us:=(Change.mk (bO z4) s).cells) K8 rfl rfl rfl)<|(dZ) EC F.p2 fun w6 J K o=>?_;refine(kp) xI o.b0<|?_;exact⟨⟨bO z4,s⟩,rfl,⟨⟨⟨z4,q,by omega,rfl⟩,EZ s j⟩,(show ∀s∈words,s.size≤50 by decide) s j⟩,o.drop.p1.drop⟩
theorem rY(C:St w M Z w [As.gv 67 d]) (hm:0≤m) (R:m≤1000):Calls prog 10 #[.pointer (some ⟨d,0,none⟩),.int .i64 m] w fun e w'=>∃a n c,∃l:List Change,e=.returned (.slice a n c)∧((l.length:Int)≤m∧∀x∈l,x.value.size≤50)∧(∀x∈l,x.small)∧St w M Z w' [As.gv 67 d,As.os RR.cq 63 3 a n c l]:=by
 refine enter func10 rfl ntmps10 rfl<|?_;have aO:=C;have st1:=aO.fV RR.cq 63 3;refine aT ?_;refine cw ?_;have st2:=st1.p1;refine(cJ) jh (bu st2.e1 (m:=m+1) (by omega)) ?_;rintro _ w1 ⟨z0,rfl,S,s,E⟩;have G:=St.lr st2 E;have s:=s (by omega);obtain⟨z,rfl⟩:∃z:Nat,z0=z:=⟨z0.toNat,by omega⟩;refine cw ?_;refine WC.bj (σ:=Nat × (List Change) × (Option Addr) × Nat × Nat) (db:=fun(i,l,g,b,j)=>[(0,.pointer (some ⟨d,0,none⟩)),(5,.slice g b j),(6,.int .i64 (i:Int))]) (F:=fun(i,l,g,b,j)=>[As.os RR.cq 63 3 g b j (l),As.gv 67 d]) (I:=fun(i,l,g,b,j)=>(l.length+i≤z)∧(∀x∈l,x.small)∧(∀x∈l,x.value.size≤50)∧True) (μ:=fun(i,l,g,b,j)=>i) (z,[],none,0,0) (G.p1) Sub.t (⟨by simp,by simp,by simp,trivial⟩)<|?_;rintro⟨i,l,g,b,j⟩ w2 o ⟨H,p,q,_⟩;simp only [CA,NA] at o H p q ⊢;have T:=((As.gs o.g0)).len;refine(aX) (fun g12=>?_) fun g12=>?_
 ·
  simp at g12
  refine fb ?_;have u:=o.p1;refine(cJ) U3 (sZ u.e1) ?_;rintro _ w3 ⟨x,rfl,v,J⟩;have K:=St.lr u J;refine WL.go rfl (OX.aS (us:=x.cells) zM rfl rfl rfl rfl fun U w4 L N=>?_);have B:=K.df L N;refine WL.ap rfl rfl B.p2 (SR.dr (A:=fun _=>True) (x:=x) (As.gb B.g0) trivial rfl (by simp [Change.cells,Value.oneCell']) rfl) fun O P w5 V W Q=>?_;refine lW ?_;refine fx (i - 1,l++[x],O,(b+1),P) ⟨Q.p1.drop,⟨by simp;omega,fun y hy=>by rcases List.mem_append.1 hy with h | h;exact p y h;simp at h;subst h;exact v.1,fun y hy=>by rcases List.mem_append.1 hy with h | h;exact q y h;simp at h;subst h;exact v.2,trivial⟩⟩
 simp at g12
 refine(bB) ?_;exact⟨_,_,_,l,rfl,⟨by omega,q⟩,p,o.p1⟩
set_option maxHeartbeats 4000000 in
theorem vI(gJ:St w M Z w [As.gv 67 d]):Calls prog 8 #[.pointer (some ⟨d,0,none⟩)] w fun e w'=>∃a n c,∃l:List aG,∃Z',e=.returned (.slice a n c)∧ao l∧2≤l.length∧l.length≤8∧fE w.heap.size Z Z'∧St w M Z' w' [As.gv 67 d,As.os RR.dM 71 4 a n c l]:=by
 refine enter func8 rfl ntmps8 rfl<|?_;have aO:=gJ;have st1:=aO.fV RR.dM 71 4;refine aT ?_;refine bM ?_;have st2:=st1.p1;refine(cJ) jh (bu st2.e1 (m:=7) (by omega)) ?_;rintro _ w1 ⟨z0,rfl,abl,Jj,Mw⟩;have lN:=St.lr st2 Mw;have Jj:=Jj (by omega);obtain⟨z,rfl⟩:∃z:Nat,z0=z:=⟨z0.toNat,by omega⟩;refine dp ?_;refine WC.bj (σ:=Nat × (List aG) × (Option Addr) × Nat × Nat) (db:=fun(i,l,C,q,G)=>[(0,.pointer (some ⟨d,0,none⟩)),(3,.slice C q G),(4,.int .i64 (i:Int))]) (F:=fun(i,l,C,q,G)=>[As.os RR.dM 71 4 C q G (l),As.gv 67 d]) (I:=fun(i,l,C,q,G)=>(l.length+i=z+2)∧True) (μ:=fun(i,l,C,q,G)=>i) (z+2,[],none,0,0) (lN.p1) Sub.t (⟨by simp,trivial⟩)<|?_;rintro⟨i,l,C,q,G⟩ w2 jl ⟨hlz,_⟩;simp only [CA,NA] at jl hlz ⊢;have hol:=((As.gs jl.g0)).len;refine(aX) (fun g16=>?_) fun g16=>?_
 ·
  simp at g16
  refine fb ?_;have S:=jl.p1;refine(cJ) jh (bu S.e1 (m:=3) (by omega)) ?_;rintro _ w3 ⟨z1,rfl,abm,Jk,vJ⟩;have jr:=St.lr S vJ;have Jk:=Jk (by omega);obtain⟨g,hg⟩:∃g:Bool,g=decide (z1=1):=⟨_,rfl⟩;refine nx ?_;refine WP .r (PV.br (us:=[.bool (decide (z1=1)),.slice none 0 0,.int .i64 0,.int .i64 0]) Hc rfl rfl rfl)<|?_;refine WL.go rfl (OX.aS (us:=[.bool (decide (z1=1)),.slice none 0 0,.int .i64 0,.int .i64 0]) KZ rfl rfl rfl rfl fun b24 w4 Xe Xf=>?_);have ku:=jr.df Xe Xf;refine WL.ap rfl rfl ku.p2 (SR.dr (A:=fun _=>True) (x:=begun g) (As.gb ku.g0) trivial rfl (by simp [Value.oneCell']) ⟨none,0,0,by rw [hg];rfl,SR.nil _ _ _ _⟩) fun a25 Xg w5 aeR Xh im=>?_;refine lW ?_;refine fx (i - 1,l++[begun g],a25,(q+1),Xg) ⟨im.p1.drop,⟨by simp;omega,trivial⟩⟩
 simp at g16
 refine aT ?_;refine bM ?_;refine WC.nf (σ:=Nat × (List aG) × (Nat→Prop)) (db:=fun(i,l1,W)=>[(0,.pointer (some ⟨d,0,none⟩)),(3,.slice C q G),(27,.int .i64 (q:Int)),(28,.int .i64 (i:Int))]) (F:=fun(i,l1,W)=>[As.gv 67 d,As.os RR.dM 71 4 C q G l1]) (I:=fun(i,l1,W)=>(i≤q)∧(jf l1 i)∧(fE w.heap.size Z W)∧True) (μ:=fun(i,l1,W)=>q - i) (Zf:=fun(i,l1,W)=>W) (0,l,Z) (jl.p1) Sub.t (⟨Nat.zero_le _,jf.start (by omega),fE.refl _ _,trivial⟩)<|?_;rintro⟨i,l1,W⟩ w3 S ⟨hi,Th,hZ,_⟩;simp only [CA,NA] at S hi Th hZ ⊢;have FX:=((As.gs S.g1)).len;have hP8:=Th.1;refine(aX) (fun F5=>?_) fun F5=>?_
 ·
  simp at F5
  have T:i<l1.length:=by omega
  have hrt:=bs T;have hmt:=sB T;refine aT ?_;refine(eY) (pe (n:=(i:Int)) (Ow.rd (As.gs S.g1) (by omega))) S fun w4 s4 jr=>?_;refine lW ?_;obtain⟨bx,yd⟩:=Ow.addr (As.gs jr.g1) (ah T);refine cv ?_;refine WP .r (PV.dR gR yd rfl rfl (by omega))<|nx ?_;refine WP .r (PV.ky dd (Ow.ring (As.gs jr.g1) yd (by omega) T) rfl rfl)<|cv ?_;have ku:=jr;refine WC.iU (σ:=Int) [] (fun most=>[(0,.pointer (some ⟨d,0,none⟩)),(3,.slice C q G),(5,.int .i64 (i:Int)),(7,.int .i64 most),(27,.int .i64 (q:Int)),(28,.int .i64 (i:Int))]) (fun most=>[]) (fun most=>(most=dT l1 i)∧True) ku ?_ ?_
  ·
   refine(aX) (fun X=>?_) fun X=>?_
   ·
    have X:l1[i].ring=false:=by simpa using X
    refine cw ?_;exact nj ((block l1 (i:Int)).1) ⟨ku,⟨by unfold dT;rw [hrt,X];rfl,trivial⟩⟩
   have X:l1[i].ring=true:=by simpa using X
   refine nx ?_;exact nj ((block l1 (i:Int)).2) ⟨ku,⟨by unfold dT;rw [hrt,X];rfl,trivial⟩⟩
  rintro most w5 im ⟨Jl,_⟩;simp only [CA,NA] at im Jl ⊢;refine bM ?_;refine WC.cu (m:=12) [] [6,9] [5,6,8,9,0,1,2,3,4,7,10,11] [(11,.blk 71 [.bool false,.slice none 0 0,.int .i64 0,.int .i64 0])] im (av.cons M1<|av.nil) mixed (by kernel_rfl) (by kernel_rfl) rfl<|(gK) (fun w6 W9 Mr jZ Fl=>?_);simp only [CA,NA] at jZ;have fw:=jZ;refine OX.call jh rfl rfl ((bu fw.e1 (m:=4) (by omega)).mono ?_);rintro _ w7 ⟨z2,rfl,abp,Jm,Fs⟩;have eC:=St.lr fw Fs;have Jm:=Jm (by omega);refine⟨_,rfl,Fs.cq.size,_,rfl,_,_,_,eC,aC.k2<|aC.nil,av.cons M1<|av.nil,?_⟩;refine(gK) (fun w8 Nw CO eQ pw=>?_);simp only [CA,NA] at eQ;have dG:=eQ;refine OX.call jh rfl rfl ((bu dG.e1 (m:=6) (by omega)).mono ?_);rintro _ w9 ⟨z3,rfl,abq,Jn,vK⟩;have dX:=St.lr dG vK;have Jn:=Jn (by omega);refine⟨_,rfl,vK.cq.size,_,rfl,_,_,_,dX,aC.k2<|aC.nil,av.cons M1<|av.nil,?_⟩
  iterate 2 refine DG.a ?_
  refine DQ .r (fun K Zx Rx _ mM uq=>PV.dR gR yd rfl rfl (by omega))<|?_;refine DG.a<|?_;refine DQ .r (fun K Zx Rx _ mM uq=>PV.ky dd (Ow.ring (As.gs (mM.sv uq).g0) yd (by omega) T) rfl rfl)<|?_;refine DG.a<|?_;refine DQ .r (fun K Zx Rx _ mM uq=>PV.br (us:=[.bool l1[i].ring,.slice none 0 0,.int .i64 (1+z2),.int .i64 z3]) Hc rfl rfl rfl)<|?_;refine DG.side (s:=.blk 71 [.bool false,.slice none 0 0,.int .i64 0,.int .i64 0]) rfl rfl rfl rfl rfl rfl (fun K Zx Rx su mM=>OX.alloc He rfl fun b wy Y hb=>⟨Y.ext.size,_,rfl,⟨b,rfl⟩,mM.df Y hb⟩)<|?_;rintro _ ⟨y,rfl⟩;refine(ly) ?_;intro lI E8 dQ;simp only [CM,NM,CA,NA,iK.it] at dQ;refine(dZ) Cv dQ fun mH nT rH gI=>?_;refine WL.nil (EX.np ?_);refine(bp) dd gI.b0<|bM ?_;have e4:=gI;refine WC.iU (σ:=Int × Int) [_] (fun(f0,c0)=>[(0,.pointer (some ⟨d,0,none⟩)),(3,.slice C q G),(5,.int .i64 (i:Int)),(7,.int .i64 most),(8,.pointer (some ⟨y,0,none⟩)),(27,.int .i64 (q:Int)),(28,.int .i64 (i:Int))]) (fun(f0,c0)=>[As.blk y 71 [.bool l1[i].ring,.slice none 0 0,.int .i64 f0,.int .i64 c0]]) (fun(f0,c0)=>(∀xs:List Ask,fH ⟨l1[i].ring,xs,f0,c0⟩=true)∧True) e4 ?_ ?_
  ·
   refine(aX) (fun Ia=>?_) fun Ia=>?_
   ·
    have Xi:d<mH.heap.size:=(As.gv 67 d).lt (e4.g1) d rfl;have Ft:y<mH.heap.size:=((As.gb e4.g0)).lt;have fh:=e4;have eD:=fh.conv (B:=As.T5 (ι:=Int) y 71 fun f=>[.bool l1[i].ring,.slice none 0 0,.int .i64 f,.int .i64 z3]) ⟨_,(As.gb fh.g0)⟩ (fun _ h=>h);have Xj:=eD.bL;have Rj:=eD.jC;have Rk:=eD.size;refine WC.Dp (m:=8) (fun j w w'=>match j with | 2=>fZ (fun x=>x=d) w w' | 6=>fZ (fun x=>x=y) w w' | _=>fZ (fun _=>False) w w') (E:=cA [(0,PS mH.heap.size 3 6 [.int .i64 0,.int .i64 1,.int .i64 2,.int .i64 4,.int .i64 8,.int .i64 16]),(2,fun v _=>∃z:Nat,v=.int .i64 (z:Int)∧z<6),(3,fun v K=>∃b k:Nat,v=.pointer (some ⟨b,0+k*1,none⟩)∧k<6∧mH.heap.size≤b∧bJ K b 3 [.int .i64 0,.int .i64 1,.int .i64 2,.int .i64 4,.int .i64 8,.int .i64 16]),(4,fun v _=>∃z:Int,v=.int .i64 z∧0≤z∧z≤65535),(6,fun _ K=>K.cell? ⟨y,2,none⟩=some (.int .i64 5))]) eD (ll (⟨⟨trivial,fun _ _ _ _ _ c h=>PS.st (fun x u=>by subst u;exact Xi) c h,fun _ _ _ _ _ c h=>PS.st (fun x u=>u.elim) c h,fun _ _ _ _ _ c h=>PS.st (fun x u=>u.elim) c h,fun _ _ _ _ _ c h=>PS.st (fun x u=>by subst u;exact Ft) c h,trivial⟩,⟨⟨fun _ _ _ _ _ _ h=>h,trivial,fun _ _ _ _ _ _ h=>h,fun _ _ _ _ _ _ h=>h,fun _ _ _ _ _ _ h=>h,trivial⟩,⟨⟨trivial,trivial,trivial,fun _ _ _ _ _ c ⟨b,k,h1,h2,h3,h4⟩=>⟨b,k,h1,h2,h3,(PB.get (PB.st (fun x u=>u.elim) c (v:=.pointer (some ⟨b,0,none⟩)) ⟨b,rfl,h3,h4⟩)).2⟩,fun _ _ _ _ _ c ⟨b,k,h1,h2,h3,h4⟩=>⟨b,k,h1,h2,h3,(PB.get (PB.st (fun x u=>by subst u;exact Ft) c (v:=.pointer (some ⟨b,0,none⟩)) ⟨b,rfl,h3,h4⟩)).2⟩,trivial⟩,⟨⟨fun _ _ _ _ _ _ h=>h,fun _ _ _ _ _ _ h=>h,trivial,trivial,fun _ _ _ _ _ _ h=>h,trivial⟩,⟨⟨fun _ _ _ _ _ c h=>by rw [← h];exact World.cell?_of_block (c.block y (by omega) (fun u=>u.elim)),trivial,fun _ _ _ _ _ c h=>by rw [← h];exact World.cell?_of_block (c.block y (by omega) (fun u=>u.elim)),fun _ _ _ _ _ c h=>by rw [← h];exact World.cell?_of_block (c.block y (by omega) (fun u=>u.elim)),trivial,trivial⟩,trivial⟩⟩⟩⟩⟩)) mixed (by kernel_rfl)<|?_;refine DW.e rfl rfl rfl rfl rfl (fun K J hF=>OX.aS (us:=[.int .i64 0,.int .i64 1,.int .i64 2,.int .i64 4,.int .i64 8,.int .i64 16]) K6 rfl rfl rfl rfl fun b wy Y hb=>⟨⟨Nat.le_trans J.1 Y.ext.size,J.2.step Y.ext⟩,Y.ext.p0,_,rfl,_,rfl,Nat.le_trans J.1 Y.ge,hb⟩)<|?_;rintro _ wz _ ⟨b57,rfl,_,_⟩;refine nx ?_;refine DW.e rfl rfl rfl rfl rfl (fun K J hF=>OX.call jh rfl rfl ((bu (J.2.one (.tail _ (.head _))) (m:=6) (by omega)).mono ?_))<|?_
    ·
     rintro _ wy ⟨z,rfl,h0,h1,hy⟩;exact⟨_,rfl,⟨Nat.le_trans J.1 hy.cq.size,J.2.Ot M1 hy⟩,hy.cq.mono (fun x _ u=>by obtain⟨A,hA,u⟩:=u;simp at hA;subst hA;exact u),_,rfl,⟨z.toNat,by congr 1;omega,by have:=h1 (by omega);omega⟩⟩
    rintro _ wz _ ⟨z13,rfl,z131⟩
    refine DW.e rfl rfl rfl rfl rfl (fun K J hF=>by
     obtain⟨_,⟨b1_,Ly,CC,CY⟩,_⟩:=hF;simp only [Value.slice.injEq,Option.some.injEq,Addr.mk.injEq,and_true,true_and] at Ly;subst Ly;exact OX.pv (PV.ix (i:=z13) zO rfl rfl z131) rfl ⟨J,fZ.refl _ _,_,rfl,_,z13,rfl,z131,CC,CY⟩) ?_
    rintro _ wz _ ⟨b3,k3,rfl,CW,CZ,CY⟩
    refine DW.e rfl rfl rfl rfl rfl (fun K J hF=>by
     obtain⟨⟨b1_,k1_,yO,CV,_,QH⟩,_⟩:=hF;simp only [Value.pointer.injEq,Option.some.injEq,Addr.mk.injEq,and_true] at yO;obtain⟨rfl,V9⟩:=yO
     obtain⟨z,hz,h0,h1⟩:∃z:Int,nth [.int .i64 0,.int .i64 1,.int .i64 2,.int .i64 4,.int .i64 8,.int .i64 16] (k3*1)=some (.int .i64 z)∧0≤z∧z≤65535:=by
      have h6:k3=0∨k3=1∨k3=2∨k3=3∨k3=4∨k3=5:=by omega
      rcases h6 with rfl | rfl | rfl | rfl | rfl | rfl <;> exact⟨_,rfl,by decide,by decide⟩
     exact OX.pv (PV.ld1 (o:=0) (j:=k3*1) aP (bJ.range QH) rfl hz) rfl ⟨J,fZ.refl _ _,_,rfl,z,rfl,h0,h1⟩) ?_
    rintro _ wz _ ⟨z5,rfl,h5a,h5b⟩;refine nx ?_
    refine DW.e0 rfl rfl rfl rfl (fun K J hF=>by
     obtain⟨f,hb⟩:∃f:Int,bJ K y 71 [.bool l1[i].ring,.slice none 0 0,.int .i64 f,.int .i64 z3]:=J.2.ok _ M0;exact OX.st (j:=2) IW hb rfl rfl (by simp [nth]) rfl rfl fun wy s hsz CC=>⟨⟨Nat.le_trans J.1 s.size,J.2.same M0 (s.p.mono fun x _ u=>show x=y from by simpa using u) ⟨5,CC⟩⟩,s.p.mono (fun x _ u=>by simpa using u),fun _=>bJ.range CC 2 _ rfl⟩) ?_
    rintro _ wz _ h6c;refine(cM) ?_;rintro pS ⟨Rl,eU⟩ ⟨Q1,⟨_,⟨_,⟨_,⟨VY,_⟩⟩⟩⟩⟩;have gY:=eU.BN (PS.pb VY) Xj Rj Rk;have gn:=gY.p1
    have Q:=gn.conv (B:=As.blk y 71 [.bool l1[i].ring,.slice none 0 0,.int .i64 5,.int .i64 z3]) (by
     obtain⟨f,hb⟩:∃f:Int,bJ pS y 71 [.bool l1[i].ring,.slice none 0 0,.int .i64 f,.int .i64 z3]:=gn.ok _ M0;have h1:=(bJ.range hb 2 _ rfl).symm.trans Q1
     have h2:f=5:=by simpa using h1
     subst h2;exact hb) (fun _ h=>h)
    refine WL.s1 Q fun rO _ O=>?_;refine nx ?_;exact nj (5,z5) ⟨O.p1.drop,⟨fun _=>by unfold fH;simp [Ia,h5a,h5b],trivial⟩⟩
   have Ia:l1[i].ring=false:=by simpa using Ia
   refine nx ?_;exact nj (1+z2,z3) ⟨e4,⟨fun _=>by unfold fH;simp [Ia];omega,trivial⟩⟩
  rintro⟨f0,c0⟩ pS fh ⟨Ib,_⟩;simp only [CA,NA] at fh Ib ⊢;refine dp ?_;have eD:=fh.p1;refine(cJ) jh (bu eD.e1 (m:=4) (by omega)) ?_;rintro _ rO ⟨z6,rfl,abt,Jo,Fu⟩;have eU:=St.lr eD Fu;have Jo:=Jo (by omega);obtain⟨z,hz6⟩:∃z:Nat,z6=z:=⟨z6.toNat,by omega⟩;subst hz6;refine cw ?_;have gY:=eU.fV RR.ask 75 4;refine WC.bj (σ:=Nat × (List Ask) × (Option Addr) × Nat × Nat) (db:=fun(k,xs,R,U,Ap)=>[(0,.pointer (some ⟨d,0,none⟩)),(3,.slice C q G),(5,.int .i64 (i:Int)),(7,.int .i64 most),(8,.pointer (some ⟨y,0,none⟩)),(9,.int .i64 (k:Int)),(27,.int .i64 (q:Int)),(28,.int .i64 (i:Int))]) (F:=fun(k,xs,R,U,Ap)=>[As.os RR.ask 75 4 R U Ap (xs),As.blk y 71 [.bool l1[i].ring,.slice R U Ap,.int .i64 f0,.int .i64 c0],As.gv 67 d]) (I:=fun(k,xs,R,U,Ap)=>(∀x∈bA R,w.heap.size≤x)∧(xs.length+k≤3)∧(∀(k:Nat) x,xs[k]?=some x→dL l1 i l1[i].ring k x=true)∧True) (μ:=fun(k,xs,R,U,Ap)=>k) (z,[],none,0,0) (gY.p1.p2.p2) Sub.t (⟨by simp [bA],by simp;omega,by simp,trivial⟩)<|?_;rintro⟨k,xs,R,U,Ap⟩ x2 gn ⟨Xk,hxk,JP,_⟩;simp only [CA,NA] at gn Xk hxk JP ⊢;have hxl:=((As.gs gn.g0)).len;refine(aX) (fun Nz=>?_) fun Nz=>?_
  ·
   simp at Nz
   refine dp ?_;have Q:=gn.p2;refine WC.iU (σ:=Nat × Bool) [_] (fun(H,cell)=>[(0,.pointer (some ⟨d,0,none⟩)),(3,.slice C q G),(5,.int .i64 (i:Int)),(7,.int .i64 most),(8,.pointer (some ⟨y,0,none⟩)),(9,.int .i64 (k:Int)),(10,.pointer (some ⟨H,0,none⟩)),(27,.int .i64 (q:Int)),(28,.int .i64 (i:Int))]) (fun(H,cell)=>[As.blk H 75 [.bool cell,.bool false,.int .i64 0,.int .i64 0],As.gv 67 d]) (fun(H,cell)=>(cell=false→most≠0)∧True) Q ?_ ?_
   ·
    refine bM ?_;have O:=Q;refine(cJ) jh (bu O.e1 (m:=3) (by omega)) ?_;rintro _ x3 ⟨z7,rfl,abu,Jp,Fv⟩;have eb:=St.lr O Fv;have Jp:=Jp (by omega);refine(cO) (fun Ic=>?_) (fun Ic=>?_)
    ·
     refine cv ?_;refine WP .r (PV.br (us:=_) Ex rfl rfl rfl)<|(gx) eb fun H vq H3 H4 e7=>?_;refine(dZ) zP e7 fun Bu Bt wu gS=>?_;refine nx ?_;exact nj (H,true) ⟨gS,⟨(fun h=>by cases h),trivial⟩⟩
    refine cv ?_;refine WP .r (PV.br (us:=_) Ex rfl rfl rfl)<|(gx) eb fun H vq H3 H4 e7=>?_;refine(dZ) zP e7 fun Bu LS BR gS=>?_;refine nx ?_;exact nj (H,decide (most=0)) ⟨gS,⟨fun h=>by simpa using h,trivial⟩⟩
   rintro⟨H,cell⟩ x3 O ⟨Jq,_⟩;simp only [CA,NA] at O Jq ⊢;refine(bp) dd O.b0<|bM ?_;have eb:=O;refine WC.iU (σ:=Int) [] (fun m2=>[(0,.pointer (some ⟨d,0,none⟩)),(3,.slice C q G),(5,.int .i64 (i:Int)),(7,.int .i64 most),(8,.pointer (some ⟨y,0,none⟩)),(9,.int .i64 (k:Int)),(10,.pointer (some ⟨H,0,none⟩)),(11,.int .i64 m2),(27,.int .i64 (q:Int)),(28,.int .i64 (i:Int))]) (fun m2=>[]) (fun m2=>(m2=if cell then 4 else dT l1 i)∧True) eb ?_ ?_
   ·
    refine(aX) (fun Rm=>?_) fun Rm=>?_
    ·
     refine cv ?_;exact nj (4) ⟨eb,⟨by rw [Rm];rfl,trivial⟩⟩
    have Rm:cell=false:=by simpa using Rm
    refine nx ?_;exact nj (most) ⟨eb,⟨by rw [Rm,Jl];rfl,trivial⟩⟩
   rintro m2 vq e7 ⟨Nv,_⟩;simp only [CA,NA] at e7 Nv ⊢
   have CE:1≤m2∧m2≤24:=by
    cases cell
    ·
     simp at Nv;have:=Jq rfl;omega
    simp at Nv;omega
   refine dp ?_;have gS:=e7.p1;refine(cJ) jh (bu gS.e1 (m:=m2) (by omega)) ?_;rintro _ Bu ⟨z8,rfl,abv,Jr,Rn⟩;have j2:=St.lr gS Rn;have Jr:=Jr (by omega);refine nx ?_;refine WL.s1 j2.p1 fun CL _ oE=>?_;refine cw ?_;have oF:=oE.p1;refine WC.iU (σ:=Bool) [_] (fun Ti=>[(0,.pointer (some ⟨d,0,none⟩)),(3,.slice C q G),(5,.int .i64 (i:Int)),(7,.int .i64 most),(8,.pointer (some ⟨y,0,none⟩)),(9,.int .i64 (k:Int)),(10,.pointer (some ⟨H,0,none⟩)),(11,.int .i64 m2),(27,.int .i64 (q:Int)),(28,.int .i64 (i:Int)),(92,.bool Ti)]) (fun Ti=>[As.gv 67 d]) (fun Ti=>True) oF ?_ ?_
   ·
    refine(bp) dd oF.b1<|(cO) (fun QI=>?_) (fun QI=>?_)
    ·
     refine nx ?_;have ta:=oF;refine(cJ) jh (bu ta.e1 (m:=2) (by omega)) ?_;rintro _ Ff ⟨z9,rfl,abw,Js,Fw⟩;have rZ:=St.lr ta Fw;have Js:=Js (by omega);refine cv ?_;exact nj (decide (z9=0)) ⟨rZ,trivial⟩
    refine dp ?_;exact nj (false) ⟨oF,trivial⟩
   rintro Ti Ff ta _;simp only [CA,NA] at ta ⊢;refine nx ?_;have rZ:=ta.p1;refine WC.iU (σ:=Int) [_,_] (fun L=>[(0,.pointer (some ⟨d,0,none⟩)),(3,.slice C q G),(5,.int .i64 (i:Int)),(7,.int .i64 most),(8,.pointer (some ⟨y,0,none⟩)),(9,.int .i64 (k:Int)),(10,.pointer (some ⟨H,0,none⟩)),(11,.int .i64 m2),(27,.int .i64 (q:Int)),(28,.int .i64 (i:Int))]) (fun L=>[As.blk H 75 [.bool cell,.bool false,.int .i64 L,.int .i64 0],As.gv 67 d]) (fun L=>(0≤L)∧(L<m2)∧True) rZ ?_ ?_
   ·
    refine(aX) (fun g92=>?_) fun g92=>?_
    ·
     refine fj ?_;have nQ:=rZ.p1;refine(cJ) jh (bu nQ.e1 (m:=(min m2 3)) (by omega)) ?_;rintro _ HT ⟨z10,rfl,Xl,Fx,rT⟩;have V:=St.lr nQ rT;have Fx:=Fx (by omega);refine bM ?_;refine WL.s1 V.p1 fun Ji _ pU=>?_;refine nx ?_;exact nj (m2 - 1 - z10) ⟨pU,⟨by omega,by omega,trivial⟩⟩
    refine nx ?_;exact nj (z8) ⟨rZ,⟨by omega,by omega,trivial⟩⟩
   rintro L HT nQ ⟨hn0,hn1,_⟩;simp only [CA,NA] at nQ hn0 hn1 ⊢;refine cv ?_;have V:=nQ.p1;refine WC.iU (σ:=Bool) [_] (fun Fy=>[(0,.pointer (some ⟨d,0,none⟩)),(3,.slice C q G),(5,.int .i64 (i:Int)),(7,.int .i64 most),(8,.pointer (some ⟨y,0,none⟩)),(9,.int .i64 (k:Int)),(10,.pointer (some ⟨H,0,none⟩)),(11,.int .i64 m2),(27,.int .i64 (q:Int)),(28,.int .i64 (i:Int)),(114,.bool Fy)]) (fun Fy=>[As.gv 67 d]) (fun Fy=>(Fy=true→l1[i].ring=false∧xs.length≠0)∧True) V ?_ ?_
   ·
    refine(bp) dd V.b3<|(cO) (fun Ro=>?_) (fun Ro=>?_)
    ·
     refine(bp) ja V.b3<|(cO) (fun lO=>?_) (fun lO=>?_)
     ·
      refine nx ?_;have pU:=V;refine(cJ) jh (bu pU.e1 (m:=3) (by omega)) ?_;rintro _ Ji ⟨z11,rfl,Xm,Fz,Rp⟩;have mN:=St.lr pU Rp;have Fz:=Fz (by omega);refine cv ?_;exact nj (decide (z11=1)) ⟨mN,⟨fun _=>⟨by simpa using Ro,by have h0:=lO;simp at h0;omega⟩,trivial⟩⟩
     refine dp ?_;exact nj (false) ⟨V,⟨(fun h=>by cases h),trivial⟩⟩
    refine iM ?_;exact nj (false) ⟨V,⟨(fun h=>by cases h),trivial⟩⟩
   rintro Fy Ji pU ⟨hb,_⟩;simp only [CA,NA] at pU hb ⊢;refine nx ?_;have mN:=pU.p1;refine WC.iU (σ:=Bool × Int) [_,_] (fun(P,N)=>[(0,.pointer (some ⟨d,0,none⟩)),(3,.slice C q G),(5,.int .i64 (i:Int)),(7,.int .i64 most),(8,.pointer (some ⟨y,0,none⟩)),(9,.int .i64 (k:Int)),(10,.pointer (some ⟨H,0,none⟩)),(27,.int .i64 (q:Int)),(28,.int .i64 (i:Int))]) (fun(P,N)=>[As.blk H 75 [.bool cell,.bool P,.int .i64 L,.int .i64 N],As.gv 67 d]) (fun(P,N)=>(P=true→l1[i].ring=false∧xs.length≠0∧0≤N∧N<m2)∧(P=false→N=0)∧True) mN ?_ ?_
   ·
    refine(aX) (fun Aq=>?_) fun Aq=>?_
    ·
     refine cv ?_;have Ar:=mN.p1;refine(cJ) jh (bu Ar.e1 (m:=m2) (by omega)) ?_;rintro _ Nx ⟨z12,rfl,Xn,FB,Rq⟩;have k7:=St.lr Ar Rq;have FB:=FB (by omega);refine nx ?_;refine WL.s1 k7.p1 fun Rg _ Au=>?_;refine nx ?_;refine WL.s1 Au fun Te _ FC=>?_;refine nx ?_;exact nj (true,z12) ⟨FC,⟨fun _=>⟨(hb Aq).1,(hb Aq).2,by omega,by omega⟩,(fun h=>by cases h),trivial⟩⟩
    refine nx ?_;exact nj (false,0) ⟨mN,⟨(fun h=>by cases h),fun _=>rfl,trivial⟩⟩
   rintro⟨P,N⟩ Nx Ar ⟨hpk,Oi,_⟩;simp only [CA,NA] at Ar hpk Oi ⊢;refine(bp) ja Ar.b3<|(bP) l6 Ar.b0<|?_;refine WL.go rfl (OX.aS (us:=(Ask.mk cell P L N).cells) Eu rfl rfl rfl rfl fun CQ Rg Rr Rs=>?_);have k7:=Ar.df Rr Rs;have hzs:=k7.size;refine WL.ap rfl rfl k7.p3 (SR.dr (A:=fun _=>True) (x:=Ask.mk cell P L N) (As.gb k7.g0) trivial rfl (by simp [Ask.cells,Value.oneCell']) rfl) fun a124 Rt Te Ru abA Au=>?_;refine nx ?_;refine WL.s1 Au.p4 fun w25 _ FC=>?_;refine gW ?_;refine fx (k - 1,xs++[⟨cell,P,L,N⟩],a124,(U+1),Rt) ⟨FC.p2.drop.p2.drop.p1,⟨fun x u=>(Ru x u).elim (Xk x) (Nat.le_trans hzs),by simp;omega,B4 JP (J6 (x:=⟨cell,P,L,N⟩) Nv hn0 hn1 hpk Oi),trivial⟩⟩
  simp at Nz
  refine dp ?_;have Ib:=Ib xs;have Q:=gn.eX (by omega);have sw:=hZ.trans (fE.wt (F:=fun x=>x∈bA R) Xk) (Nat.le_refl _);refine(bP) uc Q.b1<|?_;refine WP .r (PV.dR gR yd rfl rfl (by omega))<|?_;refine WL.go rfl (OX.N5 (i:=i) Cv (As.gs Q.g3) yd T rfl rfl rfl (by simp [Value.oneCell']) ⟨l1[i].ring,xs,f0,c0⟩ ⟨R,U,Ap,rfl,(As.gr Q.g0)⟩ fun x3 s8 h8=>?_);have O:=Q.p3.gN s8 h8 (fun x h=>.inl h);refine fb ?_;refine fx (i+1,l1.set i ⟨l1[i].ring,xs,f0,c0⟩,_) ⟨O.p1.drop.p1.drop.p1,⟨by omega,jf.set Th T (bs T).symm ⟨show xs.length≤6 by omega,JP,Ib⟩,sw,trivial⟩⟩
 simp at F5
 have Tg:i=l1.length:=by omega
 subst Tg;have hRk:=Th.ok;refine(bB) ?_;exact⟨_,_,_,l1,_,rfl,hRk,by omega,by omega,hZ,S⟩
set_option maxHeartbeats 400000
theorem r5{p:Key→Bool}(q:CF prog f) (hl:Rd RR.key 2 Z w a n c l) (s:∀w1,aQ [] w w1→∀x∈l,Calls prog f #[x.val,cap] w1 fun e w'=>e=.returned (.bool (p x))∧aQ [] w1 w'):Calls prog 112 #[.slice a n c,.func (.func f) #[] #[cap]] w fun e w'=>∃j:Int,e=.returned (.int .i64 j)∧qO l p j∧aQ [] w w':=by
 have hlen:=hl.len;have hle:=hl.le;refine enter func112 rfl ntmps112 rfl<|?_;have aO:=St.s0 w;refine aT ?_;refine bM ?_;refine WC.bj (σ:=Nat) (db:=fun i=>[(0,.slice a n c),(1,.func (.func f) #[] #[cap]),(7,.int .i64 (n:Int)),(8,.int .i64 (i:Int))]) (F:=fun i=>[]) (I:=fun i=>(i≤n)∧(∀j x,j<i→l[j]?=some x→p x=false)∧True) (μ:=fun i=>n - i) (0) (aO) Sub.t (⟨by omega,fun j x h=>by omega,trivial⟩)<|?_;rintro i w1 st1 ⟨hi,b,_⟩;simp only [CA,NA] at st1 hi b ⊢;refine(aX) (fun g9=>?_) fun g9=>?_
 ·
  simp at g9
  have g:i<l.length:=by omega
  refine iM ?_;obtain⟨C,E,G,u,H,o,v,J⟩:=Rd.at hl g;have o:=RR.bt o;subst o;refine cw ?_;refine WP .r (PV.dR ez u rfl rfl (by omega))<|(bP) ak (aV v (St.cg st1) (by simp))<|?_;refine WL.go rfl (OX.kG q rfl rfl rfl ((Calls.cap (s _ (St.cg st1) l[i] (List.getElem_mem g))).mono ?_));rintro _ w2 ⟨rfl,s2⟩;refine⟨_,rfl,?_⟩;have st2:=st1.step s2;refine(aX) (fun g16=>?_) fun g16=>?_
  ·
   refine(bB) ?_;exact⟨_,rfl,.inl ⟨i,_,ah g,g16,b,rfl⟩,(St.cg st2)⟩
  have g16:p l[i]=false:=by simpa using g16
  refine fb ?_;refine fx (i+1) ⟨st2,⟨by omega,cH g b (by simpa using g16),trivial⟩⟩
 simp at g9
 have y:∀x∈l,p x=false:=fun x z=>by obtain⟨j,B,rfl⟩:=List.getElem_of_mem z;exact b j _ (by omega) (ah B)
 refine(bB) ?_;exact⟨_,rfl,.inr ⟨y,rfl⟩,(St.cg st1)⟩
theorem nR{p:Key→Bool}(b:CF prog f) (hl:Rd RR.key 2 Z w a n c l) (g:∀w1,aQ [] w w1→∀x∈l,Calls prog f #[x.val,cap] w1 fun e w'=>e=.returned (.bool (p x))∧aQ [] w1 w'):CR prog 70 #[.slice a n c,.func (.func f) #[] #[cap]] w (.bool (l.any p)):=by
 refine enter func70 rfl ntmps70 rfl<|?_;have aO:=St.s0 w;refine(cJ) EO (r5 (w:=w) b (hl.ext (St.cg aO)) (fun w1 h1=>g w1 (aQ.trans (St.cg aO) h1))) ?_;rintro _ w1 ⟨j,rfl,h,s1⟩;have st1:=aO.step s1;have i:=h.any;refine(bB) ?_;exact⟨by rw [i],(St.cg st1)⟩
set_option maxHeartbeats 400000
theorem jo(hu:ei A w ar r cr aa) (hi:Rd RR.aD 4 Z w a1 n1 e1 x.ab) (hr:Rd RR.iV 8 Z w a2 n2 e2 x.ai) (g:ao aa) (h:gz x) (hk:fL aa k=true):CR prog 46 #[.slice ar r cr,.agg (x.row a1 n1 e1 a2 n2 e2).toArray,k.val] w (.int .i64 0):=by
 refine enter func46 rfl ntmps46 rfl<|?_;have aO:=St.s0 w;refine(dx) aO fun b4 w1 t v st1=>?_;refine(dx) st1 fun b5 w2 y z st2=>?_;refine(cJ) Pl (pj (hu.ext (St.cg st2))) ?_;rintro _ w3 ⟨bv,rfl,i,j⟩;have b:=st2.step j;obtain rfl:bv=true:=i.2 g;refine(aX) (fun g7=>?_) fun g7=>?_
 ·
  exact cL g7
 ·
  refine(bP) cc b.b1<|(cJ) Po (nI (x:=x) (hi.ext (St.cg b)) (hr.ext (St.cg b))) ?_;rintro _ w4 ⟨o,rfl,p,q⟩;have e:=b.step q;obtain rfl:o=true:=p.2 h;refine(aX) (fun g11=>?_) fun g11=>?_
  ·
   exact cL g11
  refine(bP) ak e.b0<|?_;refine WL.c1 (u:=.bool true) (xU (k:=k) (hu.ext (St.cg e))) (by rw [hk]) e fun w5 B s=>?_;refine cw ?_;refine WC.ef rfl<|(bB) ?_;exact⟨rfl,(St.cg s)⟩
 -- C E F
theorem tb(t:St w M Z w []) (ht:j5 prog Z w) (hu:Rd RR.dM 4 Z w ar r cr aa) (hi:Rd RR.aD 4 Z w a1 n1 e1 x.ab) (hr:Rd RR.iV 8 Z w a2 n2 e2 x.ai) (h:ao aa) (u:gz x) (hk:dU aa k) (v:fL aa k=true):Calls prog 17 #[.slice ar r cr,.agg (x.row a1 n1 e1 a2 n2 e2).toArray,k.val] w fun e w'=>e=.returned (.tuple #[.string (valOf aa x.ab k),.int .i64 0])∧St w M Z w' []:=by
 refine enter func17 rfl ntmps17 rfl<|?_;have aO:=t;have st1:=aO.fr hu;have st2:=st1.fr hi;have y:=st2.fr hr;have z:=y.fact (B:=As.fz (FZ.Iy prog)) ht (fun _ C=>C);refine(dx) z fun b4 w1 I J E=>?_;refine(dx) E fun b5 w2 K L b=>?_;refine(bP) cc b.b1<|(bP) ak b.b0<|(eY) (jo (As.gr b.g5) (As.gr b.g4) (As.gr b.g3) h u v) b fun w3 N F=>?_;refine(aX) (fun g14=>?_) fun g14=>?_
 ·
  exact cL g14
 refine cv ?_;refine WC.cu (m:=5) [] [2,4] [0,1,2,3,4] [] F (av.k4 M0 M1 M2 M3<|av.cons M4<|av.cons M5<|av.nil) mixed (by kernel_rfl) (by kernel_rfl) rfl<|(mQ) cc SV.g1<|(gK) (fun w4 O P i Q=>?_);simp only [CA,NA] at i;have j:=i;refine OX.call Lm rfl rfl ((mI (x:=x) j.e0).mono ?_);rintro _ w5 ⟨d1,d2,d3,rfl,o⟩;have G:=St.lr j o;refine⟨_,rfl,o.cq.size,_,rfl,_,_,_,G,aC.k4<|aC.k4<|aC.cons<|aC.nil,av.k4 M3 M4 M5 M6<|av.cons M7<|av.cons M8<|av.nil,?_⟩;refine(mQ) ak SV.g0<|(gK) (fun w6 R S p T=>?_);simp only [CA,NA] at p;have g:=p.p1.p1;refine OX.call HG rfl rfl ((uo (x:=x) (D:=⟨ar,a1,a2,r,cr,n1,e1,n2,e2,d2,d3,d1⟩) h hk _ _ _ [] g.e2 ⟨(As.gr g.g8),(As.gr g.g7),(As.gr g.g6),(As.gf g.g5)⟩ aJ.nil).mono ?_);rintro _ w7 ⟨dj,rfl,U,V,q⟩;have H:=St.lr g q;refine⟨_,rfl,q.cq.size,_,rfl,_,_,_,H,aC.k4<|aC.k4<|aC.cons<|aC.nil,av.k4 M3 M4 M5 M6<|av.cons M7<|av.cons M8<|av.nil,?_⟩;refine(ly) ?_;intro W X s;simp only [CM,NM,CA,NA,iK.it] at s;refine bM ?_;refine WL.nil (EX.np ?_);refine(wv) ?_;exact⟨rfl,s.k0⟩
set_option maxHeartbeats 400000
set_option maxHeartbeats 400000
set_option maxHeartbeats 400000
set_option maxHeartbeats 400000
theorem kj(hl:Rd RR.key 2 A w a n c l) (u:l.Nodup):CR prog 86 #[.slice a n c] w (.slice a n c):=by
 have hle:=SR.le hl;have hlen:=SR.len hl;refine enter func86 rfl ntmps86 rfl<|?_;have aO:=St.s0 w;refine aT ?_;refine(aX) (fun g8=>?_) fun g8=>?_
 ·
  skip
  refine(bB) ?_;exact⟨rfl,(St.cg aO)⟩
 simp at g8
 refine lW ?_;refine WC.bj (σ:=Nat) (db:=fun i=>[(0,.slice a n c),(3,.int .i64 (i:Int))]) (F:=fun i=>[]) (I:=fun i=>(1≤i)∧(i≤n)∧True) (μ:=fun i=>n - i) (1) (aO) Sub.t (⟨Nat.le_refl _,by omega,trivial⟩)<|?_;rintro i w1 st1 ⟨hi,dw,_⟩;simp only [CA,NA] at st1 hi dw ⊢;refine(aX) (fun g13=>?_) fun g13=>?_
 ·
  simp at g13
  have j:i<l.length:=by omega
  have o:i - 1<l.length:=by omega
  obtain⟨E,G,H,v,_,g,y,_⟩:=Rd.at hl j;have g:=RR.bt g;subst g;obtain⟨J,K,L,z,_,h,B,_⟩:=Rd.at hl o;have h:=RR.bt h;subst h
  have C:l[i]≠l[i - 1]:=fun e=>by
   exact List.pairwise_iff_getElem.1 u (i - 1) i o j (by omega) e.symm
  refine dp ?_;have N:=st1.bL;refine WC.dS (m:=9) st1 mixed<|bM ?_;refine DP .r (fun _ b=>PV.dR ez (i:=i) v rfl rfl (by omega))<|DP .r (fun _ b=>VA ak (aV y (St.cg b.2) (by simp)) .r)<|bM ?_;refine DP .r (fun _ b=>(PV.sub rfl rfl (by omega) (by omega)).cast (v':=.int .i64 ((i - 1:Nat):Int)) (congrArg (Value.int .i64) (by omega)))<|DP .r (fun _ b=>PV.dR ez (i:=i - 1) z rfl rfl (by omega))<|DP .r (fun _ b=>VA ak (aV B (St.cg b.2) (by simp)) .r)<|(cM)<|?_;rintro w2 ⟨O,st2⟩ _;refine WP .r (PV.Dh fP (p:=l[i]) (q:=l[i - 1]) rfl rfl)<|(aX) (fun s=>?_) fun s=>?_
  ·
   exact absurd s (by simpa using C)
  skip
  refine gW ?_;refine fx (i+1) ⟨st2,⟨by omega,by omega,trivial⟩⟩
 simp at g13
 refine(bB) ?_;exact⟨rfl,(St.cg st1)⟩
theorem r6(s:St w M Z w []) (hl:Rd RR.key 2 Z w a n c l) (h0:l≠[]) (h:l.Nodup) (hn:l.length≤1000000):Calls prog 45 #[.slice a n c] w fun e w'=>∃i j o,∃l':List Key,e=.returned (.slice i j o)∧sD l'∧l'.Perm l∧St w M Z w' [As.os RR.key 43 2 i j o l']:=by
 refine enter func45 rfl ntmps45 rfl<|?_;have aO:=s;have st1:=aO.fr hl;refine gW ?_;have st2:=st1;refine(cJ) EM (gL st2.e0 (As.gr st2.g0) hn) ?_;rintro _ w1 ⟨b1,b2,c1,rfl,t⟩;have u:=St.lr st2 t;refine fj ?_;have p:=u;refine(cJ) Pw (py p.e1 h0 hn) ?_;rintro _ w2 ⟨rfl,g,b,v,y⟩;have q:=St.lr p y;have E:g.length=l.length:=b.length_eq;have z:g.Nodup:=b.nodup_iff.2 h;have B:=uQ b h v;refine(eY) (kj (Ow.rd (As.gs q.g0) (by omega)) z) q fun w3 F C=>?_;refine(bB) ?_;exact⟨b1,_,c1,g,rfl,B,b,C.p1.drop⟩
theorem td{aa:List aG}(gu:n≤99):CR prog 72 #[.slice a r c,(bO (n:Int)).val] w (.bool true):=by
 have b:bO (n:Int)=⟨30,itoa n⟩:=by unfold bO;rw [if_neg (by omega)]
 have e:(bO (n:Int)).kind=30:=by rw [b]
 have g:(bO (n:Int)).text=itoa n:=by rw [b]
 refine enter func72 rfl ntmps72 rfl<|?_;have aO:=St.s0 w;refine(dx) aO fun b3 w1 p q st1=>?_;refine cw ?_;have s:=st1.bL;refine WC.dh (m:=12) (E:=cA [(1,fun v _=>v=.bool true),(4,fun v _=>v=.bool false)]) st1 (bz (⟨fun _ _ _ _ _ _ _ h=>h,⟨fun _ _ _ _ _ _ _ h=>h,trivial⟩⟩)) mixed (by kernel_rfl)<|(gy) ak St.g0<|?_;refine DW.c0 (fun i j o=>fJ (k:=bO (n:Int)) (by omega) g gu)<|(gy) ak St.g0<|?_;refine DW.c1 (u:=.bool false) (fun i j o=>kY (k:=bO (n:Int))) (by rw [show(decide ((bO (n:Int)).kind=31) || decide ((bO (n:Int)).kind=32))=false by(rw [e];simp)])<|(cM) ?_;rintro w2 ⟨t,st2⟩ ⟨_,⟨_,_⟩⟩;refine(bB) ?_;exact⟨by simp,(St.cg st2)⟩
theorem te{B:Nat→Prop}(hk:dU aa k) (hr:ei B w a r c aa):CR prog 72 #[.slice a r c,k.val] w (.bool true):=by
 cases hk with
 | cell h=>exact td (aa:=aa) h
 | dM hi h=>exact sT hi h hr
set_option maxHeartbeats 400000
theorem r7(o:St w M Z w [As.blk D.s 139 (D.cells x),As.map Key.val D.m ml,As.map Key.val D.q ql]) (y:(D.F prog aa x).p Z w) (hm:aJ aa x.ab ml) (hk:aw k=true) (h:bq ql k=none):Calls prog 48 #[.pointer (some ⟨D.s,0,none⟩),k.val] w fun e w'=>∃(a:Option Addr) (n c:Nat) (i:List (Key × Value)),e=.returned (.slice a n c)∧aJ aa x.ab i∧St w M Z w' [As.blk D.s 139 (D.cells x),As.map Key.val D.m i,As.map Key.val D.q ql,As.os RR.key 43 2 a n c (cy aa x.ab k)]:=by
 refine enter func48 rfl ntmps48 rfl<|?_;have aO:=o;have st1:=aO.fact (B:=As.fz (D.F prog aa x)) y (fun _ z=>z);have st2:=st1.fV RR.key 43 2;refine(dx) st2 fun b3 w1 E G j=>?_;refine dp ?_;have H:=j.bL;refine WC.dS (m:=10) j mixed<|(gX) zN St.g3<|(gy) ak St.g0<|?_;refine DP .r (fun _ C=>PV.kF cE rl Bq (As.gm C.2.g5) rfl rfl)<|(cM) ?_;rintro w2 ⟨I,b⟩ _;refine cw ?_;refine WC.eF (t:=23) (v:=.bool true) b ?_<|?_
 ·
  refine(cO) (fun g20=>?_) (fun g20=>?_)
  ·
   exact absurd g20 (by rw [h];simp)
  skip
  refine(bP) ak b.b0<|?_;refine WL.c1 (u:=.bool true) (dP (k:=k)) (by rw [hk]) b fun w3 J g=>?_;exact(cp) (tG g20) (g)
 intro w3 g;refine(aX) (fun g23=>?_) fun g23=>?_
 ·
  refine(bB) ?_;exact⟨none,0,0,ml,by rw [h];rfl,hm,by rw [show cy aa x.ab k=[] from if_pos hk];exact g.drop.p1.drop.p3.p3.p3⟩
 exact cL g23
set_option maxHeartbeats 1600000 in
theorem r8{i:Nat}(gJ:St w M Z w [As.blk D.s 139 (D.cells x),As.map Key.val D.m ml,As.map Key.val D.q ql]) (hf:(D.F prog aa x).p Z w) (hm:aJ aa x.ab ml) (o:ao aa) (hi:i<aa.length) (hq:bq ql (aN aa (i:Int))=none):Calls prog 48 #[.pointer (some ⟨D.s,0,none⟩),(aN aa (i:Int)).val] w fun e w'=>∃v:Value,∃(a:Option Addr) (n c:Nat) (jP:List (Key × Value)),e=.returned (.slice a n c)∧aJ aa x.ab jP∧St w M Z w' [As.blk D.s 139 (D.cells x),As.map Key.val D.m jP,As.map Key.val D.q (cF ql (aN aa (i:Int)) v),As.os RR.key 43 2 a n c (ca aa x.ab i)]:=by
 have CT:=o.len
 have gu:i≤99:=by omega
 obtain⟨k,hk⟩:∃k,aN aa (i:Int)=k:=⟨_,rfl⟩;have dw:=cG hi gu;have ha6:=iw o hi;rw [hk] at dw hq ⊢;refine enter func48 rfl ntmps48 rfl<|?_;have aO:=gJ;have st1:=aO.fact (B:=As.fz (D.F prog aa x)) hf (fun _ hx=>hx);refine(dx) st1 fun b3 w1 Nu CY st2=>?_;refine dp ?_;have QM:=st2.bL;refine WC.dS (m:=10) st2 mixed<|(gX) zN St.g2<|(gy) ak St.g0<|?_;refine DP .r (fun _ j=>PV.kF cE rl Bq (As.gm j.2.g4) rfl rfl)<|(cM) ?_;rintro w2 ⟨xX,U⟩ _;refine cw ?_;refine WC.eF (t:=23) (v:=.bool false) U ?_<|?_
 ·
  refine(cO) (fun g20=>?_) (fun g20=>?_)
  ·
   exact absurd g20 (by rw [hq];simp)
  skip
  refine(bP) ak U.b0<|?_;refine WL.c1 (u:=.bool false) (dP (k:=k)) (by rw [dw]) U fun w3 s3 V=>?_;exact(cp) (tG g20) (V)
 intro w3 V;refine(aX) (fun g23=>?_) fun g23=>?_
 ·
  exact cL g23
 refine iM ?_;have ki:=V.fV RR.str 9 1;have jr:=ki.fV RR.key 43 2;refine bM ?_;refine WC.bj (σ:=Nat × (List (Key × Value)) × (List ByteArray) × (List Key) × (Option Addr) × Nat × Nat × (Option Addr) × Nat × Nat) (db:=fun(n,y,acc,out,J,z,K,L,C,N)=>[(0,.pointer (some ⟨D.s,0,none⟩)),(3,.pointer (some ⟨b3,0,none⟩)),(7,.slice J z K),(8,.slice L C N)]) (F:=fun(n,y,acc,out,J,z,K,L,C,N)=>[As.os RR.str 9 1 J z K (acc),As.os RR.key 43 2 L C N (out),As.map Key.val D.m y]) (I:=fun(n,y,acc,out,J,z,K,L,C,N)=>(n≤bQ aa i)∧(aJ aa x.ab y)∧(acc=(dc (bN aa k) (valOf aa x.ab) n).2)∧(out=(dc (bN aa k) (valOf aa x.ab) n).1)∧True) (μ:=fun(n,y,acc,out,J,z,K,L,C,N)=>bQ aa i - n) (0,ml,[],[],none,0,0,none,0,0) (jr.p5.p1.p2) Sub.t (⟨by omega,hm,rfl,rfl,trivial⟩)<|?_;rintro⟨n,y,acc,out,J,z,K,L,C,N⟩ w4 G ⟨hn,W,Q,R,_⟩;simp only [CA,NA] at G hn W Q R ⊢;have vl:=((As.gs G.g0)).len;have hol:=((As.gs G.g1)).len
 have wE:acc.length=n:=by rw [Q];exact(ep _ _ n).2
 have ae3:out.length=n:=by rw [R];exact(ep _ _ n).1
 obtain⟨t,I9⟩:∃t,aM aa k acc=t:=⟨_,rfl⟩
 have O:bN aa k acc=t:=by rw [← I9,← hk,cY hi gu]
 refine bM ?_;have QZ:=G.bL;have Xo:=G.jC;have Xp:=G.size;refine WC.dh (m:=8) (E:=cA [(6,fun v _=>v=t.val),(7,PB w4.heap.size 142 [.bool false,.string ⟨#[]⟩,.int .i64 0,.string ⟨#[]⟩])]) G (bz (⟨fun _ _ _ _ _ _ _ h=>h,⟨fun _ _ _ _ _ _ c h=>PB.st QZ c h,trivial⟩⟩)) mixed (by kernel_rfl)<|(gX) kf St.g5<|(gy) ak St.g3<|nx ?_;refine DW.c1 (fun X j hF=>eP (k:=k) (SD.ht (As.gf j.2.g4)) (SD.hu (As.gf j.2.g4)) (Ow.rd (As.gs j.2.g0) (by omega)) o.hb (hk ▸ dN hi gu)) (by rw [I9])<|?_;refine DW.e rfl rfl rfl rfl rfl (fun X j hF=>OX.alloc nH rfl fun b wy g hb=>⟨⟨Nat.le_trans j.1 g.ext.size,j.2.step g.ext⟩,g.ext.p0,_,rfl,_,rfl,Nat.le_trans j.1 g.ge,hb⟩)<|?_;rintro _ wz _ ⟨b9,rfl,_,_⟩;refine(cM) ?_;rintro w5 ⟨vt,im⟩ ⟨HM,⟨_,_⟩⟩;have jZ:=im.BN HM QZ Xo Xp;refine(dZ) fc jZ fun w6 nT rH S=>?_;refine(bp) dd S.b0<|(aX) (fun P=>?_) fun P=>?_
 ·
  have Dr:n=bQ aa i:=by
   rcases Nat.lt_or_ge n (bQ aa i) with h | h
   ·
    obtain⟨a,h1,_⟩:=cR o hi (ae:=acc) (by omega);rw [hk,O] at h1;rw [h1] at P;cases P
   omega
  refine nx ?_;have QK:=S.bL;refine WC.dS (m:=6) S mixed<|(gX) zN St.g6<|(gy) ak St.g4<|(cM) ?_;rintro w7 ⟨Ae,H⟩ _;refine WL.go rfl (OX.put cE rl (As.gm H.g7) rfl rfl rfl fun w8 vm rK=>?_);have Y:=H.p7.iu vm rK;refine aT ?_;refine(bB) ?_;exact⟨_,_,_,_,y,rfl,W,by have h:out=ca aa x.ab i:=(by rw [R,Dr];unfold ca;rw [hk]);rw [← h];exact Y.p3.p1.p4.p7.k4⟩
 have Dr:n<bQ aa i:=by
  rcases Nat.lt_or_ge n (bQ aa i) with h | h
  ·
   exact h
  have h1:=et o hi (ae:=acc) (by omega);rw [hk,O] at h1;rw [h1] at P;cases P
 obtain⟨a,wD,yP,_⟩:=cR o hi (ae:=acc) (by omega);rw [hk,O] at wD
 have C2:t.ask=a:=by rw [wD]
 have Xq:dU aa t.ask:=by
  rw [C2]
  rcases yP with⟨n,h1,rfl⟩ | ⟨m,h1,rfl,_⟩
  ·
   exact .cell (by omega)
  exact .dM h1 (by omega)
 refine bM ?_;refine WC.cu (m:=12) [] [4,9,11] [0,1,2,3,4,6,7,8,9,5,10,11] [(3,.sl 43 1 t.ask.cells),(10,.sl 9 1 [.string (valOf aa x.ab t.ask)])] S (av.k4 M0 M4 M5 M7<|av.nil) mixed (by kernel_rfl) (by kernel_rfl) rfl<|?_
 iterate 2 refine DG.a ?_
 refine(AR) ak SV.g0<|?_;refine DG.side (s:=.sl 43 1 t.ask.cells) rfl rfl rfl rfl rfl rfl (fun X Zx Rx su mM=>OX.aS (us:=t.ask.cells) du rfl rfl rfl rfl fun b wy g hb=>⟨g.ext.size,_,rfl,⟨b,rfl⟩,mM.df g hb⟩)<|?_;rintro _ ⟨b44,rfl⟩;refine(gK) (fun w7 Je yg H kZ=>?_);simp only [CA,NA] at H;refine OX.mX nG rfl rfl rfl (As.gs H.g2) (SR.dr (A:=fun _=>True) (x:=t.ask) (show bJ _ b44 _ _ from H.ok _ (.tail _ (.tail _ (.tail _ (.tail _ (.tail _ (.tail _ (.tail _ (.tail _ (kZ _ (.head _))))))))))) trivial rfl (by simp [Key.cells,Value.oneCell']) rfl) (by omega) (by omega) (Nat.zero_le _) fun a45 Xr w8 Xs s45 Xt ae5=>?_;have Y:=H.p2.gN s45 Xs Xt;refine⟨s45.size,_,rfl,_,_,_,Y,aC.k4<|aC.k4<|aC.nil,av.k4 M1 M4 M5 M7<|av.nil,?_⟩
 iterate 2 refine DG.a ?_
 refine(AR) ak SV.g0<|(gK) (fun w9 Nw CO dG pw=>?_);simp only [CA,NA] at dG;have dX:=dG.p3.p6;refine OX.call HG rfl rfl ((uo o Xq _ _ _ _ dX.e2 (As.gf dX.g6) W).mono ?_);rintro _ lI ⟨dj,rfl,ss,pP,ur⟩;have dQ:=St.lr dX ur;refine⟨_,rfl,ur.cq.size,_,rfl,_,_,_,dQ,aC.k4<|aC.k4<|aC.nil,av.k4 M3 M5 M6 M7<|av.nil,?_⟩;refine DG.a<|?_;refine DG.side (s:=.sl 9 1 [.string (valOf aa x.ab t.ask)]) rfl rfl rfl rfl rfl rfl (fun X Zx Rx su mM=>OX.aS (us:=[.string (valOf aa x.ab t.ask)]) hY rfl rfl rfl rfl fun b wy g hb=>⟨g.ext.size,_,rfl,⟨b,rfl⟩,mM.df g hb⟩)<|?_;rintro _ ⟨b51,rfl⟩;refine(gK) (fun mH ae7 abC T Mx=>?_);simp only [CA,NA] at T;refine OX.mX Er rfl rfl rfl (As.gs T.g4) (SR.dr (A:=fun _=>True) (x:=valOf aa x.ab t.ask) (show bJ _ b51 _ _ from T.ok _ (.tail _ (.tail _ (.tail _ (.tail _ (.tail _ (.tail _ (.tail _ (.tail _ (Mx _ (.head _))))))))))) trivial rfl (by simp [Value.oneCell']) rfl) (by omega) (by omega) (Nat.zero_le _) fun a52 Xu pS Xv s52 Xw ae9=>?_;have e4:=T.p4.gN s52 Xv Xw;refine⟨s52.size,_,rfl,_,_,_,e4,aC.k4<|aC.k4<|aC.nil,av.k4 M4 M5 M6 M7<|av.nil,?_⟩;refine(ly) ?_;intro rO E7 fh;simp only [CM,NM,CA,NA,iK.it] at fh;refine bM ?_;refine WL.nil (EX.np ?_);refine nx ?_;refine fx (n+1,dj,acc++[valOf aa x.ab t.ask],out++[t.ask],a52,(z+1),Xu,a45,(C+1),Xr) ⟨fh.drop.drop.p4.drop.p5.p5.p4.p5.p4,⟨by omega,ss,by simp only [dc];rw [← Q,O],by simp only [dc];rw [← Q,← R,O],trivial⟩⟩
theorem mf(j:St w M Z w [As.blk D.s 139 (D.cells x),As.map Key.val D.m ml,As.map Key.val D.q ql]) (o:(D.F prog aa x).p Z w) (hm:aJ aa x.ab ml) (t:ao aa) (hk:dU aa k) (u:bq ql k=none):Calls prog 48 #[.pointer (some ⟨D.s,0,none⟩),k.val] w fun e w'=>∃(a:Option Addr) (n c:Nat) (b z:List (Key × Value)),e=.returned (.slice a n c)∧aJ aa x.ab b∧(∀y,bq z y≠none→y=k∨bq ql y≠none)∧St w M Z w' [As.blk D.s 139 (D.cells x),As.map Key.val D.m b,As.map Key.val D.q z,As.os RR.key 43 2 a n c (cy aa x.ab k)]:=by
 cases hk with
 | cell h=>exact(r7 j o hm (aR h) u).mono fun e w' ⟨a,n,c,b,h1,g,i⟩=>⟨a,n,c,b,ql,h1,g,fun y hy=>.inr hy,i⟩
 | dM h gu=>exact(r8 j o hm t h u).mono fun e w' ⟨v,a,n,c,b,h1,g,i⟩=>⟨a,n,c,b,_,h1,g,fun y hy=>by
   rw [dz] at hy
   split at hy
   ·
    rename_i e;exact .inl e.symm
   exact .inr hy,by rw [di t h];exact i⟩
end Go.Rc

