/- Walks over the program, part WZl. Conditions: as each theorem says. -/
import Derived.Test.YtcongbofepbmeaaGreatDoorFFacts
import Derived.Test.YtcongbofepbmeaaGreatDoorFWB
import Derived.Test.YtcongbofepbmeaaGreatDoorFWD
import Derived.Test.YtcongbofepbmeaaGreatDoorFBf
import Derived.Test.YtcongbofepbmeaaGreatDoorFBd
import Derived.Test.YtcongbofepbmeaaGreatDoorFWUa
import Derived.Test.YtcongbofepbmeaaGreatDoorFWP
import Derived.Test.YtcongbofepbmeaaGreatDoorFBh
import Derived.Test.YtcongbofepbmeaaGreatDoorFBg
set_option linter.all false
namespace Go.Rc
open Go Go.Proofs Go.Proofs.Tryz
variable {a ar a1 a2:Option Addr}{n c d r cr n1 e1 n2 e2:Nat}{w:World}{M Z A:Nat→Prop}{m:Int}{l:List Key}{aa:List aA}{x:cA}{k:Key}{S:SD}{ml:List (Key × Value)}
set_option maxHeartbeats 400000
theorem BM{l:List Int}(f:St w M Z w []) (hl:Rd RR.int 1 Z w a n c l) (g:n≤400):Calls prog 6 #[.slice a n c] w fun e w'=>∃d,e=.returned (.pointer (some ⟨d,0,none⟩))∧St w M Z w' [As.gk 60 d]:=
 (Dv (A:=Z) (l:=l) hl g).mono fun e w' ⟨d,h1,h,i,hc⟩=>⟨d,h1,f.new hc i fun x b=>by have b:x=d:=b;subst b;exact h⟩
theorem aZ(b:St w M Z w [As.gk 60 d]) (hm:m≤4611686018427387904):Calls prog 52 #[.pointer (some ⟨d,0,none⟩),.int .i64 m] w fun e w'=>∃z:Int,e=.returned (.int .i64 z)∧0≤z∧(1≤m→z<m)∧St w M Z w' [As.gk 60 d]:=
 (Dw (A:=Z) (As.gd b.g0) (b.oX (As.gk 60 d) (by simp) d rfl) hm).mono fun e w' ⟨z,h1,g,h,hc,i⟩=>⟨z,h1,g,h,b.kR (hc.p.mono fun x _ f=>show x=d from by simpa using f) i fun x f=>.inl f⟩
theorem B3{l:List ByteArray}(b:St w M Z w [As.gk 60 d,As.os RR.str 9 1 a r c l]) (h0:0<r) (h1:r≤1000):Calls prog 98 #[.pointer (some ⟨d,0,none⟩),.slice a r c] w fun e w'=>∃s:ByteArray,e=.returned (.string s)∧s∈l∧St w M Z w' [As.gk 60 d,As.os RR.str 9 1 a r c l]:=by
 have hlen:=(As.gs b.g1).len;refine enter func98 rfl ntmps98 rfl<|?_;have aR:=b;refine o5 ?_;have st1:=aR;refine(bL) iU (aZ st1.e1 (m:=(r:Int)) (by omega)) ?_;rintro _ w1 ⟨z,rfl,j,f,h⟩;have st2:=St.lr st1 h;have f:=f (by omega);obtain⟨i,rfl⟩:∃i:Nat,z=i:=⟨z.toNat,by omega⟩
 have hi:i<l.length:=by omega
 obtain⟨o,g⟩:=Ow.addr (As.gs st2.g1) (ai hi);refine WP .r (PV.ei vL g rfl rfl (by omega))<|WP .r (PV.nI eY (Ow.mb (As.gs st2.g1) (by omega) g (ai hi)) rfl rfl)<|(bm) ?_;exact⟨_,rfl,List.getElem_mem hi,st2⟩
theorem wu(o:St w M Z w [As.gk 60 d]):Calls prog 59 #[.pointer (some ⟨d,0,none⟩)] w fun e w'=>∃x:Change,e=.returned (.agg x.cells.toArray)∧(x.small∧x.value.size≤50)∧St w M Z w' [As.gk 60 d]:=by
 refine enter func59 rfl ntmps59 rfl<|?_;have aR:=o;refine(ff) aR fun b2 w1 D F st1=>?_;refine cS ?_;have st2:=st1.p1;refine(bL) iU (aZ st2.e1 (m:=4) (by omega)) ?_;rintro _ w2 ⟨z4,rfl,p,b,q⟩;have t:=St.lr st2 q;have b:=b (by omega);refine(dH) (jV (n:=z4)) t fun w3 s3 u=>?_;refine nx ?_;refine WL.go rfl (OX.aP (us:=words.map Value.string) Ky rfl rfl rfl rfl fun v w4 f y=>?_);have z:=St.vB (R:=RR.str) (E:=9) (k:=1) (a:=some ⟨v,0,none⟩) (n:=10) (c:=10) (xs:=words) u f.ext (Ow.flat y rfl (by simp) (by simp [words,Value.oneCell']) rfl (by decide)) (fun x g=>by simp [aG] at g;subst g;exact f.ge);have h:=z.p1;refine(bL) Zt (B3 h.e2 (by decide) (by decide)) ?_;rintro _ w5 ⟨s,rfl,i,B⟩;have C:=St.lr h B;refine WP .r (PV.bs (us:=(Change.mk (bH z4) s).cells) YA rfl rfl rfl)<|(cD) H8 C.p2 fun w6 G H j=>?_;refine(ky) AJ j.b0<|?_;exact⟨⟨bH z4,s⟩,rfl,⟨⟨⟨z4,p,by omega,rfl⟩,Ir s i⟩,(show ∀s∈words,s.size≤50 by decide) s i⟩,j.drop.p1.drop⟩
theorem mW(B:St w M Z w [As.gk 60 d]) (hm:0≤m) (P:m≤1000):Calls prog 27 #[.pointer (some ⟨d,0,none⟩),.int .i64 m] w fun e w'=>∃a n c,∃l:List Change,e=.returned (.slice a n c)∧((l.length:Int)≤m∧∀x∈l,x.value.size≤50)∧(∀x∈l,x.small)∧St w M Z w' [As.gk 60 d,As.os RR.bT 87 3 a n c l]:=by
 refine enter func27 rfl ntmps27 rfl<|?_;have aR:=B;have st1:=aR.df RR.bT 87 3;refine aO ?_;refine cX ?_;have st2:=st1.p1;refine(bL) iU (aZ st2.e1 (m:=m+1) (by omega)) ?_;rintro _ w1 ⟨z0,rfl,Q,q,C⟩;have D:=St.lr st2 C;have q:=q (by omega);obtain⟨z,rfl⟩:∃z:Nat,z0=z:=⟨z0.toNat,by omega⟩;refine cX ?_;refine WC.bd (σ:=Nat × (List Change) × (Option Addr) × Nat × Nat) (dm:=fun(i,l,f,b,g)=>[(0,.pointer (some ⟨d,0,none⟩)),(5,.slice f b g),(6,.int .i64 (i:Int))]) (F:=fun(i,l,f,b,g)=>[As.os RR.bT 87 3 f b g (l),As.gk 60 d]) (I:=fun(i,l,f,b,g)=>(l.length+i≤z)∧(∀x∈l,x.small)∧(∀x∈l,x.value.size≤50)∧True) (μ:=fun(i,l,f,b,g)=>i) (z,[],none,0,0) (D.p1) Sub.t (⟨by simp,by simp,by simp,trivial⟩)<|?_;rintro⟨i,l,f,b,g⟩ w2 j ⟨E,o,p,_⟩;simp only [CA,NA] at j E o p ⊢;have R:=((As.gs j.g0)).len;refine(aN) (fun g12=>?_) fun g12=>?_
 ·
  simp at g12
  refine eP ?_;have s:=j.p1;refine(bL) Y4 (wu s.e1) ?_;rintro _ w3 ⟨x,rfl,u,G⟩;have H:=St.lr s G;refine WL.go rfl (OX.aP (us:=x.cells) OJ rfl rfl rfl rfl fun T w4 J K=>?_);have v:=H.dy J K;refine WL.ap rfl rfl v.p2 (SR.dn (A:=fun _=>True) (x:=x) (As.gb v.g0) trivial rfl (by simp [Change.cells,Value.oneCell']) rfl) fun L N w5 U V O=>?_;refine kQ ?_;refine dY (i - 1,l++[x],L,(b+1),N) ⟨O.p1.drop,⟨by simp;omega,fun y hy=>by rcases List.mem_append.1 hy with h | h;exact o y h;simp at h;subst h;exact u.1,fun y hy=>by rcases List.mem_append.1 hy with h | h;exact p y h;simp at h;subst h;exact u.2,trivial⟩⟩
 simp at g12
 refine(bm) ?_;exact⟨_,_,_,l,rfl,⟨by omega,p⟩,o,j.p1⟩
set_option maxHeartbeats 4000000 in
theorem yV(gg:St w M Z w [As.gk 60 d]):Calls prog 25 #[.pointer (some ⟨d,0,none⟩)] w fun e w'=>∃a n c,∃l:List aA,∃Z',e=.returned (.slice a n c)∧aq l∧2≤l.length∧l.length≤8∧bA w.heap.size Z Z'∧St w M Z' w' [As.gk 60 d,As.os RR.dp 37 4 a n c l]:=by
 refine enter func25 rfl ntmps25 rfl<|?_;have aR:=gg;have st1:=aR.df RR.dp 37 4;refine aO ?_;refine bz ?_;have st2:=st1.p1;refine(bL) iU (aZ st2.e1 (m:=7) (by omega)) ?_;rintro _ w1 ⟨z0,rfl,Vy,BR,adG⟩;have j5:=St.lr st2 adG;have BR:=BR (by omega);obtain⟨z,rfl⟩:∃z:Nat,z0=z:=⟨z0.toNat,by omega⟩;refine cS ?_;refine WC.bd (σ:=Nat × (List aA) × (Option Addr) × Nat × Nat) (dm:=fun(i,l,C,q,D)=>[(0,.pointer (some ⟨d,0,none⟩)),(3,.slice C q D),(4,.int .i64 (i:Int))]) (F:=fun(i,l,C,q,D)=>[As.os RR.dp 37 4 C q D (l),As.gk 60 d]) (I:=fun(i,l,C,q,D)=>(l.length+i=z+2)∧True) (μ:=fun(i,l,C,q,D)=>i) (z+2,[],none,0,0) (j5.p1) Sub.t (⟨by simp,trivial⟩)<|?_;rintro⟨i,l,C,q,D⟩ w2 i6 ⟨hlz,_⟩;simp only [CA,NA] at i6 hlz ⊢;have W9:=((As.gs i6.g0)).len;refine(aN) (fun g16=>?_) fun g16=>?_
 ·
  simp at g16
  refine eP ?_;have R:=i6.p1;refine(bL) iU (aZ R.e1 (m:=3) (by omega)) ?_;rintro _ w3 ⟨z1,rfl,agc,Nh,lQ⟩;have jC:=St.lr R lQ;have Nh:=Nh (by omega);obtain⟨g,hg⟩:∃g:Bool,g=decide (z1=1):=⟨_,rfl⟩;refine nx ?_;refine WP .r (PV.bs (us:=[.bool (decide (z1=1)),.slice none 0 0,.int .i64 0,.int .i64 0]) KA rfl rfl rfl)<|?_;refine WL.go rfl (OX.aP (us:=[.bool (decide (z1=1)),.slice none 0 0,.int .i64 0,.int .i64 0]) H3 rfl rfl rfl rfl fun b24 w4 adH adI=>?_);have ij:=jC.dy adH adI;refine WL.ap rfl rfl ij.p2 (SR.dn (A:=fun _=>True) (x:=begun g) (As.gb ij.g0) trivial rfl (by simp [Value.oneCell']) ⟨none,0,0,by rw [hg];rfl,SR.nil _ _ _ _⟩) fun a25 adJ w5 akJ akK ju=>?_;refine kQ ?_;refine dY (i - 1,l++[begun g],a25,(q+1),adJ) ⟨ju.p1.drop,⟨by simp;omega,trivial⟩⟩
 simp at g16
 refine aO ?_;refine bz ?_;refine WC.ie (σ:=Nat × (List aA) × (Nat→Prop)) (dm:=fun(i,l1,W)=>[(0,.pointer (some ⟨d,0,none⟩)),(3,.slice C q D),(27,.int .i64 (q:Int)),(28,.int .i64 (i:Int))]) (F:=fun(i,l1,W)=>[As.gk 60 d,As.os RR.dp 37 4 C q D l1]) (I:=fun(i,l1,W)=>(i≤q)∧(kF l1 i)∧(bA w.heap.size Z W)∧True) (μ:=fun(i,l1,W)=>q - i) (Zf:=fun(i,l1,W)=>W) (0,l,Z) (i6.p1) Sub.t (⟨Nat.zero_le _,kF.start (by omega),bA.refl _ _,trivial⟩)<|?_;rintro⟨i,l1,W⟩ w3 R ⟨hi,XC,hZ,_⟩;simp only [CA,NA] at R hi XC hZ ⊢;have HQ:=((As.gs R.g1)).len;have hP8:=XC.1;refine(aN) (fun RA=>?_) fun RA=>?_
 ·
  simp at RA
  have T:i<l1.length:=by omega
  have Xp:=bD T;have hmt:=vG T;refine aO ?_;refine(dH) (rB (n:=(i:Int)) (Ow.rd (As.gs R.g1) (by omega))) R fun w4 s4 jC=>?_;refine kQ ?_;obtain⟨bx,vX⟩:=Ow.addr (As.gs jC.g1) (ai T);refine cL ?_;refine WP .r (PV.ei gZ vX rfl rfl (by omega))<|nx ?_;refine WP .r (PV.nI dM (Ow.ring (As.gs jC.g1) vX (by omega) T) rfl rfl)<|cL ?_;have ij:=jC;refine WC.iM (σ:=Int) [] (fun most=>[(0,.pointer (some ⟨d,0,none⟩)),(3,.slice C q D),(5,.int .i64 (i:Int)),(7,.int .i64 most),(27,.int .i64 (q:Int)),(28,.int .i64 (i:Int))]) (fun most=>[]) (fun most=>(most=e8 l1 i)∧True) ij ?_ ?_
  ·
   refine(aN) (fun X=>?_) fun X=>?_
   ·
    have X:l1[i].ring=false:=by simpa using X
    refine cX ?_;exact lY ((block l1 (i:Int)).1) ⟨ij,⟨by unfold e8;rw [Xp,X];rfl,trivial⟩⟩
   have X:l1[i].ring=true:=by simpa using X
   refine nx ?_;exact lY ((block l1 (i:Int)).2) ⟨ij,⟨by unfold e8;rw [Xp,X];rfl,trivial⟩⟩
  rintro most w5 ju ⟨Ni,_⟩;simp only [CA,NA] at ju Ni ⊢;refine bz ?_;refine WC.bY (m:=12) [] [6,9] [5,6,8,9,0,1,2,3,4,7,10,11] [(11,.blk 37 [.bool false,.slice none 0 0,.int .i64 0,.int .i64 0])] ju (ao.cons M1<|ao.nil) mixed (by kernel_rfl) (by kernel_rfl) rfl<|(gi) (fun w6 Rw GD jc pF=>?_);simp only [CA,NA] at jc;have ef:=jc;refine OX.call iU rfl rfl ((aZ ef.e1 (m:=4) (by omega)).mono ?_);rintro _ w7 ⟨z2,rfl,agd,Nj,jb⟩;have dw:=St.lr ef jb;have Nj:=Nj (by omega);refine⟨_,rfl,jb.bT.size,_,rfl,_,_,_,dw,aw.k2<|aw.nil,ao.cons M1<|ao.nil,?_⟩;refine(gi) (fun w8 Ru GC dz uT=>?_);simp only [CA,NA] at dz;have db:=dz;refine OX.call iU rfl rfl ((aZ db.e1 (m:=6) (by omega)).mono ?_);rintro _ w9 ⟨z3,rfl,VD,BV,si⟩;have cF:=St.lr db si;have BV:=BV (by omega);refine⟨_,rfl,si.bT.size,_,rfl,_,_,_,cF,aw.k2<|aw.nil,ao.cons M1<|ao.nil,?_⟩
  iterate 2 refine DG.a ?_
  refine DQ .r (fun J Zx Rx _ zd Qd=>PV.ei gZ vX rfl rfl (by omega))<|?_;refine DG.a<|?_;refine DQ .r (fun J Zx Rx _ zd Qd=>PV.nI dM (Ow.ring (As.gs (zd.sv Qd).g0) vX (by omega) T) rfl rfl)<|?_;refine DG.a<|?_;refine DQ .r (fun J Zx Rx _ zd Qd=>PV.bs (us:=[.bool l1[i].ring,.slice none 0 0,.int .i64 (1+z2),.int .i64 z3]) KA rfl rfl rfl)<|?_;refine DG.side (s:=.blk 37 [.bool false,.slice none 0 0,.int .i64 0,.int .i64 0]) rfl rfl rfl rfl rfl rfl (fun J Zx Rx uS zd=>OX.alloc KD rfl fun b wy Y hb=>⟨Y.ext.size,_,rfl,⟨b,rfl⟩,zd.dy Y hb⟩)<|?_;rintro _ ⟨y,rfl⟩;refine(kZ) ?_;intro jB EY fV;simp only [CM,NM,CA,NA,iL.it] at fV;refine(cD) ym fV fun iV ko ly fJ=>?_;refine WL.nil (EX.np ?_);refine(aU) dM fJ.b0<|bz ?_;have dW:=fJ;refine WC.iM (σ:=Int × Int) [_] (fun(f0,c0)=>[(0,.pointer (some ⟨d,0,none⟩)),(3,.slice C q D),(5,.int .i64 (i:Int)),(7,.int .i64 most),(8,.pointer (some ⟨y,0,none⟩)),(27,.int .i64 (q:Int)),(28,.int .i64 (i:Int))]) (fun(f0,c0)=>[As.blk y 37 [.bool l1[i].ring,.slice none 0 0,.int .i64 f0,.int .i64 c0]]) (fun(f0,c0)=>(∀xs:List Ask,fl ⟨l1[i].ring,xs,f0,c0⟩=true)∧True) dW ?_ ?_
  ·
   refine(aN) (fun LF=>?_) fun LF=>?_
   ·
    have adK:d<iV.heap.size:=(As.gk 60 d).lt (dW.g1) d rfl;have GF:y<iV.heap.size:=((As.gb dW.g0)).lt;have fH:=dW;have dV:=fH.conv (B:=As.Ye (ι:=Int) y 37 fun f=>[.bool l1[i].ring,.slice none 0 0,.int .i64 f,.int .i64 z3]) ⟨_,(As.gb fH.g0)⟩ (fun _ h=>h);have adL:=dV.cj;have Wi:=dV.j4;have Wj:=dV.size;refine WC.Hn (m:=8) (fun j w w'=>match j with | 2=>fN (fun x=>x=d) w w' | 6=>fN (fun x=>x=y) w w' | _=>fN (fun _=>False) w w') (E:=bK [(0,PS iV.heap.size 3 6 [.int .i64 0,.int .i64 1,.int .i64 2,.int .i64 4,.int .i64 8,.int .i64 16]),(2,fun v _=>∃z:Nat,v=.int .i64 (z:Int)∧z<6),(3,fun v J=>∃b k:Nat,v=.pointer (some ⟨b,0+k*1,none⟩)∧k<6∧iV.heap.size≤b∧cC J b 3 [.int .i64 0,.int .i64 1,.int .i64 2,.int .i64 4,.int .i64 8,.int .i64 16]),(4,fun v _=>∃z:Int,v=.int .i64 z∧0≤z∧z≤65535),(6,fun _ J=>J.cell? ⟨y,2,none⟩=some (.int .i64 5))]) dV (kW (⟨⟨trivial,fun _ _ _ _ _ c h=>PS.st (fun x u=>by subst u;exact adK) c h,fun _ _ _ _ _ c h=>PS.st (fun x u=>u.elim) c h,fun _ _ _ _ _ c h=>PS.st (fun x u=>u.elim) c h,fun _ _ _ _ _ c h=>PS.st (fun x u=>by subst u;exact GF) c h,trivial⟩,⟨⟨fun _ _ _ _ _ _ h=>h,trivial,fun _ _ _ _ _ _ h=>h,fun _ _ _ _ _ _ h=>h,fun _ _ _ _ _ _ h=>h,trivial⟩,⟨⟨trivial,trivial,trivial,fun _ _ _ _ _ c ⟨b,k,h1,h2,h3,h4⟩=>⟨b,k,h1,h2,h3,(PB.get (PB.st (fun x u=>u.elim) c (v:=.pointer (some ⟨b,0,none⟩)) ⟨b,rfl,h3,h4⟩)).2⟩,fun _ _ _ _ _ c ⟨b,k,h1,h2,h3,h4⟩=>⟨b,k,h1,h2,h3,(PB.get (PB.st (fun x u=>by subst u;exact GF) c (v:=.pointer (some ⟨b,0,none⟩)) ⟨b,rfl,h3,h4⟩)).2⟩,trivial⟩,⟨⟨fun _ _ _ _ _ _ h=>h,fun _ _ _ _ _ _ h=>h,trivial,trivial,fun _ _ _ _ _ _ h=>h,trivial⟩,⟨⟨fun _ _ _ _ _ c h=>by rw [← h];exact World.cell?_of_block (c.block y (by omega) (fun u=>u.elim)),trivial,fun _ _ _ _ _ c h=>by rw [← h];exact World.cell?_of_block (c.block y (by omega) (fun u=>u.elim)),fun _ _ _ _ _ c h=>by rw [← h];exact World.cell?_of_block (c.block y (by omega) (fun u=>u.elim)),trivial,trivial⟩,trivial⟩⟩⟩⟩⟩)) mixed (by kernel_rfl)<|?_;refine DW.e rfl rfl rfl rfl rfl (fun J H hF=>OX.aP (us:=[.int .i64 0,.int .i64 1,.int .i64 2,.int .i64 4,.int .i64 8,.int .i64 16]) OP rfl rfl rfl rfl fun b wy Y hb=>⟨⟨Nat.le_trans H.1 Y.ext.size,H.2.step Y.ext⟩,Y.ext.p0,_,rfl,_,rfl,Nat.le_trans H.1 Y.ge,hb⟩)<|?_;rintro _ wz _ ⟨b57,rfl,_,_⟩;refine nx ?_;refine DW.e rfl rfl rfl rfl rfl (fun J H hF=>OX.call iU rfl rfl ((aZ (H.2.one (.tail _ (.head _))) (m:=6) (by omega)).mono ?_))<|?_
    ·
     rintro _ wy ⟨z,rfl,h0,h1,hy⟩;exact⟨_,rfl,⟨Nat.le_trans H.1 hy.bT.size,H.2.wW M1 hy⟩,hy.bT.mono (fun x _ u=>by obtain⟨A,hA,u⟩:=u;simp at hA;subst hA;exact u),_,rfl,⟨z.toNat,by congr 1;omega,by have:=h1 (by omega);omega⟩⟩
    rintro _ wz _ ⟨z13,rfl,z131⟩
    refine DW.e rfl rfl rfl rfl rfl (fun J H hF=>by
     obtain⟨_,⟨b1_,B8,B9,xy⟩,_⟩:=hF;simp only [Value.slice.injEq,Option.some.injEq,Addr.mk.injEq,and_true,true_and] at B8;subst B8;exact OX.pv (PV.ix (i:=z13) Df rfl rfl z131) rfl ⟨H,fN.refl _ _,_,rfl,_,z13,rfl,z131,B9,xy⟩) ?_
    rintro _ wz _ ⟨b3,k3,rfl,GR,Gl,xy⟩
    refine DW.e rfl rfl rfl rfl rfl (fun J H hF=>by
     obtain⟨⟨b1_,k1_,FU,Mg,_,Dx⟩,_⟩:=hF;simp only [Value.pointer.injEq,Option.some.injEq,Addr.mk.injEq,and_true] at FU;obtain⟨rfl,Rj⟩:=FU
     obtain⟨z,hz,h0,h1⟩:∃z:Int,nth [.int .i64 0,.int .i64 1,.int .i64 2,.int .i64 4,.int .i64 8,.int .i64 16] (k3*1)=some (.int .i64 z)∧0≤z∧z≤65535:=by
      have h6:k3=0∨k3=1∨k3=2∨k3=3∨k3=4∨k3=5:=by omega
      rcases h6 with rfl | rfl | rfl | rfl | rfl | rfl <;> exact⟨_,rfl,by decide,by decide⟩
     exact OX.pv (PV.ld1 (o:=0) (j:=k3*1) aK (cC.range Dx) rfl hz) rfl ⟨H,fN.refl _ _,_,rfl,z,rfl,h0,h1⟩) ?_
    rintro _ wz _ ⟨z5,rfl,h5a,h5b⟩;refine nx ?_
    refine DW.e0 rfl rfl rfl rfl (fun J H hF=>by
     obtain⟨f,hb⟩:∃f:Int,cC J y 37 [.bool l1[i].ring,.slice none 0 0,.int .i64 f,.int .i64 z3]:=H.2.ok _ M0;exact OX.st (j:=2) Jr hb rfl rfl (by simp [nth]) rfl rfl fun wy s hsz B9=>⟨⟨Nat.le_trans H.1 s.size,H.2.same M0 (s.p.mono fun x _ u=>show x=y from by simpa using u) ⟨5,B9⟩⟩,s.p.mono (fun x _ u=>by simpa using u),fun _=>cC.range B9 2 _ rfl⟩) ?_
    rintro _ wz _ h6c;refine(cG) ?_;rintro mu ⟨I5,ew⟩ ⟨PU,⟨_,⟨_,⟨_,⟨hF0,_⟩⟩⟩⟩⟩;have gq:=ew.pW (PS.pb hF0) adL Wi Wj;have dK:=gq.p1
    have P:=dK.conv (B:=As.blk y 37 [.bool l1[i].ring,.slice none 0 0,.int .i64 5,.int .i64 z3]) (by
     obtain⟨f,hb⟩:∃f:Int,cC mu y 37 [.bool l1[i].ring,.slice none 0 0,.int .i64 f,.int .i64 z3]:=dK.ok _ M0;have h1:=(cC.range hb 2 _ rfl).symm.trans PU
     have h2:f=5:=by simpa using h1
     subst h2;exact hb) (fun _ h=>h)
    refine WL.s1 P fun oL _ N=>?_;refine nx ?_;exact lY (5,z5) ⟨N.p1.drop,⟨fun _=>by unfold fl;simp [LF,h5a,h5b],trivial⟩⟩
   have LF:l1[i].ring=false:=by simpa using LF
   refine nx ?_;exact lY (1+z2,z3) ⟨dW,⟨fun _=>by unfold fl;simp [LF];omega,trivial⟩⟩
  rintro⟨f0,c0⟩ mu fH ⟨LS,_⟩;simp only [CA,NA] at fH LS ⊢;refine cS ?_;have dV:=fH.p1;refine(bL) iU (aZ dV.e1 (m:=4) (by omega)) ?_;rintro _ oL ⟨z6,rfl,agf,Nk,II⟩;have ew:=St.lr dV II;have Nk:=Nk (by omega);obtain⟨z,hz6⟩:∃z:Nat,z6=z:=⟨z6.toNat,by omega⟩;subst hz6;refine cX ?_;have gq:=ew.df RR.ask 77 4;refine WC.bd (σ:=Nat × (List Ask) × (Option Addr) × Nat × Nat) (dm:=fun(k,xs,Q,U,D1)=>[(0,.pointer (some ⟨d,0,none⟩)),(3,.slice C q D),(5,.int .i64 (i:Int)),(7,.int .i64 most),(8,.pointer (some ⟨y,0,none⟩)),(9,.int .i64 (k:Int)),(27,.int .i64 (q:Int)),(28,.int .i64 (i:Int))]) (F:=fun(k,xs,Q,U,D1)=>[As.os RR.ask 77 4 Q U D1 (xs),As.blk y 37 [.bool l1[i].ring,.slice Q U D1,.int .i64 f0,.int .i64 c0],As.gk 60 d]) (I:=fun(k,xs,Q,U,D1)=>(∀x∈aG Q,w.heap.size≤x)∧(xs.length+k≤3)∧(∀(k:Nat) x,xs[k]?=some x→ek l1 i l1[i].ring k x=true)∧True) (μ:=fun(k,xs,Q,U,D1)=>k) (z,[],none,0,0) (gq.p1.p2.p2) Sub.t (⟨by simp [aG],by simp;omega,by simp,trivial⟩)<|?_;rintro⟨k,xs,Q,U,D1⟩ uL dK ⟨hga,hxk,zL,_⟩;simp only [CA,NA] at dK hga hxk zL ⊢;have hxl:=((As.gs dK.g0)).len;refine(aN) (fun g67=>?_) fun g67=>?_
  ·
   simp at g67
   refine cS ?_;have P:=dK.p2;refine WC.iM (σ:=Nat × Bool) [_] (fun(G,cell)=>[(0,.pointer (some ⟨d,0,none⟩)),(3,.slice C q D),(5,.int .i64 (i:Int)),(7,.int .i64 most),(8,.pointer (some ⟨y,0,none⟩)),(9,.int .i64 (k:Int)),(10,.pointer (some ⟨G,0,none⟩)),(27,.int .i64 (q:Int)),(28,.int .i64 (i:Int))]) (fun(G,cell)=>[As.blk G 77 [.bool cell,.bool false,.int .i64 0,.int .i64 0],As.gk 60 d]) (fun(G,cell)=>(cell=false→most≠0)∧True) P ?_ ?_
   ·
    refine bz ?_;have N:=P;refine(bL) iU (aZ N.e1 (m:=3) (by omega)) ?_;rintro _ pB ⟨z7,rfl,agh,Nl,u0⟩;have fA:=St.lr N u0;have Nl:=Nl (by omega);refine(bW) (fun JE=>?_) (fun JE=>?_)
    ·
     refine cL ?_;refine WP .r (PV.bs (us:=_) KB rfl rfl rfl)<|(ff) fA fun G sD Gu Gv fZ=>?_;refine(cD) AM fZ fun Bp r8 mr eE=>?_;refine nx ?_;exact lY (G,true) ⟨eE,⟨(fun h=>by cases h),trivial⟩⟩
    refine cL ?_;refine WP .r (PV.bs (us:=_) KB rfl rfl rfl)<|(ff) fA fun G sD Gu Gv fZ=>?_;refine(cD) AM fZ fun Bp Bc wQ eE=>?_;refine nx ?_;exact lY (G,decide (most=0)) ⟨eE,⟨fun h=>by simpa using h,trivial⟩⟩
   rintro⟨G,cell⟩ pB N ⟨Nn,_⟩;simp only [CA,NA] at N Nn ⊢;refine(aU) dM N.b0<|bz ?_;have fA:=N;refine WC.iM (σ:=Int) [] (fun m2=>[(0,.pointer (some ⟨d,0,none⟩)),(3,.slice C q D),(5,.int .i64 (i:Int)),(7,.int .i64 most),(8,.pointer (some ⟨y,0,none⟩)),(9,.int .i64 (k:Int)),(10,.pointer (some ⟨G,0,none⟩)),(11,.int .i64 m2),(27,.int .i64 (q:Int)),(28,.int .i64 (i:Int))]) (fun m2=>[]) (fun m2=>(m2=if cell then 4 else e8 l1 i)∧True) fA ?_ ?_
   ·
    refine(aN) (fun Wk=>?_) fun Wk=>?_
    ·
     refine cL ?_;exact lY (4) ⟨fA,⟨by rw [Wk];rfl,trivial⟩⟩
    have Wk:cell=false:=by simpa using Wk
    refine nx ?_;exact lY (most) ⟨fA,⟨by rw [Wk,Ni];rfl,trivial⟩⟩
   rintro m2 sD fZ ⟨Jy,_⟩;simp only [CA,NA] at fZ Jy ⊢
   have MJ:1≤m2∧m2≤24:=by
    cases cell
    ·
     simp at Jy;have:=Nn rfl;omega
    simp at Jy;omega
   refine cS ?_;have eE:=fZ.p1;refine(bL) iU (aZ eE.e1 (m:=m2) (by omega)) ?_;rintro _ Bp ⟨z8,rfl,Vz,BU,Bw⟩;have fc:=St.lr eE Bw;have BU:=BU (by omega);refine nx ?_;refine WL.s1 fc.p1 fun y8 _ mU=>?_;refine cX ?_;have pH:=mU.p1;refine WC.iM (σ:=Bool) [_] (fun XD=>[(0,.pointer (some ⟨d,0,none⟩)),(3,.slice C q D),(5,.int .i64 (i:Int)),(7,.int .i64 most),(8,.pointer (some ⟨y,0,none⟩)),(9,.int .i64 (k:Int)),(10,.pointer (some ⟨G,0,none⟩)),(11,.int .i64 m2),(27,.int .i64 (q:Int)),(28,.int .i64 (i:Int)),(92,.bool XD)]) (fun XD=>[As.gk 60 d]) (fun XD=>True) pH ?_ ?_
   ·
    refine(aU) dM pH.b1<|(bW) (fun Uv=>?_) (fun Uv=>?_)
    ·
     refine nx ?_;have qE:=pH;refine(bL) iU (aZ qE.e1 (m:=2) (by omega)) ?_;rintro _ Gs ⟨z9,rfl,VF,BW,I1⟩;have u6:=St.lr qE I1;have BW:=BW (by omega);refine cL ?_;exact lY (decide (z9=0)) ⟨u6,trivial⟩
    refine cS ?_;exact lY (false) ⟨pH,trivial⟩
   rintro XD Gs qE _;simp only [CA,NA] at qE ⊢;refine nx ?_;have u6:=qE.p1;refine WC.iM (σ:=Int) [_,_] (fun K=>[(0,.pointer (some ⟨d,0,none⟩)),(3,.slice C q D),(5,.int .i64 (i:Int)),(7,.int .i64 most),(8,.pointer (some ⟨y,0,none⟩)),(9,.int .i64 (k:Int)),(10,.pointer (some ⟨G,0,none⟩)),(11,.int .i64 m2),(27,.int .i64 (q:Int)),(28,.int .i64 (i:Int))]) (fun K=>[As.blk G 77 [.bool cell,.bool false,.int .i64 K,.int .i64 0],As.gk 60 d]) (fun K=>(0≤K)∧(K<m2)∧True) u6 ?_ ?_
   ·
    refine(aN) (fun g92=>?_) fun g92=>?_
    ·
     refine gw ?_;have sk:=u6.p1;refine(bL) iU (aZ sk.e1 (m:=(min m2 3)) (by omega)) ?_;rintro _ Ix ⟨z10,rfl,adO,Jd,E8⟩;have V:=St.lr sk E8;have Jd:=Jd (by omega);refine bz ?_;refine WL.s1 V.p1 fun JC _ lq=>?_;refine nx ?_;exact lY (m2 - 1 - z10) ⟨lq,⟨by omega,by omega,trivial⟩⟩
    refine nx ?_;exact lY (z8) ⟨u6,⟨by omega,by omega,trivial⟩⟩
   rintro K Ix sk ⟨hn0,hn1,_⟩;simp only [CA,NA] at sk hn0 hn1 ⊢;refine cL ?_;have V:=sk.p1;refine WC.iM (σ:=Bool) [_] (fun Je=>[(0,.pointer (some ⟨d,0,none⟩)),(3,.slice C q D),(5,.int .i64 (i:Int)),(7,.int .i64 most),(8,.pointer (some ⟨y,0,none⟩)),(9,.int .i64 (k:Int)),(10,.pointer (some ⟨G,0,none⟩)),(11,.int .i64 m2),(27,.int .i64 (q:Int)),(28,.int .i64 (i:Int)),(114,.bool Je)]) (fun Je=>[As.gk 60 d]) (fun Je=>(Je=true→l1[i].ring=false∧xs.length≠0)∧True) V ?_ ?_
   ·
    refine(aU) dM V.b3<|(bW) (fun Wl=>?_) (fun Wl=>?_)
    ·
     refine(aU) ig V.b3<|(bW) (fun nM=>?_) (fun nM=>?_)
     ·
      refine nx ?_;have lq:=V;refine(bL) iU (aZ lq.e1 (m:=3) (by omega)) ?_;rintro _ JC ⟨z11,rfl,adP,Jf,Wm⟩;have lx:=St.lr lq Wm;have Jf:=Jf (by omega);refine cL ?_;exact lY (decide (z11=1)) ⟨lx,⟨fun _=>⟨by simpa using Wl,by have h0:=nM;simp at h0;omega⟩,trivial⟩⟩
     refine cS ?_;exact lY (false) ⟨V,⟨(fun h=>by cases h),trivial⟩⟩
    refine o5 ?_;exact lY (false) ⟨V,⟨(fun h=>by cases h),trivial⟩⟩
   rintro Je JC lq ⟨hb,_⟩;simp only [CA,NA] at lq hb ⊢;refine nx ?_;have lx:=lq.p1;refine WC.iM (σ:=Bool × Int) [_,_] (fun(O,L)=>[(0,.pointer (some ⟨d,0,none⟩)),(3,.slice C q D),(5,.int .i64 (i:Int)),(7,.int .i64 most),(8,.pointer (some ⟨y,0,none⟩)),(9,.int .i64 (k:Int)),(10,.pointer (some ⟨G,0,none⟩)),(27,.int .i64 (q:Int)),(28,.int .i64 (i:Int))]) (fun(O,L)=>[As.blk G 77 [.bool cell,.bool O,.int .i64 K,.int .i64 L],As.gk 60 d]) (fun(O,L)=>(O=true→l1[i].ring=false∧xs.length≠0∧0≤L∧L<m2)∧(O=false→L=0)∧True) lx ?_ ?_
   ·
    refine(aN) (fun I6=>?_) fun I6=>?_
    ·
     refine cL ?_;have nN:=lx.p1;refine(bL) iU (aZ nN.e1 (m:=m2) (by omega)) ?_;rintro _ MU ⟨z12,rfl,adQ,Jg,E9⟩;have nO:=St.lr nN E9;have Jg:=Jg (by omega);refine nx ?_;refine WL.s1 nO.p1 fun Qf _ sn=>?_;refine nx ?_;refine WL.s1 sn fun Qg _ yP=>?_;refine nx ?_;exact lY (true,z12) ⟨yP,⟨fun _=>⟨(hb I6).1,(hb I6).2,by omega,by omega⟩,(fun h=>by cases h),trivial⟩⟩
    refine nx ?_;exact lY (false,0) ⟨lx,⟨(fun h=>by cases h),fun _=>rfl,trivial⟩⟩
   rintro⟨O,L⟩ MU nN ⟨hpk,WO,_⟩;simp only [CA,NA] at nN hpk WO ⊢;refine(aU) ig nN.b3<|(aT) l6 nN.b0<|?_;refine WL.go rfl (OX.aP (us:=(Ask.mk cell O K L).cells) Dd rfl rfl rfl rfl fun GJ Qf Wn Wo=>?_);have nO:=nN.dy Wn Wo;have hzs:=nO.size;refine WL.ap rfl rfl nO.p3 (SR.dn (A:=fun _=>True) (x:=Ask.mk cell O K L) (As.gb nO.g0) trivial rfl (by simp [Ask.cells,Value.oneCell']) rfl) fun a124 Wp Qg Wq agk sn=>?_;refine nx ?_;refine WL.s1 sn.p4 fun Vh _ yP=>?_;refine iC ?_;refine dY (k - 1,xs++[⟨cell,O,K,L⟩],a124,(U+1),Wp) ⟨yP.p2.drop.p2.drop.p1,⟨fun x u=>(Wq x u).elim (hga x) (Nat.le_trans hzs),by simp;omega,FE zL (NZ (x:=⟨cell,O,K,L⟩) Jy hn0 hn1 hpk WO),trivial⟩⟩
  simp at g67
  refine cS ?_;have LS:=LS xs;have P:=dK.a8 (by omega);have DO:=hZ.trans (bA.dx (F:=fun x=>x∈aG Q) hga) (Nat.le_refl _);refine(aT) nY P.b1<|?_;refine WP .r (PV.ei gZ vX rfl rfl (by omega))<|?_;refine WL.go rfl (OX.XV (i:=i) ym (As.gs P.g3) vX T rfl rfl rfl (by simp [Value.oneCell']) ⟨l1[i].ring,xs,f0,c0⟩ ⟨Q,U,D1,rfl,(As.gr P.g0)⟩ fun pB s8 h8=>?_);have N:=P.p3.fO s8 h8 (fun x h=>.inl h);refine eP ?_;refine dY (i+1,l1.set i ⟨l1[i].ring,xs,f0,c0⟩,_) ⟨N.p1.drop.p1.drop.p1,⟨by omega,kF.set XC T (bD T).symm ⟨show xs.length≤6 by omega,zL,LS⟩,DO,trivial⟩⟩
 simp at RA
 have Lv:i=l1.length:=by omega
 subst Lv;have hRk:=XC.ok;refine(bm) ?_;exact⟨_,_,_,l1,_,rfl,hRk,by omega,by omega,hZ,R⟩
set_option maxHeartbeats 400000
set_option maxHeartbeats 400000
theorem vl(hr:dX A w a r c aa):Calls prog 67 #[.slice a r c] w fun e w'=>∃b:Bool,e=.returned (.bool b)∧(b=true↔aq aa)∧aQ [] w w':=by
 have hle:=hr.le;have hlen:=hr.len;refine enter func67 rfl ntmps67 rfl<|?_;have aR:=St.s0 w;refine aO ?_;refine(aN) (fun g12=>?_) fun g12=>?_
 ·
  simp at g12
  refine(bm) ?_;exact⟨false,rfl,⟨fun h=>(by cases h),fun h=>by have:=h.1;omega⟩,(St.cg aR)⟩
 simp at g12
 refine o5 ?_;refine WC.bd (σ:=Nat) (dm:=fun i=>[(0,.slice a r c),(13,.slice a r c),(14,.int .i64 (r:Int)),(15,.int .i64 (i:Int))]) (F:=fun i=>[]) (I:=fun i=>(i≤r)∧(∀j x,j<i→aa[j]?=some x→jI aa j x)∧True) (μ:=fun i=>r - i) (0) (aR) Sub.t (⟨by omega,fun j x h=>by omega,trivial⟩)<|?_;rintro i w1 st1 ⟨hi,J,_⟩;simp only [CA,NA] at st1 hi J ⊢;refine(aN) (fun g16=>?_) fun g16=>?_
 ·
  simp at g16
  have y:i<aa.length:=by omega
  obtain⟨b_x,o_x,Xq,V,_,⟨q1,z,W,rfl,K⟩,X,_⟩:=hr.at (ai y);have vN:=K.len;have hq:=K.le;refine eP ?_;refine WP .r (PV.ei gZ V rfl rfl (by omega))<|(aT) nY (aV X (St.cg st1) (by simp))<|(ff) st1 fun b4 w2 AX E4 st2=>?_;refine(cD) ym st2 fun w3 ko ly R=>?_;refine aO ?_;refine(aU) dM R.b0<|bz ?_;have L:=R;refine WC.iM (σ:=Int × Int × Int) [] (fun(u1,B,C)=>[(0,.slice a r c),(3,.int .i64 (i:Int)),(4,.pointer (some ⟨b4,0,none⟩)),(5,.int .i64 u1),(6,.int .i64 B),(7,.int .i64 C),(13,.slice a r c),(14,.int .i64 (r:Int)),(15,.int .i64 (i:Int))]) (fun(u1,B,C)=>[]) (fun(u1,B,C)=>(fl aa[i]=(decide (u1≤aa[i].final) && decide (aa[i].final≤B) && decide (0≤aa[i].c) && decide (aa[i].c≤C)))∧True) L ?_ ?_
  ·
   refine(aN) (fun g21=>?_) fun g21=>?_
   ·
    skip
    refine cS ?_;exact lY (5,5,65535) ⟨L,⟨by unfold fl;rw [if_pos g21,Bool.eq_iff_iff];simp;omega,trivial⟩⟩
   have g21:aa[i].ring=false:=by simpa using g21
   refine nx ?_;exact lY (1,4,999) ⟨L,⟨by unfold fl;rw [if_neg (by rw [g21];simp)],trivial⟩⟩
  rintro⟨u1,B,C⟩ w4 q ⟨hu,_⟩;simp only [CA,NA] at q hu ⊢;refine cL ?_;refine WC.cI (t:=48) (v:=.bool (!(decide (z≤6) && fl aa[i]))) q ?_<|?_
  ·
   refine(aU) ig q.b0<|(bW) (fun f=>?_) (fun f=>?_)
   ·
    refine aO ?_;exact(br) (by rw [hu];simp at f;first | (simp [f];done) | (simp_all;done) | (rw [Bool.eq_iff_iff];simp;omega) | (simp [f];omega) | (simp_all;omega) | (simp [f];rw [Bool.eq_iff_iff];simp;omega)) (q)
   refine(aU) aK q.b0<|(bW) (fun o=>?_) (fun o=>?_)
   ·
    refine aO ?_;exact(br) (by rw [hu];simp at f o;first | (simp [f,o];done) | (simp_all;done) | (rw [Bool.eq_iff_iff];simp;omega) | (simp [f,o];omega) | (simp_all;omega) | (simp [f,o];rw [Bool.eq_iff_iff];simp;omega)) (q)
   refine(aU) aK q.b0<|(bW) (fun p=>?_) (fun p=>?_)
   ·
    exact(br) (by rw [hu];simp at f o p;first | (simp [f,o,p];done) | (simp_all;done) | (rw [Bool.eq_iff_iff];simp;omega) | (simp [f,o,p];omega) | (simp_all;omega) | (simp [f,o,p];rw [Bool.eq_iff_iff];simp;omega)) (q)
   refine(aU) aK q.b0<|(bW) (fun s=>?_) (fun s=>?_)
   ·
    exact(br) (by rw [hu];simp at f o p s;first | (simp [f,o,p,s];done) | (simp_all;done) | (rw [Bool.eq_iff_iff];simp;omega) | (simp [f,o,p,s];omega) | (simp_all;omega) | (simp [f,o,p,s];rw [Bool.eq_iff_iff];simp;omega)) (q)
   refine(aU) aK q.b0<|?_;exact(br) (by rw [hu];simp at f o p s;first | (simp [f,o,p,s];done) | (simp_all;done) | (rw [Bool.eq_iff_iff];simp;omega) | (simp [f,o,p,s];omega) | (simp_all;omega) | (simp [f,o,p,s];rw [Bool.eq_iff_iff];simp;omega)) (q)
  intro w5 N;refine(aN) (fun D=>?_) fun D=>?_
  ·
   simp at D
   refine(bm) ?_
   exact⟨false,rfl,⟨fun h=>(by cases h),fun h=>by
    obtain⟨h1,_,Y⟩:=h.2 i _ (ai y)
    rcases D with g | g
    ·
     exfalso;omega
    rw [Y] at g;cases g⟩,(St.cg N)⟩
  have T:aa[i].asks.length≤6∧fl aa[i]=true:=by simp at D;exact⟨by omega,D.2⟩
  refine(aU) ig N.b0<|cS ?_;refine WC.bd (σ:=Nat) (dm:=fun k=>[(0,.slice a r c),(3,.int .i64 (i:Int)),(13,.slice a r c),(14,.int .i64 (r:Int)),(15,.int .i64 (i:Int)),(50,.slice q1 z W),(51,.int .i64 (z:Int)),(52,.int .i64 (k:Int))]) (F:=fun k=>[]) (I:=fun k=>(k≤z)∧(∀j x,j<k→aa[i].asks[j]?=some x→ek aa i aa[i].ring j x=true)∧True) (μ:=fun k=>z - k) (0) (N) Sub.t (⟨by omega,fun j x h=>by omega,trivial⟩)<|?_;rintro k w6 H ⟨hk,u,_⟩;simp only [CA,NA] at H hk u ⊢;refine(aN) (fun O=>?_) fun O=>?_
  ·
   simp at O
   have P:k<aa[i].asks.length:=by omega
   obtain⟨b_y,o_y,r_y,P5,_,rfl,P6,_⟩:=(K.ext (St.cg H)).at (ai P);refine eP ?_;refine WP .r (PV.ei uf P5 rfl rfl (by omega))<|(aT) l6 P6<|(ff) H fun b9 w7 Xv Xw ju=>?_;refine(cD) AM ju fun w8 r8 mr Q=>?_;refine(aT) l6 Q.b0<|(dH) (lV (k:=k) (x:=aa[i].asks[k]) (hr.ext (St.cg Q)) y) Q fun w9 s9 U=>?_;refine(aN) (fun E=>?_) fun E=>?_
   ·
    simp at E
    refine aO ?_;refine(bm) ?_;exact⟨false,rfl,⟨fun h=>(by cases h),fun h=>absurd ((h.2 i _ (ai y)).2.1 k _ (ai P)) (by simp [E])⟩,(St.cg U)⟩
   simp at E
   refine eP ?_;refine dY (k+1) ⟨U.drop,⟨by omega,bO P u E,trivial⟩⟩
  simp at O
  have u:∀j x,aa[i].asks[j]?=some x→ek aa i aa[i].ring j x=true:=fun j x G=>u j x (by have:=(List.getElem?_eq_some_iff.1 G).1;omega) G;have u:∀(k:Nat) (x:Ask),aa[i].asks[k]?=some x→ek aa i aa[i].ring k x=true:=u;refine j8 ?_;refine dY (i+1) ⟨H.drop,⟨by omega,bO y J ⟨T.1,u,T.2⟩,trivial⟩⟩
 simp at g16
 have hV:∀j x,aa[j]?=some x→jI aa j x:=fun j x G=>J j x (by have:=(List.getElem?_eq_some_iff.1 G).1;omega) G;refine(bm) ?_;exact⟨true,rfl,⟨fun _=>⟨by omega,hV⟩,fun _=>rfl⟩,(St.cg st1)⟩
theorem j3(hu:dX A w ar r cr aa) (hi:Rd RR.az 4 Z w a1 n1 e1 x.ad) (hr:Rd RR.ed 8 Z w a2 n2 e2 x.ah):CR prog 33 #[.slice ar r cr,.agg (x.row a1 n1 e1 a2 n2 e2).toArray,k.val] w (.int .i64 (dt aa x k)):=by
 refine enter func33 rfl ntmps33 rfl<|?_;have aR:=St.s0 w;refine(dE) aR fun b4 w1 q s st1=>?_;refine(dE) st1 fun b5 w2 t u st2=>?_;refine(bL) O6 (mR (hu.ext (St.cg st2))) ?_;rintro _ w3 ⟨bv,rfl,g,s3⟩;have b:=st2.step s3;refine(aN) (fun g7=>?_) fun g7=>?_
 ·
  have hn:¬aq aa:=fun h=>by rw [g.2 h] at g7;simp at g7
  refine(bm) ?_;exact⟨by rw [rq hn],(St.cg b)⟩
 have f:aq aa:=g.1 (by simpa using g7);refine(aT) aJ b.b1<|(bL) K7 (jt (x:=x) (hi.ext (St.cg b)) (hr.ext (St.cg b))) ?_;rintro _ w4 ⟨v,rfl,i,p⟩;have e:=b.step p;refine(aN) (fun g11=>?_) fun g11=>?_
 ·
  have hn:¬eU x:=fun h=>by rw [i.2 h] at g11;simp at g11
  refine(bm) ?_;exact⟨by rw [tV f hn],(St.cg e)⟩
 have j:eU x:=i.1 (by simpa using g11);refine(aT) ak e.b0<|(dH) (rH (k:=k) (hu.ext (St.cg e))) e fun w5 y o=>?_;refine(aN) (fun g15=>?_) fun g15=>?_
 ·
  have hn:dh aa k=false:=by simpa using g15
  refine(bm) ?_;exact⟨by rw [xm f j hn],(St.cg o)⟩
 have hk:dh aa k=true:=by simpa using g15
 refine(bm) ?_;exact⟨by rw [Av f j hk],(St.cg o)⟩
set_option maxHeartbeats 400000
theorem wv{i:Nat}(t:St w M Z w [As.map Key.val S.m ml,As.map Key.val S.q []]) (v:(S.FV prog aa x).p Z w) (hm:aY aa x.ad ml) (b:aq aa) (j:∀k,(valOf aa x.ad k).size≤140737488355328) (hi:i<aa.length) (y:k=aD aa (i:Int)):Calls prog 36 #[.pointer (some ⟨S.s,0,none⟩),k.val] w fun e w'=>∃f ra g rc,e=.returned (.slice ra g rc)∧aY aa x.ad f∧iE ml f∧St w M Z w' [As.os RR.key 29 2 ra g rc (cm aa x.ad i),As.map Key.val S.m f,As.map Key.val S.q []]:=by
 subst y;have H:=b.len;have hP:=cM hi (show i≤99 by omega);refine enter func36 rfl ntmps36 rfl<|?_;have aR:=t;have st1:=aR.fact (B:=As.fz (S.FV prog aa x)) v (fun _ z=>z);refine(dE) st1 fun b3 w1 I J st2=>?_;refine(aT) ak st2.b0<|?_;refine WL.c1 (u:=.bool false) (eh (k:=aD aa (i:Int))) (by rw [hP]) st2 fun w2 s2 o=>?_;refine bz ?_;refine WC.kS rfl<|(aT) ak o.b0<|nx ?_;refine WP .r (PV.func (us:=[.pointer (some ⟨S.s,0,none⟩)]) (vs:=[]) rfl rfl)<|?_;have h:=o.p3.p3;refine(bL) K8 (rP h.e2 (As.gf h.g3) hm b hi j (fun _ _ _=>kD.nil _) (fun a C=>DX b j (C.tm b))) ?_;rintro _ w3 ⟨eH,ra,g,rc,rfl,D,E,F⟩;have G:=St.lr h F;refine aO ?_;refine(bm) ?_;exact⟨eH,_,_,_,rfl,D,E,G.p3.drop.p3.drop⟩
set_option maxHeartbeats 400000
set_option maxHeartbeats 400000
theorem St.shrink{w0:World}{Z':Nat→Prop}(h:St w0 M Z' w []) (b:∀x,Z x→Z' x):St w0 M Z w []:=⟨h.bT,fun x e=>h.j4 x (b x e),by simp,by simp,.nil,by simp⟩
set_option maxHeartbeats 400000
set_option maxHeartbeats 400000
theorem ss(hl:Rd RR.key 2 A w a n c l) (s:l.Nodup):CR prog 78 #[.slice a n c] w (.slice a n c):=by
 have hle:=SR.le hl;have hlen:=SR.len hl;refine enter func78 rfl ntmps78 rfl<|?_;have aR:=St.s0 w;refine aO ?_;refine(aN) (fun g8=>?_) fun g8=>?_
 ·
  skip
  refine(bm) ?_;exact⟨rfl,(St.cg aR)⟩
 simp at g8
 refine kQ ?_;refine WC.bd (σ:=Nat) (dm:=fun i=>[(0,.slice a n c),(3,.int .i64 (i:Int))]) (F:=fun i=>[]) (I:=fun i=>(1≤i)∧(i≤n)∧True) (μ:=fun i=>n - i) (1) (aR) Sub.t (⟨Nat.le_refl _,by omega,trivial⟩)<|?_;rintro i w1 st1 ⟨hi,hP,_⟩;simp only [CA,NA] at st1 hi hP ⊢;refine(aN) (fun g13=>?_) fun g13=>?_
 ·
  simp at g13
  have h:i<l.length:=by omega
  have j:i - 1<l.length:=by omega
  obtain⟨C,D,E,u,_,f,v,_⟩:=Rd.at hl h;have f:=RR.bN f;subst f;obtain⟨G,H,J,y,_,g,z,_⟩:=Rd.at hl j;have g:=RR.bN g;subst g
  have B:l[i]≠l[i - 1]:=fun e=>by
   exact List.pairwise_iff_getElem.1 s (i - 1) i j h (by omega) e.symm
  refine cS ?_;have K:=st1.cj;refine WC.dS (m:=9) st1 mixed<|bz ?_;refine DP .r (fun _ b=>PV.ei eI (i:=i) u rfl rfl (by omega))<|DP .r (fun _ b=>VA ak (aV v (St.cg b.2) (by simp)) .r)<|bz ?_;refine DP .r (fun _ b=>(PV.sub rfl rfl (by omega) (by omega)).cast (v':=.int .i64 ((i - 1:Nat):Int)) (congrArg (Value.int .i64) (by omega)))<|DP .r (fun _ b=>PV.ei eI (i:=i - 1) y rfl rfl (by omega))<|DP .r (fun _ b=>VA ak (aV z (St.cg b.2) (by simp)) .r)<|(cG)<|?_;rintro w2 ⟨L,st2⟩ _;refine WP .r (PV.Fg ft (p:=l[i]) (q:=l[i - 1]) rfl rfl)<|(aN) (fun o=>?_) fun o=>?_
  ·
   exact absurd o (by simpa using B)
  skip
  refine iC ?_;refine dY (i+1) ⟨st2,⟨by omega,by omega,trivial⟩⟩
 simp at g13
 refine(bm) ?_;exact⟨rfl,(St.cg st1)⟩
theorem na(q:St w M Z w []) (hl:Rd RR.key 2 Z w a n c l) (h0:l≠[]) (g:l.Nodup) (hn:l.length≤1000000):Calls prog 38 #[.slice a n c] w fun e w'=>∃h i j,∃l':List Key,e=.returned (.slice h i j)∧An l'∧l'.Perm l∧St w M Z w' [As.os RR.key 29 2 h i j l']:=by
 refine enter func38 rfl ntmps38 rfl<|?_;have aR:=q;have st1:=aR.fr hl;refine iC ?_;have st2:=st1;refine(bL) Zg (vZ st2.e0 (As.gr st2.g0) hn) ?_;rintro _ w1 ⟨b1,b2,c1,rfl,s⟩;have t:=St.lr st2 s;refine gw ?_;have o:=t;refine(bL) Zh (BI o.e1 h0 hn) ?_;rintro _ w2 ⟨rfl,f,b,u,v⟩;have p:=St.lr o v;have C:f.length=l.length:=b.length_eq;have y:f.Nodup:=b.nodup_iff.2 g;have z:=Ke b g u;refine(dH) (ss (Ow.rd (As.gs p.g0) (by omega)) y) p fun w3 s3 B=>?_;refine(bm) ?_;exact⟨b1,_,c1,f,rfl,z,b,B.p1.drop⟩
theorem wA{aa:List aA}(gD:n≤99):CR prog 69 #[.slice a r c,(bH (n:Int)).val] w (.bool true):=by
 have b:bH (n:Int)=⟨30,itoa n⟩:=by unfold bH;rw [if_neg (by omega)]
 have e:(bH (n:Int)).kind=30:=by rw [b]
 have f:(bH (n:Int)).text=itoa n:=by rw [b]
 refine enter func69 rfl ntmps69 rfl<|?_;have aR:=St.s0 w;refine(dE) aR fun b3 w1 o p st1=>?_;refine cX ?_;have q:=st1.cj;refine WC.cJ (m:=12) (E:=bK [(1,fun v _=>v=.bool true),(4,fun v _=>v=.bool false)]) st1 (aS (⟨fun _ _ _ _ _ _ _ h=>h,⟨fun _ _ _ _ _ _ _ h=>h,trivial⟩⟩)) mixed (by kernel_rfl)<|(gx) ak St.g0<|?_;refine DW.c0 (fun g i j=>gB (k:=bH (n:Int)) (by omega) f gD)<|(gx) ak St.g0<|?_;refine DW.c1 (u:=.bool false) (fun g i j=>iX (k:=bH (n:Int))) (by rw [show(decide ((bH (n:Int)).kind=31) || decide ((bH (n:Int)).kind=32))=false by(rw [e];simp)])<|(cG) ?_;rintro w2 ⟨s,st2⟩ ⟨_,⟨_,_⟩⟩;refine(bm) ?_;exact⟨by simp,(St.cg st2)⟩
theorem wB{B:Nat→Prop}(hk:eu aa k) (hr:dX B w a r c aa):CR prog 69 #[.slice a r c,k.val] w (.bool true):=by
 cases hk with
 | cell h=>exact wA (aa:=aa) h
 | dp hi h=>exact vY hi h hr
theorem nb(hk:eu aa k) (hu:dX A w ar r cr aa) (f:Rd RR.az 4 Z w a1 n1 e1 x.ad) (hr:Rd RR.ed 8 Z w a2 n2 e2 x.ah) (g:aq aa) (h:tD aa x):CR prog 30 #[.slice ar r cr,.agg (x.row a1 n1 e1 a2 n2 e2).toArray,k.val] w (.int .i64 0):=by
 refine enter func30 rfl ntmps30 rfl<|?_;have aR:=St.s0 w;refine(dE) aR fun b4 w1 j o st1=>?_;refine(dE) st1 fun b5 w2 p q st2=>?_;refine(dH) (uR (hu.ext (St.cg st2)) g) st2 fun w3 s3 b=>?_;refine cX ?_;refine WC.kS rfl<|(aT) aJ b.b1<|(dH) (qC (f.ext (St.cg b)) (hr.ext (St.cg b)) h) b fun w4 s e=>?_;refine cX ?_;refine WC.kS rfl<|(aT) ak e.b0<|(dH) (wB hk (hu.ext (St.cg e))) e fun w5 t i=>?_;refine cX ?_;refine WC.kS rfl<|(bm) ?_;exact⟨rfl,(St.cg i)⟩
theorem nc(t:St w M Z w []) (ht:gV prog Z w) (hk:eu aa k) (hu:Rd RR.dp 4 Z w ar r cr aa) (u:Rd RR.az 4 Z w a1 n1 e1 x.ad) (hr:Rd RR.ed 8 Z w a2 n2 e2 x.ah) (p:aq aa) (g:tD aa x) (v:∀k,(valOf aa x.ad k).size≤140737488355328):Calls prog 12 #[.slice ar r cr,.agg (x.row a1 n1 e1 a2 n2 e2).toArray,k.val] w fun e w'=>e=.returned (.tuple #[.string (valOf aa x.ad k),.int .i64 0])∧St w M Z w' []:=by
 refine enter func12 rfl ntmps12 rfl<|?_;have aR:=t;have st1:=aR.fr hu;have st2:=st1.fr u;have y:=st2.fr hr;have z:=y.fact (B:=As.fz (FZ.zV prog)) ht (fun _ g=>g);refine(dE) z fun b4 w1 K L C=>?_;refine(dE) C fun b5 w2 N O f=>?_;refine(aT) aJ f.b1<|(aT) ak f.b0<|(dH) (nb hk (As.gr f.g5) (As.gr f.g4) (As.gr f.g3) p g) f fun w3 s3 E=>?_;refine(aN) (fun g14=>?_) fun g14=>?_
 ·
  exact gu g14
 refine cL ?_;refine WC.bY (m:=4) [] [2] [0,1,2,3] [] E (ao.k4 M0 M1 M2 M3<|ao.cons M4<|ao.cons M5<|ao.nil) mixed (by kernel_rfl) (by kernel_rfl) rfl<|(kh) aJ SV.g1<|(gi) (fun w4 P Q q R=>?_);simp only [CA,NA] at q;have i:=q;refine OX.call Ib rfl rfl ((iY (x:=x) i.e0).mono ?_);rintro _ w5 ⟨d1,d2,d3,rfl,j⟩;have G:=St.lr i j;have T:=St.bB j;have U:=i.size;have b:=G;have H:=b.freeze (B:=As.fz (SD.FV (⟨ar,a1,a2,r,cr,n1,e1,n2,e2,d2,d3,d1⟩:SD) prog aa x)) ⟨(SD.F (⟨ar,a1,a2,r,cr,n1,e1,n2,e2,d2,d3,d1⟩:SD) prog aa x).mono (fun _ h=>.inl h) ⟨(As.gr b.g8),(As.gr b.g7),(As.gr b.g6),(As.gf b.g5)⟩,.inr rfl,((As.gb b.g0)).lt,cC.range (As.gb b.g0)⟩ (fun _ g=>g);refine⟨_,rfl,j.bT.size,_,rfl,_,_,_,H,aw.k4<|aw.k4<|aw.cons<|aw.nil,ao.k4 M3 M4 M5 M6<|ao.cons M7<|ao.cons M8<|ao.nil,?_⟩;refine(kh) ak SV.g0<|(kZ)<|?_;intro w6 V s;simp only [CM,NM,CA,NA,iL.it] at s;have o:=s.p2.p2;refine(bL) K6 (DX (D:=(⟨ar,a1,a2,r,cr,n1,e1,n2,e2,d2,d3,d1⟩:SD)) p v hk _ _ _ _ _ o.e2 (As.gf o.g2) aY.nil (fun _=>kD.nil _)) ?_;rintro _ w7 ⟨eH,rfl,_,_,I⟩;have J:=St.lr o I;refine bz ?_;refine WL.nil (EX.np ?_);refine(qX) ?_;exact⟨rfl,(J.k0).shrink fun _ h=>.inl h⟩
theorem wC(hk:aB k=true):CR prog 36 #[.pointer (some ⟨S.s,0,none⟩),k.val] w (.slice none 0 0):=by
 refine enter func36 rfl ntmps36 rfl<|?_;have aR:=St.s0 w;refine(dE) aR fun b3 w1 b e st1=>?_;refine(aT) ak st1.b0<|?_;refine WL.c1 (u:=.bool true) (eh (k:=k)) (by rw [hk]) st1 fun w2 s2 st2=>?_;refine bz ?_;refine WC.sE rfl<|(bm) ?_;exact⟨rfl,(St.cg st2)⟩
theorem kP(f:St w M Z w [As.map Key.val S.m ml,As.map Key.val S.q []]) (j:(S.FV prog aa x).p Z w) (hm:aY aa x.ad ml) (g:aq aa) (o:∀k,(valOf aa x.ad k).size≤140737488355328) (hk:eu aa k):Calls prog 36 #[.pointer (some ⟨S.s,0,none⟩),k.val] w fun e w'=>∃b ra i rc,e=.returned (.slice ra i rc)∧aY aa x.ad b∧iE ml b∧St w M Z w' [As.os RR.key 29 2 ra i rc (dq aa x.ad k),As.map Key.val S.m b,As.map Key.val S.q []]:=by
 cases hk with
 | cell h=>
  have hi:=bf h;refine(wC hi).mono<|?_;rintro e w' ⟨rfl,hc⟩;refine⟨ml,none,0,0,rfl,hm,iE.refl _,?_⟩;have e:dq aa x.ad (bH _)=[]:=if_pos hi;rw [e];exact(f.step hc).df RR.key 29 2
 | dp hi h=>
  rw [dT g hi];exact wv f j hm g o hi rfl
set_option maxHeartbeats 1600000 in
theorem vt(gg:St w M Z w []) (ht:gV prog Z w) (hk:eu aa k) (hu:Rd RR.dp 4 Z w ar r cr aa) (hii:Rd RR.az 4 Z w a1 n1 e1 x.ad) (hr:Rd RR.ed 8 Z w a2 n2 e2 x.ah) (D:aq aa) (J:tD aa x) (hS:∀k,(valOf aa x.ad k).size≤140737488355328):Calls prog 16 #[.slice ar r cr,.agg (x.row a1 n1 e1 a2 n2 e2).toArray,k.val] w fun e w'=>∃(ra:Option Addr) (u rc:Nat) (L:List Key) (Z':Nat→Prop),e=.returned (.tuple #[.slice ra u rc,.int .i64 0])∧An L∧(∀y,y∈L↔Eo aa x.ad k y)∧bA w.heap.size Z Z'∧St w M Z' w' [As.os RR.key 29 2 ra u rc L]:=by
 refine enter func16 rfl ntmps16 rfl<|?_;have aR:=St.rb gg;have st1:=aR.fr hu;have st2:=st1.fr hii;have j5:=st2.fr hr;have i6:=j5.fact (B:=As.fz (FZ.zV prog)) ht (fun _ J=>J);refine(dE) i6 fun b4 w1 AX E4 jD=>?_;refine(dE) jD fun b5 w2 EV EW E=>?_;refine(aT) aJ E.b1<|(aT) ak E.b0<|(dH) (nb hk (As.gr E.g5) (As.gr E.g4) (As.gr E.g3) D J) E fun w3 s3 ij=>?_;refine(aN) (fun g20=>?_) fun g20=>?_
 ·
  exact absurd g20 (by simp)
 skip
 refine(aT) aJ ij.b1<|?_;have U:=ij;refine(bL) Ib (iY (x:=x) U.e0) ?_;rintro _ w4 ⟨d1,d2,d3,rfl,mj⟩;have jc:=St.lr U mj;have hgv:=St.bB mj;have Q4:=U.size;have v:=jc;have dw:=v.freeze (B:=As.fz (SD.FV (⟨ar,a1,a2,r,cr,n1,e1,n2,e2,d2,d3,d1⟩:SD) prog aa x)) ⟨(SD.F (⟨ar,a1,a2,r,cr,n1,e1,n2,e2,d2,d3,d1⟩:SD) prog aa x).mono (fun _ h=>.inl h) ⟨(As.gr v.g8),(As.gr v.g7),(As.gr v.g6),(As.gf v.g5)⟩,.inr rfl,((As.gb v.g0)).lt,cC.range (As.gb v.g0)⟩ (fun _ J=>J);refine cS ?_;refine WL.mm Key.val dw fun G w5 adS adT V=>?_;refine(aT) ak V.b4<|?_;refine WL.go rfl (OX.ins ec gA (As.gm V.g0) rfl rfl rfl fun w6 DD uJ=>?_);have db:=V.jn DD uJ;refine cL ?_;have cF:=db.sY (B:=As.map Key.val G (iP [k])) (rfl);refine(aT) ak cF.b4<|?_;refine WL.go rfl (OX.aP (us:=k.cells) dU rfl rfl rfl rfl fun O w7 Q5 Q6=>?_);have fV:=cF.dy Q5 Q6;refine bz ?_;have fJ:=fV;have dW:=fJ.conv (B:=As.os RR.key 29 2 (some ⟨O,0,none⟩) 1 1 [k]) (OR.dn (As.gb fJ.g0) (Nat.zero_le _) rfl (by simp [Key.cells,Value.oneCell']) rfl) (fun x h=>by show x=O;change x∈aG (some ⟨O,0,none⟩) at h;simpa [aG] using h);refine iC ?_;refine WC.bd (σ:=Nat × (List Key) × (List (Key × Value)) × (Option Addr) × Nat × Nat) (dm:=fun(i,l,ml,f,g,j)=>[(9,.pointer (some ⟨d1,0,none⟩)),(10,.map (some G)),(11,.slice f g j),(12,.int .i64 (i:Int))]) (F:=fun(i,l,ml,f,g,j)=>[As.os RR.key 29 2 f g j (l),As.map Key.val G (iP l),As.map Key.val d2 ml]) (I:=fun(i,l,ml,f,g,j)=>(sB aa x.ad k l i 0)∧(aY aa x.ad ml)∧True) (μ:=fun(i,l,ml,f,g,j)=>200 - i) (0,[k],[],(some ⟨O,0,none⟩),1,1) (dW.p3.p2.p2) Sub.t (⟨sB.start hk,aY.nil,trivial⟩)<|?_;rintro⟨i,l,ml,f,g,j⟩ w8 z ⟨hb,hm,_⟩;simp only [CA,NA] at z hb hm ⊢;have hln:=((As.gs z.g0)).len;have Np:=hb.len D;refine(aN) (fun W=>?_) fun W=>?_
 ·
  simp at W
  have P:i<l.length:=by omega
  have J2:=hb.tm l[i] (List.getElem_mem P);have GY:=lI (az:=x.ad) D J2;refine cS ?_;obtain⟨ia,ck⟩:=Ow.addr (As.gs z.g0) (ai P);refine cX ?_;refine WP .r (PV.ei eI ck rfl rfl (by omega))<|(aT) ak (Ow.mb (As.gs z.g0) (by omega) ck (ai P))<|?_;have K:=z.p4.p3;refine(bL) O7 (kP (S:=(⟨ar,a1,a2,r,cr,n1,e1,n2,e2,d2,d3,d1⟩:SD)) K.e2 (As.gf K.g4) hm D hS J2) ?_;rintro _ w9 ⟨eH,ra,u,rc,rfl,vI,uA,X⟩;have H:=St.lr K X;have Lx:=((As.gs H.g0)).len;refine cS ?_;refine WC.bd (σ:=Nat × (List Key) × (Option Addr) × Nat × Nat) (dm:=fun(q,o,f,g,j)=>[(9,.pointer (some ⟨d1,0,none⟩)),(10,.map (some G)),(11,.slice f g j),(12,.int .i64 (i:Int)),(41,.slice ra u rc),(42,.int .i64 (u:Int)),(43,.int .i64 (q:Int))]) (F:=fun(q,o,f,g,j)=>[As.os RR.key 29 2 f g j (o),As.map Key.val G (iP o)]) (I:=fun(q,o,f,g,j)=>(q≤u)∧(sB aa x.ad k o i q)∧(o[i]?=some l[i])∧True) (μ:=fun(q,o,f,g,j)=>u - q) (0,l,f,g,j) (H.p4.p4) Sub.t (⟨Nat.zero_le _,hb,ai P,trivial⟩)<|?_;rintro⟨q,o,f,g,j⟩ jB p ⟨hq,N,C,_⟩;simp only [CA,NA] at p hq N C ⊢;have Wr:=((As.gs p.g0)).len;have Jh:=N.len D;refine(aN) (fun Y=>?_) fun Y=>?_
  ·
   simp at Y
   obtain⟨y,hy⟩:∃y,(dq aa x.ad l[i])[q]?=some y:=⟨_,List.getElem?_eq_getElem (show q<(dq aa x.ad l[i]).length by omega)⟩;refine cS ?_;obtain⟨nL,fU⟩:=Ow.addr (As.gs p.g2) hy;refine nx ?_;refine WP .r (PV.ei eI fU rfl rfl (by omega))<|(aT) ak (Ow.mb (As.gs p.g2) (by omega) fU hy)<|(ff) p fun b14 iV Lq GF dK=>?_;refine(cD) gR dK fun mu r8 mr Q=>?_;refine(aT) ak Q.b0<|?_;refine WP .r (PV.oY ec gA yo (As.gm Q.g2) (tM o y) rfl rfl)<|(aN) (fun I4=>?_) fun I4=>?_
   ·
    have R:y∉o:=by simpa using I4
    refine WC.bY (m:=6) [] [5] [2,3,4,5,0,1] [(4,.sl 29 1 y.cells)] Q (ao.k4 M0 M2 M3 M4<|ao.k4 M5 M6 M7 M8<|ao.k4 M9 iZ jj nh<|ao.nil) mixed (by kernel_rfl) (by kernel_rfl) rfl<|(kh) ak SV.g0<|?_;refine DG.side (s:=.sl 29 1 y.cells) rfl rfl rfl rfl rfl rfl (fun wx Zx Rx uS zd=>OX.aP (us:=y.cells) dU rfl rfl rfl rfl fun b wy nw hb=>⟨nw.ext.size,_,rfl,⟨b,rfl⟩,zd.dy nw hb⟩)<|?_;rintro _ ⟨Ws,rfl⟩;refine(gi) (fun oL LI yM T l8=>?_);simp only [CA,NA] at T;refine OX.j7 mP rfl rfl rfl (As.gs T.g1) (SR.dn (A:=fun _=>True) (x:=y) (show cC _ Ws _ _ from T.ok _ (.tail _ (.tail _ (.tail _ (.tail _ (.tail _ (.tail _ (.tail _ (.tail _ (.tail _ (.tail _ (.tail _ (.tail _ (.tail _ (l8 _ (.head _)))))))))))))))) trivial rfl (by simp [Key.cells,Value.oneCell']) rfl) (by omega) (by omega) (Nat.zero_le _) fun Wt Ji uL Jj Nq Jk Wu=>?_;have fA:=T.p1.fO Nq Jj Jk;refine⟨Nq.size,_,rfl,_,_,_,fA,aw.k4<|aw.k4<|aw.k4<|aw.cons<|aw.nil,ao.k4 M1 M2 M3 M4<|ao.k4 M5 M6 M7 M8<|ao.k4 M9 iZ jj nh<|ao.nil,?_⟩;refine(kh) ak SV.g0<|(kZ)<|?_;intro pB I5 fZ;simp only [CM,NM,CA,NA,iL.it] at fZ;refine WL.go rfl (OX.put ec gA (As.gm fZ.g3) rfl rfl rfl fun sD qz qA=>?_);have eE:=fZ.p3.jn qz qA;refine nx ?_;refine WL.nil (EX.np ?_);have fc:=eE.sY (B:=As.map Key.val G (iP (o++[y]))) (by rw [tN _ R]);refine gw ?_;refine dY (q+1,o++[y],Wt,(g+1),Ji) ⟨fc.p1.drop.p2.drop.p1,⟨by omega,N.add D C hy R,by rw [List.getElem?_append_left (List.getElem?_eq_some_iff.1 C).1];exact C,trivial⟩⟩
   have R:y∈o:=by simpa using I4
   refine eP ?_;refine dY (q+1,o,f,g,j) ⟨Q.drop,⟨by omega,N.has C hy R,C,trivial⟩⟩
  simp at Y
  refine o5 ?_;refine dY (i+1,o,eH,f,g,j) ⟨p.p2.drop.p4.p3.p3.p3,⟨N.next C (by omega),vI,trivial⟩⟩
 simp at W
 refine gw ?_;have vu:=St.fresh z;have K:=z.a8 (by omega);refine bz ?_;have H:=K;refine(bL) Tk (na H.e0 (As.gr H.g0) (List.ne_nil_of_mem hb.mem) hb.j6 (by omega)) ?_;rintro _ w9 ⟨o1,o2,o3,L,rfl,hsl,Jx,X⟩;have p:=St.lr H X;refine(qX) ?_;exact⟨o1,o2,o3,L,_,rfl,hsl,fun y=>(Jx.mem_iff).trans (hb.done (by omega) y),((bA.dx hgv).le Q4).trans (bA.dx (F:=fun x=>x∈aG f) vu) (Nat.le_refl _),(St.wk p.k1)⟩
end Go.Rc

