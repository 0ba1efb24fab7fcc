/- Walks over the program, part WYd. Conditions: as each theorem says. -/
import Derived.Test.YtilldnlhckpbjaaGreatDoorEFacts
import Derived.Test.YtilldnlhckpbjaaGreatDoorEWB
import Derived.Test.YtilldnlhckpbjaaGreatDoorEWD
import Derived.Test.YtilldnlhckpbjaaGreatDoorEBf
import Derived.Test.YtilldnlhckpbjaaGreatDoorEBd
import Derived.Test.YtilldnlhckpbjaaGreatDoorEWUa
set_option linter.all false
namespace Go.Rc
open Go Go.Proofs Go.Proofs.Tryz
variable {a ar a1 a2:Option Addr}{n c d r cr n1 e1 n2 e2:Nat}{w:World}{M Z A:Nat→Prop}{m:Int}{l:List Key}{f:FuncId}{cap:Value}{aa:List aD}{x:cW}{k:Key}{D:SD}{ml ql:List (Key × Value)}
set_option maxHeartbeats 400000
theorem yM{l:List Int}(g:St w M Z w []) (hl:Rd RR.int 1 Z w a n c l) (h:n≤400):Calls prog 7 #[.slice a n c] w fun e w'=>∃d,e=.returned (.pointer (some ⟨d,0,none⟩))∧St w M Z w' [As.iG 67 d]:=
 (Au (A:=Z) (l:=l) hl h).mono fun e w' ⟨d,h1,i,j,hc⟩=>⟨d,h1,g.new hc j fun x b=>by have b:x=d:=b;subst b;exact i⟩
theorem cw(b:St w M Z w [As.iG 67 d]) (hm:m≤4611686018427387904):Calls prog 29 #[.pointer (some ⟨d,0,none⟩),.int .i64 m] w fun e w'=>∃z:Int,e=.returned (.int .i64 z)∧0≤z∧(1≤m→z<m)∧St w M Z w' [As.iG 67 d]:=
 (Av (A:=Z) (As.gd b.g0) (b.jV (As.iG 67 d) (by simp) d rfl) hm).mono fun e w' ⟨z,h1,h,i,hc,j⟩=>⟨z,h1,h,i,b.jd (hc.p.mono fun x _ g=>show x=d from by simpa using g) j fun x g=>.inl g⟩
theorem yN{l:List ByteArray}(b:St w M Z w [As.iG 67 d,As.os RR.str 9 1 a r c l]) (h0:0<r) (h1:r≤1000):Calls prog 67 #[.pointer (some ⟨d,0,none⟩),.slice a r c] w fun e w'=>∃s:ByteArray,e=.returned (.string s)∧s∈l∧St w M Z w' [As.iG 67 d,As.os RR.str 9 1 a r c l]:=by
 have hlen:=(As.gs b.g1).len;refine enter func67 rfl ntmps67 rfl<|?_;have aR:=b;refine lV ?_;have st1:=aR;refine(cE) mY (cw st1.e1 (m:=(r:Int)) (by omega)) ?_;rintro _ w1 ⟨z,rfl,o,g,j⟩;have st2:=St.lr st1 j;have g:=g (by omega);obtain⟨i,rfl⟩:∃i:Nat,z=i:=⟨z.toNat,by omega⟩
 have hi:i<l.length:=by omega
 obtain⟨p,h⟩:=Ow.addr (As.gs st2.g1) (ae hi);refine WP .r (PV.dO mi h rfl rfl (by omega))<|WP .r (PV.ki fq (Ow.sP (As.gs st2.g1) (by omega) h (ae hi)) rfl rfl)<|(bF) ?_;exact⟨_,rfl,List.getElem_mem hi,st2⟩
theorem tx(p:St w M Z w [As.iG 67 d]):Calls prog 36 #[.pointer (some ⟨d,0,none⟩)] w fun e w'=>∃x:Change,e=.returned (.agg x.cells.toArray)∧(x.small∧x.value.size≤50)∧St w M Z w' [As.iG 67 d]:=by
 refine enter func36 rfl ntmps36 rfl<|?_;have aR:=p;refine(fy) aR fun b2 w1 G H st1=>?_;refine df ?_;have st2:=st1.p1;refine(cE) mY (cw st2.e1 (m:=4) (by omega)) ?_;rintro _ w2 ⟨z4,rfl,q,b,t⟩;have u:=St.lr st2 t;have b:=b (by omega);refine(fw) (gG (n:=z4)) u fun w3 I v=>?_;refine nx ?_;refine WL.go rfl (OX.aM (us:=words.map Value.string) Ff rfl rfl rfl rfl fun y w4 g z=>?_);have B:=St.mI (R:=RR.str) (E:=9) (k:=1) (a:=some ⟨y,0,none⟩) (n:=10) (c:=10) (xs:=words) v g.ext (Ow.flat z rfl (by simp) (by simp [words,Value.oneCell']) rfl (by decide)) (fun x h=>by simp [aZ] at h;subst h;exact g.ge);have i:=B.p1;refine(cE) Wu (yN i.e2 (by decide) (by decide)) ?_;rintro _ w5 ⟨s,rfl,j,C⟩;have F:=St.lr i C;refine WP .r (PV.br (us:=(Change.mk (bz z4) s).cells) P4 rfl rfl rfl)<|(dw) Fj F.p2 fun w6 J K o=>?_;refine(jt) xW o.b0<|?_;exact⟨⟨bz z4,s⟩,rfl,⟨⟨⟨z4,q,by omega,rfl⟩,Fz s j⟩,(show ∀s∈words,s.size≤50 by decide) s j⟩,o.drop.p1.drop⟩
theorem lA(C:St w M Z w [As.iG 67 d]) (hm:0≤m) (R:m≤1000):Calls prog 10 #[.pointer (some ⟨d,0,none⟩),.int .i64 m] w fun e w'=>∃a n c,∃l:List Change,e=.returned (.slice a n c)∧((l.length:Int)≤m∧∀x∈l,x.value.size≤50)∧(∀x∈l,x.small)∧St w M Z w' [As.iG 67 d,As.os RR.bS 63 3 a n c l]:=by
 refine enter func10 rfl ntmps10 rfl<|?_;have aR:=C;have st1:=aR.fD RR.bS 63 3;refine aQ ?_;refine cD ?_;have st2:=st1.p1;refine(cE) mY (cw st2.e1 (m:=m+1) (by omega)) ?_;rintro _ w1 ⟨z0,rfl,S,s,E⟩;have G:=St.lr st2 E;have s:=s (by omega);obtain⟨z,rfl⟩:∃z:Nat,z0=z:=⟨z0.toNat,by omega⟩;refine cD ?_;refine WC.bm (σ:=Nat × (List Change) × (Option Addr) × Nat × Nat) (db:=fun(i,l,g,b,j)=>[(0,.pointer (some ⟨d,0,none⟩)),(5,.slice g b j),(6,.int .i64 (i:Int))]) (F:=fun(i,l,g,b,j)=>[As.os RR.bS 63 3 g b j (l),As.iG 67 d]) (I:=fun(i,l,g,b,j)=>(l.length+i≤z)∧(∀x∈l,x.small)∧(∀x∈l,x.value.size≤50)∧True) (μ:=fun(i,l,g,b,j)=>i) (z,[],none,0,0) (G.p1) Sub.t (⟨by simp,by simp,by simp,trivial⟩)<|?_;rintro⟨i,l,g,b,j⟩ w2 o ⟨H,p,q,_⟩;simp only [CA,NA] at o H p q ⊢;have T:=((As.gs o.g0)).len;refine(aT) (fun g12=>?_) fun g12=>?_
 ·
  simp at g12
  refine eX ?_;have u:=o.p1;refine(cE) Wf (tx u.e1) ?_;rintro _ w3 ⟨x,rfl,v,J⟩;have K:=St.lr u J;refine WL.go rfl (OX.aM (us:=x.cells) Fe rfl rfl rfl rfl fun U w4 L N=>?_);have B:=K.du L N;refine WL.ap rfl rfl B.p2 (SR.cT (A:=fun _=>True) (x:=x) (As.gb B.g0) trivial rfl (by simp [Change.cells,Value.oneCell']) rfl) fun O P w5 V W Q=>?_;refine pU ?_;refine eb (i - 1,l++[x],O,(b+1),P) ⟨Q.p1.drop,⟨by simp;omega,fun y hy=>by rcases List.mem_append.1 hy with h | h;exact p y h;simp at h;subst h;exact v.1,fun y hy=>by rcases List.mem_append.1 hy with h | h;exact q y h;simp at h;subst h;exact v.2,trivial⟩⟩
 simp at g12
 refine(bF) ?_;exact⟨_,_,_,l,rfl,⟨by omega,q⟩,p,o.p1⟩
set_option maxHeartbeats 4000000 in
theorem wg(gn:St w M Z w [As.iG 67 d]):Calls prog 8 #[.pointer (some ⟨d,0,none⟩)] w fun e w'=>∃a n c,∃l:List aD,∃Z',e=.returned (.slice a n c)∧ao l∧2≤l.length∧l.length≤8∧dU w.heap.size Z Z'∧St w M Z' w' [As.iG 67 d,As.os RR.eF 71 4 a n c l]:=by
 refine enter func8 rfl ntmps8 rfl<|?_;have aR:=gn;have st1:=aR.fD RR.eF 71 4;refine aQ ?_;refine bJ ?_;have st2:=st1.p1;refine(cE) mY (cw st2.e1 (m:=7) (by omega)) ?_;rintro _ w1 ⟨z0,rfl,acv,JT,Zk⟩;have iO:=St.lr st2 Zk;have JT:=JT (by omega);obtain⟨z,rfl⟩:∃z:Nat,z0=z:=⟨z0.toNat,by omega⟩;refine df ?_;refine WC.bm (σ:=Nat × (List aD) × (Option Addr) × Nat × Nat) (db:=fun(i,l,C,q,G)=>[(0,.pointer (some ⟨d,0,none⟩)),(3,.slice C q G),(4,.int .i64 (i:Int))]) (F:=fun(i,l,C,q,G)=>[As.os RR.eF 71 4 C q G (l),As.iG 67 d]) (I:=fun(i,l,C,q,G)=>(l.length+i=z+2)∧True) (μ:=fun(i,l,C,q,G)=>i) (z+2,[],none,0,0) (iO.p1) Sub.t (⟨by simp,trivial⟩)<|?_;rintro⟨i,l,C,q,G⟩ w2 iL ⟨hlz,_⟩;simp only [CA,NA] at iL hlz ⊢;have T1:=((As.gs iL.g0)).len;refine(aT) (fun g16=>?_) fun g16=>?_
 ·
  simp at g16
  refine eX ?_;have S:=iL.p1;refine(cE) mY (cw S.e1 (m:=3) (by omega)) ?_;rintro _ w3 ⟨z1,rfl,acw,JU,qf⟩;have ke:=St.lr S qf;have JU:=JU (by omega);obtain⟨g,hg⟩:∃g:Bool,g=decide (z1=1):=⟨_,rfl⟩;refine nx ?_;refine WP .r (PV.br (us:=[.bool (decide (z1=1)),.slice none 0 0,.int .i64 0,.int .i64 0]) HH rfl rfl rfl)<|?_;refine WL.go rfl (OX.aM (us:=[.bool (decide (z1=1)),.slice none 0 0,.int .i64 0,.int .i64 0]) LD rfl rfl rfl rfl fun b24 w4 Zl Zm=>?_);have iP:=ke.du Zl Zm;refine WL.ap rfl rfl iP.p2 (SR.cT (A:=fun _=>True) (x:=begun g) (As.gb iP.g0) trivial rfl (by simp [Value.oneCell']) ⟨none,0,0,by rw [hg];rfl,SR.nil _ _ _ _⟩) fun a25 Zn w5 agw agx im=>?_;refine pU ?_;refine eb (i - 1,l++[begun g],a25,(q+1),Zn) ⟨im.p1.drop,⟨by simp;omega,trivial⟩⟩
 simp at g16
 refine aQ ?_;refine bJ ?_;refine WC.kl (σ:=Nat × (List aD) × (Nat→Prop)) (db:=fun(i,l1,W)=>[(0,.pointer (some ⟨d,0,none⟩)),(3,.slice C q G),(27,.int .i64 (q:Int)),(28,.int .i64 (i:Int))]) (F:=fun(i,l1,W)=>[As.iG 67 d,As.os RR.eF 71 4 C q G l1]) (I:=fun(i,l1,W)=>(i≤q)∧(jj l1 i)∧(dU w.heap.size Z W)∧True) (μ:=fun(i,l1,W)=>q - i) (Zf:=fun(i,l1,W)=>W) (0,l,Z) (iL.p1) Sub.t (⟨Nat.zero_le _,jj.start (by omega),dU.refl _ _,trivial⟩)<|?_;rintro⟨i,l1,W⟩ w3 S ⟨hi,Up,hZ,_⟩;simp only [CA,NA] at S hi Up hZ ⊢;have hl1:=((As.gs S.g1)).len;have hP8:=Up.1;refine(aT) (fun GH=>?_) fun GH=>?_
 ·
  simp at GH
  have T:i<l1.length:=by omega
  have Ul:=bE T;have Om:=sU T;refine aQ ?_;refine(fw) (pA (n:=(i:Int)) (Ow.rd (As.gs S.g1) (by omega))) S fun w4 s4 ke=>?_;refine pU ?_;obtain⟨bx,yD⟩:=Ow.addr (As.gs ke.g1) (ae T);refine cq ?_;refine WP .r (PV.dO gT yD rfl rfl (by omega))<|nx ?_;refine WP .r (PV.ki dm (Ow.ring (As.gs ke.g1) yD (by omega) T) rfl rfl)<|cq ?_;have iP:=ke;refine WC.ko (σ:=Int) [] (fun most=>[(0,.pointer (some ⟨d,0,none⟩)),(3,.slice C q G),(5,.int .i64 (i:Int)),(7,.int .i64 most),(27,.int .i64 (q:Int)),(28,.int .i64 (i:Int))]) (fun most=>[]) (fun most=>(most=ep l1 i)∧True) iP ?_ ?_
  ·
   refine(aT) (fun X=>?_) fun X=>?_
   ·
    have X:l1[i].ring=false:=by simpa using X
    refine cD ?_;exact pV ((block l1 (i:Int)).1) ⟨iP,⟨by unfold ep;rw [Ul,X];rfl,trivial⟩⟩
   have X:l1[i].ring=true:=by simpa using X
   refine nx ?_;exact pV ((block l1 (i:Int)).2) ⟨iP,⟨by unfold ep;rw [Ul,X];rfl,trivial⟩⟩
  rintro most w5 im ⟨JV,_⟩;simp only [CA,NA] at im JV ⊢;refine bJ ?_;refine WC.cN (m:=12) [] [6,9] [5,6,8,9,0,1,2,3,4,7,10,11] [(11,.blk 71 [.bool false,.slice none 0 0,.int .i64 0,.int .i64 0])] im (aq.cons M1<|aq.nil) mixed (by kernel_rfl) (by kernel_rfl) rfl<|(gH) (fun w6 Y2 Nq ju F4=>?_);simp only [CA,NA] at ju;have ek:=ju;refine OX.call mY rfl rfl ((cw ek.e1 (m:=4) (by omega)).mono ?_);rintro _ w7 ⟨z2,rfl,acx,JW,tb⟩;have dP:=St.lr ek tb;have JW:=JW (by omega);refine⟨_,rfl,tb.bS.size,_,rfl,_,_,_,dP,ay.k2<|ay.nil,aq.cons M1<|aq.nil,?_⟩;refine(gH) (fun w8 Sq F0 dp uQ=>?_);simp only [CA,NA] at dp;have cM:=dp;refine OX.call mY rfl rfl ((cw cM.e1 (m:=6) (by omega)).mono ?_);rintro _ w9 ⟨z3,rfl,acy,JX,oX⟩;have cS:=St.lr cM oX;have JX:=JX (by omega);refine⟨_,rfl,oX.bS.size,_,rfl,_,_,_,cS,ay.k2<|ay.nil,aq.cons M1<|aq.nil,?_⟩
  iterate 2 refine DG.a ?_
  refine DQ .r (fun K Zx Rx _ ob AZ=>PV.dO gT yD rfl rfl (by omega))<|?_;refine DG.a<|?_;refine DQ .r (fun K Zx Rx _ ob AZ=>PV.ki dm (Ow.ring (As.gs (ob.sv AZ).g0) yD (by omega) T) rfl rfl)<|?_;refine DG.a<|?_;refine DQ .r (fun K Zx Rx _ ob AZ=>PV.br (us:=[.bool l1[i].ring,.slice none 0 0,.int .i64 (1+z2),.int .i64 z3]) HH rfl rfl rfl)<|?_;refine DG.side (s:=.blk 71 [.bool false,.slice none 0 0,.int .i64 0,.int .i64 0]) rfl rfl rfl rfl rfl rfl (fun K Zx Rx yH ob=>OX.alloc HK rfl fun b wy Y hb=>⟨Y.ext.size,_,rfl,⟨b,rfl⟩,ob.du Y hb⟩)<|?_;rintro _ ⟨y,rfl⟩;refine(nD) ?_;intro jP B2 fG;simp only [CM,NM,CA,NA,jD.it] at fG;refine(dw) CY fG fun kF kI nj hP=>?_;refine WL.nil (EX.np ?_);refine(bq) dm hP.b0<|bJ ?_;have e7:=hP;refine WC.ko (σ:=Int × Int) [_] (fun(f0,c0)=>[(0,.pointer (some ⟨d,0,none⟩)),(3,.slice C q G),(5,.int .i64 (i:Int)),(7,.int .i64 most),(8,.pointer (some ⟨y,0,none⟩)),(27,.int .i64 (q:Int)),(28,.int .i64 (i:Int))]) (fun(f0,c0)=>[As.blk y 71 [.bool l1[i].ring,.slice none 0 0,.int .i64 f0,.int .i64 c0]]) (fun(f0,c0)=>(∀xs:List Ask,fB ⟨l1[i].ring,xs,f0,c0⟩=true)∧True) e7 ?_ ?_
  ·
   refine(aT) (fun Dn=>?_) fun Dn=>?_
   ·
    have Zo:d<kF.heap.size:=(As.iG 67 d).lt (e7.g1) d rfl;have II:y<kF.heap.size:=((As.gb e7.g0)).lt;have fX:=e7;have ei:=fX.conv (B:=As.Vg (ι:=Int) y 71 fun f=>[.bool l1[i].ring,.slice none 0 0,.int .i64 f,.int .i64 z3]) ⟨_,(As.gb fX.g0)⟩ (fun _ h=>h);have Zp:=ei.bA;have SH:=ei.hV;have SI:=ei.size;refine WC.D8 (m:=8) (fun j w w'=>match j with | 2=>fj (fun x=>x=d) w w' | 6=>fj (fun x=>x=y) w w' | _=>fj (fun _=>False) w w') (E:=bN [(0,PS kF.heap.size 3 6 [.int .i64 0,.int .i64 1,.int .i64 2,.int .i64 4,.int .i64 8,.int .i64 16]),(2,fun v _=>∃z:Nat,v=.int .i64 (z:Int)∧z<6),(3,fun v K=>∃b k:Nat,v=.pointer (some ⟨b,0+k*1,none⟩)∧k<6∧kF.heap.size≤b∧bM K b 3 [.int .i64 0,.int .i64 1,.int .i64 2,.int .i64 4,.int .i64 8,.int .i64 16]),(4,fun v _=>∃z:Int,v=.int .i64 z∧0≤z∧z≤65535),(6,fun _ K=>K.cell? ⟨y,2,none⟩=some (.int .i64 5))]) ei (jy (⟨⟨trivial,fun _ _ _ _ _ c h=>PS.st (fun x u=>by subst u;exact Zo) c h,fun _ _ _ _ _ c h=>PS.st (fun x u=>u.elim) c h,fun _ _ _ _ _ c h=>PS.st (fun x u=>u.elim) c h,fun _ _ _ _ _ c h=>PS.st (fun x u=>by subst u;exact II) c h,trivial⟩,⟨⟨fun _ _ _ _ _ _ h=>h,trivial,fun _ _ _ _ _ _ h=>h,fun _ _ _ _ _ _ h=>h,fun _ _ _ _ _ _ h=>h,trivial⟩,⟨⟨trivial,trivial,trivial,fun _ _ _ _ _ c ⟨b,k,h1,h2,h3,h4⟩=>⟨b,k,h1,h2,h3,(PB.get (PB.st (fun x u=>u.elim) c (v:=.pointer (some ⟨b,0,none⟩)) ⟨b,rfl,h3,h4⟩)).2⟩,fun _ _ _ _ _ c ⟨b,k,h1,h2,h3,h4⟩=>⟨b,k,h1,h2,h3,(PB.get (PB.st (fun x u=>by subst u;exact II) c (v:=.pointer (some ⟨b,0,none⟩)) ⟨b,rfl,h3,h4⟩)).2⟩,trivial⟩,⟨⟨fun _ _ _ _ _ _ h=>h,fun _ _ _ _ _ _ h=>h,trivial,trivial,fun _ _ _ _ _ _ h=>h,trivial⟩,⟨⟨fun _ _ _ _ _ c h=>by rw [← h];exact World.cell?_of_block (c.block y (by omega) (fun u=>u.elim)),trivial,fun _ _ _ _ _ c h=>by rw [← h];exact World.cell?_of_block (c.block y (by omega) (fun u=>u.elim)),fun _ _ _ _ _ c h=>by rw [← h];exact World.cell?_of_block (c.block y (by omega) (fun u=>u.elim)),trivial,trivial⟩,trivial⟩⟩⟩⟩⟩)) mixed (by kernel_rfl)<|?_;refine DW.e rfl rfl rfl rfl rfl (fun K J hF=>OX.aM (us:=[.int .i64 0,.int .i64 1,.int .i64 2,.int .i64 4,.int .i64 8,.int .i64 16]) LI rfl rfl rfl rfl fun b wy Y hb=>⟨⟨Nat.le_trans J.1 Y.ext.size,J.2.step Y.ext⟩,Y.ext.p0,_,rfl,_,rfl,Nat.le_trans J.1 Y.ge,hb⟩)<|?_;rintro _ wz _ ⟨b57,rfl,_,_⟩;refine nx ?_;refine DW.e rfl rfl rfl rfl rfl (fun K J hF=>OX.call mY rfl rfl ((cw (J.2.one (.tail _ (.head _))) (m:=6) (by omega)).mono ?_))<|?_
    ·
     rintro _ wy ⟨z,rfl,h0,h1,hy⟩;exact⟨_,rfl,⟨Nat.le_trans J.1 hy.bS.size,J.2.xD M1 hy⟩,hy.bS.mono (fun x _ u=>by obtain⟨A,hA,u⟩:=u;simp at hA;subst hA;exact u),_,rfl,⟨z.toNat,by congr 1;omega,by have:=h1 (by omega);omega⟩⟩
    rintro _ wz _ ⟨z13,rfl,z131⟩
    refine DW.e rfl rfl rfl rfl rfl (fun K J hF=>by
     obtain⟨_,⟨b1_,Gu,Fy,uK⟩,_⟩:=hF;simp only [Value.slice.injEq,Option.some.injEq,Addr.mk.injEq,and_true,true_and] at Gu;subst Gu;exact OX.pv (PV.ix (i:=z13) Ad rfl rfl z131) rfl ⟨J,fj.refl _ _,_,rfl,_,z13,rfl,z131,Fy,uK⟩) ?_
    rintro _ wz _ ⟨b3,k3,rfl,Im,Db,uK⟩
    refine DW.e rfl rfl rfl rfl rfl (fun K J hF=>by
     obtain⟨⟨b1_,k1_,Gy,Ms,_,Ii⟩,_⟩:=hF;simp only [Value.pointer.injEq,Option.some.injEq,Addr.mk.injEq,and_true] at Gy;obtain⟨rfl,XE⟩:=Gy
     obtain⟨z,hz,h0,h1⟩:∃z:Int,nth [.int .i64 0,.int .i64 1,.int .i64 2,.int .i64 4,.int .i64 8,.int .i64 16] (k3*1)=some (.int .i64 z)∧0≤z∧z≤65535:=by
      have h6:k3=0∨k3=1∨k3=2∨k3=3∨k3=4∨k3=5:=by omega
      rcases h6 with rfl | rfl | rfl | rfl | rfl | rfl <;> exact⟨_,rfl,by decide,by decide⟩
     exact OX.pv (PV.ld1 (o:=0) (j:=k3*1) aL (bM.range Ii) rfl hz) rfl ⟨J,fj.refl _ _,_,rfl,z,rfl,h0,h1⟩) ?_
    rintro _ wz _ ⟨z5,rfl,h5a,h5b⟩;refine nx ?_
    refine DW.e0 rfl rfl rfl rfl (fun K J hF=>by
     obtain⟨f,hb⟩:∃f:Int,bM K y 71 [.bool l1[i].ring,.slice none 0 0,.int .i64 f,.int .i64 z3]:=J.2.ok _ M0;exact OX.st (j:=2) Of hb rfl rfl (by simp [nth]) rfl rfl fun wy s hsz Fy=>⟨⟨Nat.le_trans J.1 s.size,J.2.same M0 (s.p.mono fun x _ u=>show x=y from by simpa using u) ⟨5,Fy⟩⟩,s.p.mono (fun x _ u=>by simpa using u),fun _=>bM.range Fy 2 _ rfl⟩) ?_
    rintro _ wz _ h6c;refine(cx) ?_;rintro pH ⟨SJ,eV⟩ ⟨MM,⟨_,⟨_,⟨_,⟨Xv,_⟩⟩⟩⟩⟩;have gX:=eV.ov (PS.pb Xv) Zp SH SI;have dT:=gX.p1
    have Q:=dT.conv (B:=As.blk y 71 [.bool l1[i].ring,.slice none 0 0,.int .i64 5,.int .i64 z3]) (by
     obtain⟨f,hb⟩:∃f:Int,bM pH y 71 [.bool l1[i].ring,.slice none 0 0,.int .i64 f,.int .i64 z3]:=dT.ok _ M0;have h1:=(bM.range hb 2 _ rfl).symm.trans MM
     have h2:f=5:=by simpa using h1
     subst h2;exact hb) (fun _ h=>h)
    refine WL.s1 Q fun qj _ O=>?_;refine nx ?_;exact pV (5,z5) ⟨O.p1.drop,⟨fun _=>by unfold fB;simp [Dn,h5a,h5b],trivial⟩⟩
   have Dn:l1[i].ring=false:=by simpa using Dn
   refine nx ?_;exact pV (1+z2,z3) ⟨e7,⟨fun _=>by unfold fB;simp [Dn];omega,trivial⟩⟩
  rintro⟨f0,c0⟩ pH fX ⟨IJ,_⟩;simp only [CA,NA] at fX IJ ⊢;refine df ?_;have ei:=fX.p1;refine(cE) mY (cw ei.e1 (m:=4) (by omega)) ?_;rintro _ qj ⟨z6,rfl,acA,JY,FT⟩;have eV:=St.lr ei FT;have JY:=JY (by omega);obtain⟨z,hz6⟩:∃z:Nat,z6=z:=⟨z6.toNat,by omega⟩;subst hz6;refine cD ?_;have gX:=eV.fD RR.ask 75 4;refine WC.bm (σ:=Nat × (List Ask) × (Option Addr) × Nat × Nat) (db:=fun(k,xs,R,U,Ba)=>[(0,.pointer (some ⟨d,0,none⟩)),(3,.slice C q G),(5,.int .i64 (i:Int)),(7,.int .i64 most),(8,.pointer (some ⟨y,0,none⟩)),(9,.int .i64 (k:Int)),(27,.int .i64 (q:Int)),(28,.int .i64 (i:Int))]) (F:=fun(k,xs,R,U,Ba)=>[As.os RR.ask 75 4 R U Ba (xs),As.blk y 71 [.bool l1[i].ring,.slice R U Ba,.int .i64 f0,.int .i64 c0],As.iG 67 d]) (I:=fun(k,xs,R,U,Ba)=>(∀x∈aZ R,w.heap.size≤x)∧(xs.length+k≤3)∧(∀(k:Nat) x,xs[k]?=some x→dY l1 i l1[i].ring k x=true)∧True) (μ:=fun(k,xs,R,U,Ba)=>k) (z,[],none,0,0) (gX.p1.p2.p2) Sub.t (⟨by simp [aZ],by simp;omega,by simp,trivial⟩)<|?_;rintro⟨k,xs,R,U,Ba⟩ yl dT ⟨Zq,hxk,Km,_⟩;simp only [CA,NA] at dT Zq hxk Km ⊢;have X3:=((As.gs dT.g0)).len;refine(aT) (fun Zr=>?_) fun Zr=>?_
  ·
   simp at Zr
   refine df ?_;have Q:=dT.p2;refine WC.ko (σ:=Nat × Bool) [_] (fun(H,cell)=>[(0,.pointer (some ⟨d,0,none⟩)),(3,.slice C q G),(5,.int .i64 (i:Int)),(7,.int .i64 most),(8,.pointer (some ⟨y,0,none⟩)),(9,.int .i64 (k:Int)),(10,.pointer (some ⟨H,0,none⟩)),(27,.int .i64 (q:Int)),(28,.int .i64 (i:Int))]) (fun(H,cell)=>[As.blk H 75 [.bool cell,.bool false,.int .i64 0,.int .i64 0],As.iG 67 d]) (fun(H,cell)=>(cell=false→most≠0)∧True) Q ?_ ?_
   ·
    refine bJ ?_;have O:=Q;refine(cE) mY (cw O.e1 (m:=3) (by omega)) ?_;rintro _ vS ⟨z7,rfl,acB,JZ,F7⟩;have e6:=St.lr O F7;have JZ:=JZ (by omega);refine(cG) (fun SK=>?_) (fun SK=>?_)
    ·
     refine cq ?_;refine WP .r (PV.br (us:=_) HI rfl rfl rfl)<|(fy) e6 fun H wN yo yp ff=>?_;refine(dw) Ae ff fun B3 vI oh ir=>?_;refine nx ?_;exact pV (H,true) ⟨ir,⟨(fun h=>by cases h),trivial⟩⟩
    refine cq ?_;refine WP .r (PV.br (us:=_) HI rfl rfl rfl)<|(fy) e6 fun H wN yo yp ff=>?_;refine(dw) Ae ff fun B3 C8 yX ir=>?_;refine nx ?_;exact pV (H,decide (most=0)) ⟨ir,⟨fun h=>by simpa using h,trivial⟩⟩
   rintro⟨H,cell⟩ vS O ⟨BR,_⟩;simp only [CA,NA] at O BR ⊢;refine(bq) dm O.b0<|bJ ?_;have e6:=O;refine WC.ko (σ:=Int) [] (fun m2=>[(0,.pointer (some ⟨d,0,none⟩)),(3,.slice C q G),(5,.int .i64 (i:Int)),(7,.int .i64 most),(8,.pointer (some ⟨y,0,none⟩)),(9,.int .i64 (k:Int)),(10,.pointer (some ⟨H,0,none⟩)),(11,.int .i64 m2),(27,.int .i64 (q:Int)),(28,.int .i64 (i:Int))]) (fun m2=>[]) (fun m2=>(m2=if cell then 4 else ep l1 i)∧True) e6 ?_ ?_
   ·
    refine(aT) (fun SM=>?_) fun SM=>?_
    ·
     refine cq ?_;exact pV (4) ⟨e6,⟨by rw [SM];rfl,trivial⟩⟩
    have SM:cell=false:=by simpa using SM
    refine nx ?_;exact pV (most) ⟨e6,⟨by rw [SM,JV];rfl,trivial⟩⟩
   rintro m2 wN ff ⟨GA,_⟩;simp only [CA,NA] at ff GA ⊢
   have Gw:1≤m2∧m2≤24:=by
    cases cell
    ·
     simp at GA;have:=BR rfl;omega
    simp at GA;omega
   refine df ?_;have ir:=ff.p1;refine(cE) mY (cw ir.e1 (m:=m2) (by omega)) ?_;rintro _ B3 ⟨z8,rfl,acC,J0,yw⟩;have jq:=St.lr ir yw;have J0:=J0 (by omega);refine nx ?_;refine WL.s1 jq.p1 fun Dh _ lX=>?_;refine cD ?_;have lB:=lX.p1;refine WC.ko (σ:=Bool) [_] (fun Uq=>[(0,.pointer (some ⟨d,0,none⟩)),(3,.slice C q G),(5,.int .i64 (i:Int)),(7,.int .i64 most),(8,.pointer (some ⟨y,0,none⟩)),(9,.int .i64 (k:Int)),(10,.pointer (some ⟨H,0,none⟩)),(11,.int .i64 m2),(27,.int .i64 (q:Int)),(28,.int .i64 (i:Int)),(92,.bool Uq)]) (fun Uq=>[As.iG 67 d]) (fun Uq=>True) lB ?_ ?_
   ·
    refine(bq) dm lB.b1<|(cG) (fun RH=>?_) (fun RH=>?_)
    ·
     refine nx ?_;have qm:=lB;refine(cE) mY (cw qm.e1 (m:=2) (by omega)) ?_;rintro _ Gz ⟨z9,rfl,acD,J1,SN⟩;have o4:=St.lr qm SN;have J1:=J1 (by omega);refine cq ?_;exact pV (decide (z9=0)) ⟨o4,trivial⟩
    refine df ?_;exact pV (false) ⟨lB,trivial⟩
   rintro Uq Gz qm _;simp only [CA,NA] at qm ⊢;refine nx ?_;have o4:=qm.p1;refine WC.ko (σ:=Int) [_,_] (fun L=>[(0,.pointer (some ⟨d,0,none⟩)),(3,.slice C q G),(5,.int .i64 (i:Int)),(7,.int .i64 most),(8,.pointer (some ⟨y,0,none⟩)),(9,.int .i64 (k:Int)),(10,.pointer (some ⟨H,0,none⟩)),(11,.int .i64 m2),(27,.int .i64 (q:Int)),(28,.int .i64 (i:Int))]) (fun L=>[As.blk H 75 [.bool cell,.bool false,.int .i64 L,.int .i64 0],As.iG 67 d]) (fun L=>(0≤L)∧(L<m2)∧True) o4 ?_ ?_
   ·
    refine(aT) (fun SO=>?_) fun SO=>?_
    ·
     refine fY ?_;have nf:=o4.p1;refine(cE) mY (cw nf.e1 (m:=(min m2 3)) (by omega)) ?_;rintro _ JH ⟨z10,rfl,Zs,F9,sy⟩;have V:=St.lr nf sy;have F9:=F9 (by omega);refine bJ ?_;refine WL.s1 V.p1 fun JS _ kG=>?_;refine nx ?_;exact pV (m2 - 1 - z10) ⟨kG,⟨by omega,by omega,trivial⟩⟩
    refine nx ?_;exact pV (z8) ⟨o4,⟨by omega,by omega,trivial⟩⟩
   rintro L JH nf ⟨hn0,hn1,_⟩;simp only [CA,NA] at nf hn0 hn1 ⊢;refine cq ?_;have V:=nf.p1;refine WC.ko (σ:=Bool) [_] (fun Ga=>[(0,.pointer (some ⟨d,0,none⟩)),(3,.slice C q G),(5,.int .i64 (i:Int)),(7,.int .i64 most),(8,.pointer (some ⟨y,0,none⟩)),(9,.int .i64 (k:Int)),(10,.pointer (some ⟨H,0,none⟩)),(11,.int .i64 m2),(27,.int .i64 (q:Int)),(28,.int .i64 (i:Int)),(114,.bool Ga)]) (fun Ga=>[As.iG 67 d]) (fun Ga=>(Ga=true→l1[i].ring=false∧xs.length≠0)∧True) V ?_ ?_
   ·
    refine(bq) dm V.b3<|(cG) (fun SP=>?_) (fun SP=>?_)
    ·
     refine(bq) iZ V.b3<|(cG) (fun lW=>?_) (fun lW=>?_)
     ·
      refine nx ?_;have kG:=V;refine(cE) mY (cw kG.e1 (m:=3) (by omega)) ?_;rintro _ JS ⟨z11,rfl,Zt,Gb,SQ⟩;have kH:=St.lr kG SQ;have Gb:=Gb (by omega);refine cq ?_;exact pV (decide (z11=1)) ⟨kH,⟨fun _=>⟨by simpa using SP,by have h0:=lW;simp at h0;omega⟩,trivial⟩⟩
     refine df ?_;exact pV (false) ⟨V,⟨(fun h=>by cases h),trivial⟩⟩
    refine lV ?_;exact pV (false) ⟨V,⟨(fun h=>by cases h),trivial⟩⟩
   rintro Ga JS kG ⟨hb,_⟩;simp only [CA,NA] at kG hb ⊢;refine nx ?_;have kH:=kG.p1;refine WC.ko (σ:=Bool × Int) [_,_] (fun(P,N)=>[(0,.pointer (some ⟨d,0,none⟩)),(3,.slice C q G),(5,.int .i64 (i:Int)),(7,.int .i64 most),(8,.pointer (some ⟨y,0,none⟩)),(9,.int .i64 (k:Int)),(10,.pointer (some ⟨H,0,none⟩)),(27,.int .i64 (q:Int)),(28,.int .i64 (i:Int))]) (fun(P,N)=>[As.blk H 75 [.bool cell,.bool P,.int .i64 L,.int .i64 N],As.iG 67 d]) (fun(P,N)=>(P=true→l1[i].ring=false∧xs.length≠0∧0≤N∧N<m2)∧(P=false→N=0)∧True) kH ?_ ?_
   ·
    refine(aT) (fun Bb=>?_) fun Bb=>?_
    ·
     refine cq ?_;have sD:=kH.p1;refine(cE) mY (cw sD.e1 (m:=m2) (by omega)) ?_;rintro _ Ns ⟨z12,rfl,Zu,Gc,SS⟩;have oe:=St.lr sD SS;have Gc:=Gc (by omega);refine nx ?_;refine WL.s1 oe.p1 fun Ot _ sE=>?_;refine nx ?_;refine WL.s1 sE fun SA _ Gd=>?_;refine nx ?_;exact pV (true,z12) ⟨Gd,⟨fun _=>⟨(hb Bb).1,(hb Bb).2,by omega,by omega⟩,(fun h=>by cases h),trivial⟩⟩
    refine nx ?_;exact pV (false,0) ⟨kH,⟨(fun h=>by cases h),fun _=>rfl,trivial⟩⟩
   rintro⟨P,N⟩ Ns sD ⟨hpk,Pc,_⟩;simp only [CA,NA] at sD hpk Pc ⊢;refine(bq) iZ sD.b3<|(bf) mh sD.b0<|?_;refine WL.go rfl (OX.aM (us:=(Ask.mk cell P L N).cells) Ab rfl rfl rfl rfl fun Dp Ot SU SX=>?_);have oe:=sD.du SU SX;have hzs:=oe.size;refine WL.ap rfl rfl oe.p3 (SR.cT (A:=fun _=>True) (x:=Ask.mk cell P L N) (As.gb oe.g0) trivial rfl (by simp [Ask.cells,Value.oneCell']) rfl) fun a124 SY SA SZ acH sE=>?_;refine nx ?_;refine WL.s1 sE.p4 fun Y3 _ Gd=>?_;refine jg ?_;refine eb (k - 1,xs++[⟨cell,P,L,N⟩],a124,(U+1),SY) ⟨Gd.p2.drop.p2.drop.p1,⟨fun x u=>(SZ x u).elim (Zq x) (Nat.le_trans hzs),by simp;omega,Cy Km (KC (x:=⟨cell,P,L,N⟩) GA hn0 hn1 hpk Pc),trivial⟩⟩
  simp at Zr
  refine df ?_;have IJ:=IJ xs;have Q:=dT.dZ (by omega);have MY:=hZ.trans (dU.nA (F:=fun x=>x∈aZ R) Zq) (Nat.le_refl _);refine(bf) uE Q.b1<|?_;refine WP .r (PV.dO gT yD rfl rfl (by omega))<|?_;refine WL.go rfl (OX.OY (i:=i) CY (As.gs Q.g3) yD T rfl rfl rfl (by simp [Value.oneCell']) ⟨l1[i].ring,xs,f0,c0⟩ ⟨R,U,Ba,rfl,(As.gr Q.g0)⟩ fun vS s8 h8=>?_);have O:=Q.p3.lT s8 h8 (fun x h=>.inl h);refine eX ?_;refine eb (i+1,l1.set i ⟨l1[i].ring,xs,f0,c0⟩,_) ⟨O.p1.drop.p1.drop.p1,⟨by omega,jj.set Up T (bE T).symm ⟨show xs.length≤6 by omega,Km,IJ⟩,MY,trivial⟩⟩
 simp at GH
 have Iz:i=l1.length:=by omega
 subst Iz;have hRk:=Up.ok;refine(bF) ?_;exact⟨_,_,_,l1,_,rfl,hRk,by omega,by omega,hZ,S⟩
set_option maxHeartbeats 400000
theorem sF{p:Key→Bool}(q:CF prog f) (hl:Rd RR.key 2 Z w a n c l) (s:∀w1,aK [] w w1→∀x∈l,Calls prog f #[x.val,cap] w1 fun e w'=>e=.returned (.bool (p x))∧aK [] w1 w'):Calls prog 112 #[.slice a n c,.func (.func f) #[] #[cap]] w fun e w'=>∃j:Int,e=.returned (.int .i64 j)∧ug l p j∧aK [] w w':=by
 have hlen:=hl.len;have hle:=hl.le;refine enter func112 rfl ntmps112 rfl<|?_;have aR:=St.s0 w;refine aQ ?_;refine bJ ?_;refine WC.bm (σ:=Nat) (db:=fun i=>[(0,.slice a n c),(1,.func (.func f) #[] #[cap]),(7,.int .i64 (n:Int)),(8,.int .i64 (i:Int))]) (F:=fun i=>[]) (I:=fun i=>(i≤n)∧(∀j x,j<i→l[j]?=some x→p x=false)∧True) (μ:=fun i=>n - i) (0) (aR) Sub.t (⟨by omega,fun j x h=>by omega,trivial⟩)<|?_;rintro i w1 st1 ⟨hi,b,_⟩;simp only [CA,NA] at st1 hi b ⊢;refine(aT) (fun g9=>?_) fun g9=>?_
 ·
  simp at g9
  have g:i<l.length:=by omega
  refine lV ?_;obtain⟨C,E,G,u,H,o,v,J⟩:=Rd.at hl g;have o:=RR.bT o;subst o;refine cD ?_;refine WP .r (PV.dO dn u rfl rfl (by omega))<|(bf) ak (aW v (St.cg st1) (by simp))<|?_;refine WL.go rfl (OX.nt q rfl rfl rfl ((Calls.cap (s _ (St.cg st1) l[i] (List.getElem_mem g))).mono ?_));rintro _ w2 ⟨rfl,s2⟩;refine⟨_,rfl,?_⟩;have st2:=st1.step s2;refine(aT) (fun g16=>?_) fun g16=>?_
  ·
   refine(bF) ?_;exact⟨_,rfl,.inl ⟨i,_,ae g,g16,b,rfl⟩,(St.cg st2)⟩
  have g16:p l[i]=false:=by simpa using g16
  refine eX ?_;refine eb (i+1) ⟨st2,⟨by omega,cp g b (by simpa using g16),trivial⟩⟩
 simp at g9
 have y:∀x∈l,p x=false:=fun x z=>by obtain⟨j,B,rfl⟩:=List.getElem_of_mem z;exact b j _ (by omega) (ae B)
 refine(bF) ?_;exact⟨_,rfl,.inr ⟨y,rfl⟩,(St.cg st1)⟩
theorem og{p:Key→Bool}(b:CF prog f) (hl:Rd RR.key 2 Z w a n c l) (g:∀w1,aK [] w w1→∀x∈l,Calls prog f #[x.val,cap] w1 fun e w'=>e=.returned (.bool (p x))∧aK [] w1 w'):CR prog 70 #[.slice a n c,.func (.func f) #[] #[cap]] w (.bool (l.any p)):=by
 refine enter func70 rfl ntmps70 rfl<|?_;have aR:=St.s0 w;refine(cE) Fp (sF (w:=w) b (hl.ext (St.cg aR)) (fun w1 h1=>g w1 (aK.trans (St.cg aR) h1))) ?_;rintro _ w1 ⟨j,rfl,h,s1⟩;have st1:=aR.step s1;have i:=h.any;refine(bF) ?_;exact⟨by rw [i],(St.cg st1)⟩
set_option maxHeartbeats 400000
theorem my(hu:eE A w ar r cr aa) (hi:Rd RR.aA 4 Z w a1 n1 e1 x.ab) (hr:Rd RR.fl 8 Z w a2 n2 e2 x.ah) (g:ao aa) (h:fR x) (hk:eu aa k=true):CR prog 46 #[.slice ar r cr,.agg (x.row a1 n1 e1 a2 n2 e2).toArray,k.val] w (.int .i64 0):=by
 refine enter func46 rfl ntmps46 rfl<|?_;have aR:=St.s0 w;refine(dy) aR fun b4 w1 t v st1=>?_;refine(dy) st1 fun b5 w2 y z st2=>?_;refine(cE) Qe (pE (hu.ext (St.cg st2))) ?_;rintro _ w3 ⟨bv,rfl,i,j⟩;have b:=st2.step j;obtain rfl:bv=true:=i.2 g;refine(aT) (fun g7=>?_) fun g7=>?_
 ·
  exact et g7
 ·
  refine(bf) bu b.b1<|(cE) LX (kc (x:=x) (hi.ext (St.cg b)) (hr.ext (St.cg b))) ?_;rintro _ w4 ⟨o,rfl,p,q⟩;have e:=b.step q;obtain rfl:o=true:=p.2 h;refine(aT) (fun g11=>?_) fun g11=>?_
  ·
   exact et g11
  refine(bf) ak e.b0<|?_;refine WL.c1 (u:=.bool true) (pG (k:=k) (hu.ext (St.cg e))) (by rw [hk]) e fun w5 B s=>?_;refine cD ?_;refine WC.fA rfl<|(bF) ?_;exact⟨rfl,(St.cg s)⟩
 -- C E F
theorem mz(t:St w M Z w []) (ht:jM prog Z w) (hu:Rd RR.eF 4 Z w ar r cr aa) (hi:Rd RR.aA 4 Z w a1 n1 e1 x.ab) (hr:Rd RR.fl 8 Z w a2 n2 e2 x.ah) (h:ao aa) (u:fR x) (hk:eB aa k) (v:eu aa k=true):Calls prog 17 #[.slice ar r cr,.agg (x.row a1 n1 e1 a2 n2 e2).toArray,k.val] w fun e w'=>e=.returned (.tuple #[.string (valOf aa x.ab k),.int .i64 0])∧St w M Z w' []:=by
 refine enter func17 rfl ntmps17 rfl<|?_;have aR:=t;have st1:=aR.fr hu;have st2:=st1.fr hi;have y:=st2.fr hr;have z:=y.fact (B:=As.fz (FZ.Ej prog)) ht (fun _ C=>C);refine(dy) z fun b4 w1 I J E=>?_;refine(dy) E fun b5 w2 K L b=>?_;refine(bf) bu b.b1<|(bf) ak b.b0<|(fw) (my (As.gr b.g5) (As.gr b.g4) (As.gr b.g3) h u v) b fun w3 N F=>?_;refine(aT) (fun g14=>?_) fun g14=>?_
 ·
  exact et g14
 refine cq ?_;refine WC.cN (m:=5) [] [2,4] [0,1,2,3,4] [] F (aq.k4 M0 M1 M2 M3<|aq.cons M4<|aq.cons M5<|aq.nil) mixed (by kernel_rfl) (by kernel_rfl) rfl<|(ma) bu SV.g1<|(gH) (fun w4 O P i Q=>?_);simp only [CA,NA] at i;have j:=i;refine OX.call LZ rfl rfl ((mZ (x:=x) j.e0).mono ?_);rintro _ w5 ⟨d1,d2,d3,rfl,o⟩;have G:=St.lr j o;refine⟨_,rfl,o.bS.size,_,rfl,_,_,_,G,ay.k4<|ay.k4<|ay.cons<|ay.nil,aq.k4 M3 M4 M5 M6<|aq.cons M7<|aq.cons M8<|aq.nil,?_⟩;refine(ma) ak SV.g0<|(gH) (fun w6 R S p T=>?_);simp only [CA,NA] at p;have g:=p.p1.p1;refine OX.call C1 rfl rfl ((oW (x:=x) (D:=⟨ar,a1,a2,r,cr,n1,e1,n2,e2,d2,d3,d1⟩) h hk _ _ _ [] g.e2 ⟨(As.gr g.g8),(As.gr g.g7),(As.gr g.g6),(As.gf g.g5)⟩ aJ.nil).mono ?_);rintro _ w7 ⟨dr,rfl,U,V,q⟩;have H:=St.lr g q;refine⟨_,rfl,q.bS.size,_,rfl,_,_,_,H,ay.k4<|ay.k4<|ay.cons<|ay.nil,aq.k4 M3 M4 M5 M6<|aq.cons M7<|aq.cons M8<|aq.nil,?_⟩;refine(nD) ?_;intro W X s;simp only [CM,NM,CA,NA,jD.it] at s;refine bJ ?_;refine WL.nil (EX.np ?_);refine(tV) ?_;exact⟨rfl,s.k0⟩
set_option maxHeartbeats 400000
set_option maxHeartbeats 400000
theorem St.shrink{w0:World}{Z':Nat→Prop}(h:St w0 M Z' w []) (b:∀x,Z x→Z' x):St w0 M Z w []:=⟨h.bS,fun x e=>h.hV x (b x e),by simp,by simp,.nil,by simp⟩
set_option maxHeartbeats 400000
set_option maxHeartbeats 400000
theorem qn(hl:Rd RR.key 2 A w a n c l) (u:l.Nodup):CR prog 86 #[.slice a n c] w (.slice a n c):=by
 have hle:=SR.le hl;have hlen:=SR.len hl;refine enter func86 rfl ntmps86 rfl<|?_;have aR:=St.s0 w;refine aQ ?_;refine(aT) (fun g8=>?_) fun g8=>?_
 ·
  skip
  refine(bF) ?_;exact⟨rfl,(St.cg aR)⟩
 simp at g8
 refine pU ?_;refine WC.bm (σ:=Nat) (db:=fun i=>[(0,.slice a n c),(3,.int .i64 (i:Int))]) (F:=fun i=>[]) (I:=fun i=>(1≤i)∧(i≤n)∧True) (μ:=fun i=>n - i) (1) (aR) Sub.t (⟨Nat.le_refl _,by omega,trivial⟩)<|?_;rintro i w1 st1 ⟨hi,eJ,_⟩;simp only [CA,NA] at st1 hi eJ ⊢;refine(aT) (fun g13=>?_) fun g13=>?_
 ·
  simp at g13
  have j:i<l.length:=by omega
  have o:i - 1<l.length:=by omega
  obtain⟨E,G,H,v,_,g,y,_⟩:=Rd.at hl j;have g:=RR.bT g;subst g;obtain⟨J,K,L,z,_,h,B,_⟩:=Rd.at hl o;have h:=RR.bT h;subst h
  have C:l[i]≠l[i - 1]:=fun e=>by
   exact List.pairwise_iff_getElem.1 u (i - 1) i o j (by omega) e.symm
  refine df ?_;have N:=st1.bA;refine WC.dS (m:=9) st1 mixed<|bJ ?_;refine DP .r (fun _ b=>PV.dO dn (i:=i) v rfl rfl (by omega))<|DP .r (fun _ b=>VA ak (aW y (St.cg b.2) (by simp)) .r)<|bJ ?_;refine DP .r (fun _ b=>(PV.sub rfl rfl (by omega) (by omega)).cast (v':=.int .i64 ((i - 1:Nat):Int)) (congrArg (Value.int .i64) (by omega)))<|DP .r (fun _ b=>PV.dO dn (i:=i - 1) z rfl rfl (by omega))<|DP .r (fun _ b=>VA ak (aW B (St.cg b.2) (by simp)) .r)<|(cx)<|?_;rintro w2 ⟨O,st2⟩ _;refine WP .r (PV.Ce eI (p:=l[i]) (q:=l[i - 1]) rfl rfl)<|(aT) (fun s=>?_) fun s=>?_
  ·
   exact absurd s (by simpa using C)
  skip
  refine jg ?_;refine eb (i+1) ⟨st2,⟨by omega,by omega,trivial⟩⟩
 simp at g13
 refine(bF) ?_;exact⟨rfl,(St.cg st1)⟩
theorem sG(s:St w M Z w []) (hl:Rd RR.key 2 Z w a n c l) (h0:l≠[]) (h:l.Nodup) (hn:l.length≤1000000):Calls prog 45 #[.slice a n c] w fun e w'=>∃i j o,∃l':List Key,e=.returned (.slice i j o)∧KH l'∧l'.Perm l∧St w M Z w' [As.os RR.key 43 2 i j o l']:=by
 refine enter func45 rfl ntmps45 rfl<|?_;have aR:=s;have st1:=aR.fr hl;refine jg ?_;have st2:=st1;refine(cE) Qp (mw st2.e0 (As.gr st2.g0) hn) ?_;rintro _ w1 ⟨b1,b2,c1,rfl,t⟩;have u:=St.lr st2 t;refine fY ?_;have p:=u;refine(cE) WO (yL p.e1 h0 hn) ?_;rintro _ w2 ⟨rfl,g,b,v,y⟩;have q:=St.lr p y;have E:g.length=l.length:=b.length_eq;have z:g.Nodup:=b.nodup_iff.2 h;have B:=Hh b h v;refine(fw) (qn (Ow.rd (As.gs q.g0) (by omega)) z) q fun w3 F C=>?_;refine(bF) ?_;exact⟨b1,_,c1,g,rfl,B,b,C.p1.drop⟩
theorem tz{aa:List aD}(gq:n≤99):CR prog 72 #[.slice a r c,(bz (n:Int)).val] w (.bool true):=by
 have b:bz (n:Int)=⟨30,itoa n⟩:=by unfold bz;rw [if_neg (by omega)]
 have e:(bz (n:Int)).kind=30:=by rw [b]
 have g:(bz (n:Int)).text=itoa n:=by rw [b]
 refine enter func72 rfl ntmps72 rfl<|?_;have aR:=St.s0 w;refine(dy) aR fun b3 w1 p q st1=>?_;refine cD ?_;have s:=st1.bA;refine WC.cH (m:=12) (E:=bN [(1,fun v _=>v=.bool true),(4,fun v _=>v=.bool false)]) st1 (aU (⟨fun _ _ _ _ _ _ _ h=>h,⟨fun _ _ _ _ _ _ _ h=>h,trivial⟩⟩)) mixed (by kernel_rfl)<|(fe) ak St.g0<|?_;refine DW.c0 (fun i j o=>fH (k:=bz (n:Int)) (by omega) g gq)<|(fe) ak St.g0<|?_;refine DW.c1 (u:=.bool false) (fun i j o=>lz (k:=bz (n:Int))) (by rw [show(decide ((bz (n:Int)).kind=31) || decide ((bz (n:Int)).kind=32))=false by(rw [e];simp)])<|(cx) ?_;rintro w2 ⟨t,st2⟩ ⟨_,⟨_,_⟩⟩;refine(bF) ?_;exact⟨by simp,(St.cg st2)⟩
theorem tA{B:Nat→Prop}(hk:eB aa k) (hr:eE B w a r c aa):CR prog 72 #[.slice a r c,k.val] w (.bool true):=by
 cases hk with
 | cell h=>exact tz (aa:=aa) h
 | eF hi h=>exact tq hi h hr
set_option maxHeartbeats 400000
theorem sH(o:St w M Z w [As.blk D.s 139 (D.cells x),As.map Key.val D.m ml,As.map Key.val D.q ql]) (y:(D.F prog aa x).p Z w) (hm:aJ aa x.ab ml) (hk:aw k=true) (h:aX ql k=none):Calls prog 48 #[.pointer (some ⟨D.s,0,none⟩),k.val] w fun e w'=>∃(a:Option Addr) (n c:Nat) (i:List (Key × Value)),e=.returned (.slice a n c)∧aJ aa x.ab i∧St w M Z w' [As.blk D.s 139 (D.cells x),As.map Key.val D.m i,As.map Key.val D.q ql,As.os RR.key 43 2 a n c (cX aa x.ab k)]:=by
 refine enter func48 rfl ntmps48 rfl<|?_;have aR:=o;have st1:=aR.fact (B:=As.fz (D.F prog aa x)) y (fun _ z=>z);have st2:=st1.fD RR.key 43 2;refine(dy) st2 fun b3 w1 E G j=>?_;refine df ?_;have H:=j.bA;refine WC.dS (m:=10) j mixed<|(gp) Ac St.g3<|(fe) ak St.g0<|?_;refine DP .r (fun _ C=>PV.kP cB rO BZ (As.gm C.2.g5) rfl rfl)<|(cx) ?_;rintro w2 ⟨I,b⟩ _;refine cD ?_;refine WC.dz (t:=23) (v:=.bool true) b ?_<|?_
 ·
  refine(cG) (fun g20=>?_) (fun g20=>?_)
  ·
   exact absurd g20 (by rw [h];simp)
  skip
  refine(bf) ak b.b0<|?_;refine WL.c1 (u:=.bool true) (cJ (k:=k)) (by rw [hk]) b fun w3 J g=>?_;exact(bY) (tG g20) (g)
 intro w3 g;refine(aT) (fun g23=>?_) fun g23=>?_
 ·
  refine(bF) ?_;exact⟨none,0,0,ml,by rw [h];rfl,hm,by rw [show cX aa x.ab k=[] from if_pos hk];exact g.drop.p1.drop.p3.p3.p3⟩
 exact et g23
set_option maxHeartbeats 1600000 in
theorem sJ{i:Nat}(gn:St w M Z w [As.blk D.s 139 (D.cells x),As.map Key.val D.m ml,As.map Key.val D.q ql]) (hf:(D.F prog aa x).p Z w) (hm:aJ aa x.ab ml) (o:ao aa) (hi:i<aa.length) (hq:aX ql (aH aa (i:Int))=none):Calls prog 48 #[.pointer (some ⟨D.s,0,none⟩),(aH aa (i:Int)).val] w fun e w'=>∃v:Value,∃(a:Option Addr) (n c:Nat) (kZ:List (Key × Value)),e=.returned (.slice a n c)∧aJ aa x.ab kZ∧St w M Z w' [As.blk D.s 139 (D.cells x),As.map Key.val D.m kZ,As.map Key.val D.q (bZ ql (aH aa (i:Int)) v),As.os RR.key 43 2 a n c (cO aa x.ab i)]:=by
 have Cs:=o.len
 have gq:i≤99:=by omega
 obtain⟨k,hk⟩:∃k,aH aa (i:Int)=k:=⟨_,rfl⟩;have eJ:=bX hi gq;have ha6:=iC o hi;rw [hk] at eJ hq ⊢;refine enter func48 rfl ntmps48 rfl<|?_;have aR:=gn;have st1:=aR.fact (B:=As.fz (D.F prog aa x)) hf (fun _ hx=>hx);refine(dy) st1 fun b3 w1 DB uK st2=>?_;refine df ?_;have T5:=st2.bA;refine WC.dS (m:=10) st2 mixed<|(gp) Ac St.g2<|(fe) ak St.g0<|?_;refine DP .r (fun _ j=>PV.kP cB rO BZ (As.gm j.2.g4) rfl rfl)<|(cx) ?_;rintro w2 ⟨yi,U⟩ _;refine cD ?_;refine WC.dz (t:=23) (v:=.bool false) U ?_<|?_
 ·
  refine(cG) (fun g20=>?_) (fun g20=>?_)
  ·
   exact absurd g20 (by rw [hq];simp)
  skip
  refine(bf) ak U.b0<|?_;refine WL.c1 (u:=.bool false) (cJ (k:=k)) (by rw [eJ]) U fun w3 s3 V=>?_;exact(bY) (tG g20) (V)
 intro w3 V;refine(aT) (fun g23=>?_) fun g23=>?_
 ·
  exact et g23
 refine lV ?_;have kJ:=V.fD RR.str 9 1;have ke:=kJ.fD RR.key 43 2;refine bJ ?_;refine WC.bm (σ:=Nat × (List (Key × Value)) × (List ByteArray) × (List Key) × (Option Addr) × Nat × Nat × (Option Addr) × Nat × Nat) (db:=fun(n,y,acc,out,J,z,K,L,C,N)=>[(0,.pointer (some ⟨D.s,0,none⟩)),(3,.pointer (some ⟨b3,0,none⟩)),(7,.slice J z K),(8,.slice L C N)]) (F:=fun(n,y,acc,out,J,z,K,L,C,N)=>[As.os RR.str 9 1 J z K (acc),As.os RR.key 43 2 L C N (out),As.map Key.val D.m y]) (I:=fun(n,y,acc,out,J,z,K,L,C,N)=>(n≤cy aa i)∧(aJ aa x.ab y)∧(acc=(dG (ca aa k) (valOf aa x.ab) n).2)∧(out=(dG (ca aa k) (valOf aa x.ab) n).1)∧True) (μ:=fun(n,y,acc,out,J,z,K,L,C,N)=>cy aa i - n) (0,ml,[],[],none,0,0,none,0,0) (ke.p5.p1.p2) Sub.t (⟨by omega,hm,rfl,rfl,trivial⟩)<|?_;rintro⟨n,y,acc,out,J,z,K,L,C,N⟩ w4 G ⟨hn,W,Q,R,_⟩;simp only [CA,NA] at G hn W Q R ⊢;have ta:=((As.gs G.g0)).len;have T1:=((As.gs G.g1)).len
 have uL:acc.length=n:=by rw [Q];exact(ed _ _ n).2
 have agI:out.length=n:=by rw [R];exact(ed _ _ n).1
 obtain⟨t,DC⟩:∃t,bB aa k acc=t:=⟨_,rfl⟩
 have O:ca aa k acc=t:=by rw [← DC,← hk,ey hi gq]
 refine bJ ?_;have GB:=G.bA;have MW:=G.hV;have MX:=G.size;refine WC.cH (m:=8) (E:=bN [(6,fun v _=>v=t.val),(7,PB w4.heap.size 142 [.bool false,.string ⟨#[]⟩,.int .i64 0,.string ⟨#[]⟩])]) G (aU (⟨fun _ _ _ _ _ _ _ h=>h,⟨fun _ _ _ _ _ _ c h=>PB.st GB c h,trivial⟩⟩)) mixed (by kernel_rfl)<|(gp) ky St.g5<|(fe) ak St.g3<|nx ?_;refine DW.c1 (fun X j hF=>eh (k:=k) (SD.ht (As.gf j.2.g4)) (SD.hu (As.gf j.2.g4)) (Ow.rd (As.gs j.2.g0) (by omega)) o.hb (hk ▸ ee hi gq)) (by rw [DC])<|?_;refine DW.e rfl rfl rfl rfl rfl (fun X j hF=>OX.alloc nV rfl fun b wy g hb=>⟨⟨Nat.le_trans j.1 g.ext.size,j.2.step g.ext⟩,g.ext.p0,_,rfl,_,rfl,Nat.le_trans j.1 g.ge,hb⟩)<|?_;rintro _ wz _ ⟨b9,rfl,_,_⟩;refine(cx) ?_;rintro w5 ⟨vT,im⟩ ⟨Ik,⟨_,_⟩⟩;have ju:=im.ov Ik GB MW MX;refine(dw) fc ju fun w6 kI nj S=>?_;refine(bq) dm S.b0<|(aT) (fun P=>?_) fun P=>?_
 ·
  have Dw:n=cy aa i:=by
   rcases Nat.lt_or_ge n (cy aa i) with h | h
   ·
    obtain⟨a,h1,_⟩:=da o hi (ai:=acc) (by omega);rw [hk,O] at h1;rw [h1] at P;cases P
   omega
  refine nx ?_;have Mn:=S.bA;refine WC.dS (m:=6) S mixed<|(gp) Ac St.g6<|(fe) ak St.g4<|(cx) ?_;rintro w7 ⟨vN,H⟩ _;refine WL.go rfl (OX.put cB rO (As.gm H.g7) rfl rfl rfl fun w8 AB vO=>?_);have Y:=H.p7.hJ AB vO;refine aQ ?_;refine(bF) ?_;exact⟨_,_,_,_,y,rfl,W,by have h:out=cO aa x.ab i:=(by rw [R,Dw];unfold cO;rw [hk]);rw [← h];exact Y.p3.p1.p4.p7.k4⟩
 have Dw:n<cy aa i:=by
  rcases Nat.lt_or_ge n (cy aa i) with h | h
  ·
   exact h
  have h1:=eU o hi (ai:=acc) (by omega);rw [hk,O] at h1;rw [h1] at P;cases P
 obtain⟨a,wM,yZ,_⟩:=da o hi (ai:=acc) (by omega);rw [hk,O] at wM
 have BH:t.ask=a:=by rw [wM]
 have Zv:eB aa t.ask:=by
  rw [BH]
  rcases yZ with⟨n,h1,rfl⟩ | ⟨m,h1,rfl,_⟩
  ·
   exact .cell (by omega)
  exact .eF h1 (by omega)
 refine bJ ?_;refine WC.cN (m:=12) [] [4,9,11] [0,1,2,3,4,6,7,8,9,5,10,11] [(3,.sl 43 1 t.ask.cells),(10,.sl 9 1 [.string (valOf aa x.ab t.ask)])] S (aq.k4 M0 M4 M5 M7<|aq.nil) mixed (by kernel_rfl) (by kernel_rfl) rfl<|?_
 iterate 2 refine DG.a ?_
 refine(G1) ak SV.g0<|?_;refine DG.side (s:=.sl 43 1 t.ask.cells) rfl rfl rfl rfl rfl rfl (fun X Zx Rx yH ob=>OX.aM (us:=t.ask.cells) cP rfl rfl rfl rfl fun b wy g hb=>⟨g.ext.size,_,rfl,⟨b,rfl⟩,ob.du g hb⟩)<|?_;rintro _ ⟨b44,rfl⟩;refine(gH) (fun w7 FY sw H jc=>?_);simp only [CA,NA] at H;refine OX.qG oK rfl rfl rfl (As.gs H.g2) (SR.cT (A:=fun _=>True) (x:=t.ask) (show bM _ b44 _ _ from H.ok _ (.tail _ (.tail _ (.tail _ (.tail _ (.tail _ (.tail _ (.tail _ (.tail _ (jc _ (.head _))))))))))) trivial rfl (by simp [Key.cells,Value.oneCell']) rfl) (by omega) (by omega) (Nat.zero_le _) fun a45 RF w8 Zw s45 RG Xe=>?_;have Y:=H.p2.lT s45 Zw RG;refine⟨s45.size,_,rfl,_,_,_,Y,ay.k4<|ay.k4<|ay.nil,aq.k4 M1 M4 M5 M7<|aq.nil,?_⟩
 iterate 2 refine DG.a ?_
 refine(G1) ak SV.g0<|(gH) (fun w9 Sq F0 cM uQ=>?_);simp only [CA,NA] at cM;have cS:=cM.p3.p6;refine OX.call C1 rfl rfl ((oW o Zv _ _ _ _ cS.e2 (As.gf cS.g6) W).mono ?_);rintro _ jP ⟨dr,rfl,Dd,td,mr⟩;have fG:=St.lr cS mr;refine⟨_,rfl,mr.bS.size,_,rfl,_,_,_,fG,ay.k4<|ay.k4<|ay.nil,aq.k4 M3 M5 M6 M7<|aq.nil,?_⟩;refine DG.a<|?_;refine DG.side (s:=.sl 9 1 [.string (valOf aa x.ab t.ask)]) rfl rfl rfl rfl rfl rfl (fun X Zx Rx yH ob=>OX.aM (us:=[.string (valOf aa x.ab t.ask)]) ik rfl rfl rfl rfl fun b wy g hb=>⟨g.ext.size,_,rfl,⟨b,rfl⟩,ob.du g hb⟩)<|?_;rintro _ ⟨b51,rfl⟩;refine(gH) (fun kF agK acJ T Nx=>?_);simp only [CA,NA] at T;refine OX.qG Jj rfl rfl rfl (As.gs T.g4) (SR.cT (A:=fun _=>True) (x:=valOf aa x.ab t.ask) (show bM _ b51 _ _ from T.ok _ (.tail _ (.tail _ (.tail _ (.tail _ (.tail _ (.tail _ (.tail _ (.tail _ (Nx _ (.head _))))))))))) trivial rfl (by simp [Value.oneCell']) rfl) (by omega) (by omega) (Nat.zero_le _) fun a52 Zy pH Zz s52 ZA agM=>?_;have e7:=T.p4.lT s52 Zz ZA;refine⟨s52.size,_,rfl,_,_,_,e7,ay.k4<|ay.k4<|ay.nil,aq.k4 M4 M5 M6 M7<|aq.nil,?_⟩;refine(nD) ?_;intro qj uN fX;simp only [CM,NM,CA,NA,jD.it] at fX;refine bJ ?_;refine WL.nil (EX.np ?_);refine nx ?_;refine eb (n+1,dr,acc++[valOf aa x.ab t.ask],out++[t.ask],a52,(z+1),Zy,a45,(C+1),RF) ⟨fX.drop.drop.p4.drop.p5.p5.p4.p5.p4,⟨by omega,Dd,by simp only [dG];rw [← Q,O],by simp only [dG];rw [← Q,← R,O],trivial⟩⟩
theorem tB(j:St w M Z w [As.blk D.s 139 (D.cells x),As.map Key.val D.m ml,As.map Key.val D.q ql]) (o:(D.F prog aa x).p Z w) (hm:aJ aa x.ab ml) (t:ao aa) (hk:eB aa k) (u:aX ql k=none):Calls prog 48 #[.pointer (some ⟨D.s,0,none⟩),k.val] w fun e w'=>∃(a:Option Addr) (n c:Nat) (b z:List (Key × Value)),e=.returned (.slice a n c)∧aJ aa x.ab b∧(∀y,aX z y≠none→y=k∨aX ql y≠none)∧St w M Z w' [As.blk D.s 139 (D.cells x),As.map Key.val D.m b,As.map Key.val D.q z,As.os RR.key 43 2 a n c (cX aa x.ab k)]:=by
 cases hk with
 | cell h=>exact(sH j o hm (aN h) u).mono fun e w' ⟨a,n,c,b,h1,g,i⟩=>⟨a,n,c,b,ql,h1,g,fun y hy=>.inr hy,i⟩
 | eF h gq=>exact(sJ j o hm t h u).mono fun e w' ⟨v,a,n,c,b,h1,g,i⟩=>⟨a,n,c,b,_,h1,g,fun y hy=>by
   rw [cZ] at hy
   split at hy
   ·
    rename_i e;exact .inl e.symm
   exact .inr hy,by rw [dL t h];exact i⟩
end Go.Rc

