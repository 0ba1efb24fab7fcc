/- Walks over the program, part WZl. Conditions: as each theorem says. -/
import Derived.Test.YtmpkegmkoclbhaaGreatDoorMFacts
import Derived.Test.YtmpkegmkoclbhaaGreatDoorMWB
import Derived.Test.YtmpkegmkoclbhaaGreatDoorMWD
import Derived.Test.YtmpkegmkoclbhaaGreatDoorMBf
import Derived.Test.YtmpkegmkoclbhaaGreatDoorMBd
import Derived.Test.YtmpkegmkoclbhaaGreatDoorMWUa
import Derived.Test.YtmpkegmkoclbhaaGreatDoorMBg
set_option linter.all false
namespace Go.Rc
open Go Go.Proofs Go.Proofs.Tryz
variable {a:Option Addr}{n c d r:Nat}{w:World}{M Z:Nat→Prop}{m:Int}{l:List Key}{f:FuncId}{cap:Value}
set_option maxHeartbeats 400000
theorem Dr{l:List Int}(g:St w M Z w []) (hl:Rd RR.int 1 Z w a n c l) (h:n≤400):Calls prog 7 #[.slice a n c] w fun e w'=>∃d,e=.returned (.pointer (some ⟨d,0,none⟩))∧St w M Z w' [As.hM 55 d]:=
 (Fl (A:=Z) (l:=l) hl h).mono fun e w' ⟨d,h1,i,j,hc⟩=>⟨d,h1,g.new hc j fun x b=>by have b:x=d:=b;subst b;exact i⟩
theorem bs(b:St w M Z w [As.hM 55 d]) (hm:m≤4611686018427387904):Calls prog 22 #[.pointer (some ⟨d,0,none⟩),.int .i64 m] w fun e w'=>∃z:Int,e=.returned (.int .i64 z)∧0≤z∧(1≤m→z<m)∧St w M Z w' [As.hM 55 d]:=
 (Fm (A:=Z) (As.gd b.g0) (b.l4 (As.hM 55 d) (by simp) d rfl) hm).mono fun e w' ⟨z,h1,h,i,hc,j⟩=>⟨z,h1,h,i,b.kC (hc.p.mono fun x _ g=>show x=d from by simpa using g) j fun x g=>.inl g⟩
theorem Du{l:List ByteArray}(b:St w M Z w [As.hM 55 d,As.os RR.str 9 1 a r c l]) (h0:0<r) (h1:r≤1000):Calls prog 80 #[.pointer (some ⟨d,0,none⟩),.slice a r c] w fun e w'=>∃s:ByteArray,e=.returned (.string s)∧s∈l∧St w M Z w' [As.hM 55 d,As.os RR.str 9 1 a r c l]:=by
 have hlen:=(As.gs b.g1).len;refine enter func80 rfl ntmps80 rfl<|?_;have aP:=b;refine kE ?_;have st1:=aP;refine(bX) jC (bs st1.e1 (m:=(r:Int)) (by omega)) ?_;rintro _ w1 ⟨z,rfl,k,g,j⟩;have st2:=St.lr st1 j;have g:=g (by omega);obtain⟨i,rfl⟩:∃i:Nat,z=i:=⟨z.toNat,by omega⟩
 have hi:i<l.length:=by omega
 obtain⟨o,h⟩:=Ow.addr (As.gs st2.g1) (ak hi);refine WP .r (PV.dQ oR h rfl rfl (by omega))<|WP .r (PV.mw fw (Ow.jI (As.gs st2.g1) (by omega) h (ak hi)) rfl rfl)<|(bw) ?_;exact⟨_,rfl,List.getElem_mem hi,st2⟩
theorem xo(p:St w M Z w [As.hM 55 d]):Calls prog 44 #[.pointer (some ⟨d,0,none⟩)] w fun e w'=>∃x:Change,e=.returned (.agg x.cells.toArray)∧(x.small∧x.value.size≤50)∧St w M Z w' [As.hM 55 d]:=by
 refine enter func44 rfl ntmps44 rfl<|?_;have aP:=p;refine(eW) aP fun b2 w1 D F st1=>?_;refine de ?_;have st2:=st1.p1;refine(bX) jC (bs st2.e1 (m:=4) (by omega)) ?_;rintro _ w2 ⟨z4,rfl,q,b,t⟩;have u:=St.lr st2 t;have b:=b (by omega);refine(eN) (gT (n:=z4)) u fun w3 G v=>?_;refine nx ?_;refine WL.go rfl (OX.aO (us:=words.map Value.string) Ki rfl rfl rfl rfl fun y w4 g z=>?_);have A:=St.pf (R:=RR.str) (E:=9) (k:=1) (a:=some ⟨y,0,none⟩) (n:=10) (c:=10) (xs:=words) v g.ext (Ow.flat z rfl (by simp) (by simp [words,Value.oneCell']) rfl (by decide)) (fun x h=>by simp [aI] at h;subst h;exact g.ge);have i:=A.p1;refine(bX) aeg (Du i.e2 (by decide) (by decide)) ?_;rintro _ w5 ⟨s,rfl,j,B⟩;have C:=St.lr i B;refine WP .r (PV.bB (us:=(Change.mk (bZ z4) s).cells) R1 rfl rfl rfl)<|(cI) Kl C.p2 fun w6 H I o=>?_;refine(kS) Cd o.b0<|?_;exact⟨⟨bZ z4,s⟩,rfl,⟨⟨⟨z4,q,by omega,rfl⟩,KA s j⟩,(show ∀s∈words,s.size≤50 by decide) s j⟩,o.drop.p1.drop⟩
theorem nZ(B:St w M Z w [As.hM 55 d]) (hm:0≤m) (P:m≤1000):Calls prog 20 #[.pointer (some ⟨d,0,none⟩),.int .i64 m] w fun e w'=>∃a n c,∃l:List Change,e=.returned (.slice a n c)∧((l.length:Int)≤m∧∀x∈l,x.value.size≤50)∧(∀x∈l,x.small)∧St w M Z w' [As.hM 55 d,As.os RR.bV 49 3 a n c l]:=by
 refine enter func20 rfl ntmps20 rfl<|?_;have aP:=B;have st1:=aP.dq RR.bV 49 3;refine aX ?_;refine cj ?_;have st2:=st1.p1;refine(bX) jC (bs st2.e1 (m:=m+1) (by omega)) ?_;rintro _ w1 ⟨z0,rfl,Q,q,C⟩;have D:=St.lr st2 C;have q:=q (by omega);obtain⟨z,rfl⟩:∃z:Nat,z0=z:=⟨z0.toNat,by omega⟩;refine cj ?_;refine WC.bq (σ:=Nat × (List Change) × (Option Addr) × Nat × Nat) (dn:=fun(i,l,g,b,j)=>[(0,.pointer (some ⟨d,0,none⟩)),(5,.slice g b j),(6,.int .i64 (i:Int))]) (F:=fun(i,l,g,b,j)=>[As.os RR.bV 49 3 g b j (l),As.hM 55 d]) (I:=fun(i,l,g,b,j)=>(l.length+i≤z)∧(∀x∈l,x.small)∧(∀x∈l,x.value.size≤50)∧True) (μ:=fun(i,l,g,b,j)=>i) (z,[],none,0,0) (D.p1) Sub.t (⟨by simp,by simp,by simp,trivial⟩)<|?_;rintro⟨i,l,g,b,j⟩ w2 k ⟨E,o,p,_⟩;simp only [CA,NA] at k E o p ⊢;have R:=((As.gs k.g0)).len;refine(aT) (fun g12=>?_) fun g12=>?_
 ·
  simp at g12
  refine ez ?_;have s:=k.p1;refine(bX) adT (xo s.e1) ?_;rintro _ w3 ⟨x,rfl,u,G⟩;have H:=St.lr s G;refine WL.go rfl (OX.aO (us:=x.cells) EV rfl rfl rfl rfl fun S w4 J K=>?_);have v:=H.cX J K;refine WL.ap rfl rfl v.p2 (SR.dd (A:=fun _=>True) (x:=x) (As.gb v.g0) trivial rfl (by simp [Change.cells,Value.oneCell']) rfl) fun L N w5 T U O=>?_;refine kR ?_;refine eC (i - 1,l++[x],L,(b+1),N) ⟨O.p1.drop,⟨by simp;omega,fun y hy=>by rcases List.mem_append.1 hy with h | h;exact o y h;simp at h;subst h;exact u.1,fun y hy=>by rcases List.mem_append.1 hy with h | h;exact p y h;simp at h;subst h;exact u.2,trivial⟩⟩
 simp at g12
 refine(bw) ?_;exact⟨_,_,_,l,rfl,⟨by omega,p⟩,o,k.p1⟩
set_option maxHeartbeats 4000000 in
theorem Au(gE:St w M Z w [As.hM 55 d]):Calls prog 19 #[.pointer (some ⟨d,0,none⟩)] w fun e w'=>∃a n c,∃l:List aG,∃Z',e=.returned (.slice a n c)∧aq l∧2≤l.length∧l.length≤8∧bH w.heap.size Z Z'∧St w M Z' w' [As.hM 55 d,As.os RR.eX 84 4 a n c l]:=by
 refine enter func19 rfl ntmps19 rfl<|?_;have aP:=gE;have st1:=aP.dq RR.eX 84 4;refine aX ?_;refine bN ?_;have st2:=st1.p1;refine(bX) jC (bs st2.e1 (m:=7) (by omega)) ?_;rintro _ w1 ⟨z0,rfl,ZW,Dk,Ug⟩;have iV:=St.lr st2 Ug;have Dk:=Dk (by omega);obtain⟨z,rfl⟩:∃z:Nat,z0=z:=⟨z0.toNat,by omega⟩;refine de ?_;refine WC.bq (σ:=Nat × (List aG) × (Option Addr) × Nat × Nat) (dn:=fun(i,l,C,q,D)=>[(0,.pointer (some ⟨d,0,none⟩)),(3,.slice C q D),(4,.int .i64 (i:Int))]) (F:=fun(i,l,C,q,D)=>[As.os RR.eX 84 4 C q D (l),As.hM 55 d]) (I:=fun(i,l,C,q,D)=>(l.length+i=z+2)∧True) (μ:=fun(i,l,C,q,D)=>i) (z+2,[],none,0,0) (iV.p1) Sub.t (⟨by simp,trivial⟩)<|?_;rintro⟨i,l,C,q,D⟩ w2 iq ⟨hlz,_⟩;simp only [CA,NA] at iq hlz ⊢;have hol:=((As.gs iq.g0)).len;refine(aT) (fun g16=>?_) fun g16=>?_
 ·
  simp at g16
  refine ez ?_;have R:=iq.p1;refine(bX) jC (bs R.e1 (m:=3) (by omega)) ?_;rintro _ w3 ⟨z1,rfl,alU,Qe,kz⟩;have iE:=St.lr R kz;have Qe:=Qe (by omega);obtain⟨g,hg⟩:∃g:Bool,g=decide (z1=1):=⟨_,rfl⟩;refine nx ?_;refine WP .r (PV.bB (us:=[.bool (decide (z1=1)),.slice none 0 0,.int .i64 0,.int .i64 0]) MY rfl rfl rfl)<|?_;refine WL.go rfl (OX.aO (us:=[.bool (decide (z1=1)),.slice none 0 0,.int .i64 0,.int .i64 0]) Kg rfl rfl rfl rfl fun b24 w4 aiX aiY=>?_);have hJ:=iE.cX aiX aiY;refine WL.ap rfl rfl hJ.p2 (SR.dd (A:=fun _=>True) (x:=begun g) (As.gb hJ.g0) trivial rfl (by simp [Value.oneCell']) ⟨none,0,0,by rw [hg];rfl,SR.nil _ _ _ _⟩) fun a25 aiZ w5 ar3 ahN iK=>?_;refine kR ?_;refine eC (i - 1,l++[begun g],a25,(q+1),aiZ) ⟨iK.p1.drop,⟨by simp;omega,trivial⟩⟩
 simp at g16
 refine aX ?_;refine bN ?_;refine WC.ia (σ:=Nat × (List aG) × (Nat→Prop)) (dn:=fun(i,l1,V)=>[(0,.pointer (some ⟨d,0,none⟩)),(3,.slice C q D),(27,.int .i64 (q:Int)),(28,.int .i64 (i:Int))]) (F:=fun(i,l1,V)=>[As.hM 55 d,As.os RR.eX 84 4 C q D l1]) (I:=fun(i,l1,V)=>(i≤q)∧(kW l1 i)∧(bH w.heap.size Z V)∧True) (μ:=fun(i,l1,V)=>q - i) (Zf:=fun(i,l1,V)=>V) (0,l,Z) (iq.p1) Sub.t (⟨Nat.zero_le _,kW.start (by omega),bH.refl _ _,trivial⟩)<|?_;rintro⟨i,l1,V⟩ w3 R ⟨hi,hPo,hZ,_⟩;simp only [CA,NA] at R hi hPo hZ ⊢;have DC:=((As.gs R.g1)).len;have hP8:=hPo.1;refine(aT) (fun LQ=>?_) fun LQ=>?_
 ·
  simp at LQ
  have S:i<l1.length:=by omega
  have hrt:=bW S;have hmt:=wE S;refine aX ?_;refine(eN) (sR (n:=(i:Int)) (Ow.rd (As.gs R.g1) (by omega))) R fun w4 s4 iE=>?_;refine kR ?_;obtain⟨bx,CO⟩:=Ow.addr (As.gs iE.g1) (ak S);refine cq ?_;refine WP .r (PV.dQ jj CO rfl rfl (by omega))<|nx ?_;refine WP .r (PV.mw dH (Ow.ring (As.gs iE.g1) CO (by omega) S) rfl rfl)<|cq ?_;have hJ:=iE;refine WC.jy (σ:=Int) [] (fun most=>[(0,.pointer (some ⟨d,0,none⟩)),(3,.slice C q D),(5,.int .i64 (i:Int)),(7,.int .i64 most),(27,.int .i64 (q:Int)),(28,.int .i64 (i:Int))]) (fun most=>[]) (fun most=>(most=fE l1 i)∧True) hJ ?_ ?_
  ·
   refine(aT) (fun W=>?_) fun W=>?_
   ·
    have W:l1[i].ring=false:=by simpa using W
    refine cj ?_;exact mS ((block l1 (i:Int)).1) ⟨hJ,⟨by unfold fE;rw [hrt,W];rfl,trivial⟩⟩
   have W:l1[i].ring=true:=by simpa using W
   refine nx ?_;exact mS ((block l1 (i:Int)).2) ⟨hJ,⟨by unfold fE;rw [hrt,W];rfl,trivial⟩⟩
  rintro most w5 iK ⟨Qf,_⟩;simp only [CA,NA] at iK Qf ⊢;refine bN ?_;refine WC.bL (m:=12) [] [6,9] [5,6,8,9,0,1,2,3,4,7,10,11] [(11,.blk 84 [.bool false,.slice none 0 0,.int .i64 0,.int .i64 0])] iK (ai.cons M1<|ai.nil) mixed (by kernel_rfl) (by kernel_rfl) rfl<|(fM) (fun w6 TM FU iH o0=>?_);simp only [CA,NA] at iH;have eD:=iH;refine OX.call jC rfl rfl ((bs eD.e1 (m:=4) (by omega)).mono ?_);rintro _ w7 ⟨z2,rfl,alV,Qg,jE⟩;have di:=St.lr eD jE;have Qg:=Qg (by omega);refine⟨_,rfl,jE.bV.size,_,rfl,_,_,_,di,aw.k2<|aw.nil,ai.cons M1<|ai.nil,?_⟩;refine(fM) (fun w8 TD FQ cY oZ=>?_);simp only [CA,NA] at cY;have dm:=cY;refine OX.call jC rfl rfl ((bs dm.e1 (m:=6) (by omega)).mono ?_);rintro _ w9 ⟨z3,rfl,aaa,Dm,nQ⟩;have db:=St.lr dm nQ;have Dm:=Dm (by omega);refine⟨_,rfl,nQ.bV.size,_,rfl,_,_,_,db,aw.k2<|aw.nil,ai.cons M1<|ai.nil,?_⟩
  iterate 2 refine DG.a ?_
  refine DQ .r (fun J Zx Rx _ pN wu=>PV.dQ jj CO rfl rfl (by omega))<|?_;refine DG.a<|?_;refine DQ .r (fun J Zx Rx _ pN wu=>PV.mw dH (Ow.ring (As.gs (pN.sv wu).g0) CO (by omega) S) rfl rfl)<|?_;refine DG.a<|?_;refine DQ .r (fun J Zx Rx _ pN wu=>PV.bB (us:=[.bool l1[i].ring,.slice none 0 0,.int .i64 (1+z2),.int .i64 z3]) MY rfl rfl rfl)<|?_;refine DG.side (s:=.blk 84 [.bool false,.slice none 0 0,.int .i64 0,.int .i64 0]) rfl rfl rfl rfl rfl rfl (fun J Zx Rx pV pN=>OX.alloc Nc rfl fun b wy X hb=>⟨X.ext.size,_,rfl,⟨b,rfl⟩,pN.cX X hb⟩)<|?_;rintro _ ⟨y,rfl⟩;refine(jm) ?_;intro iS GZ ed;simp only [CM,NM,CA,NA,hV.it] at ed;refine(cI) E0 ed fun iX jS jZ gx=>?_;refine WL.nil (EX.np ?_);refine(a8) dH gx.b0<|bN ?_;have ew:=gx;refine WC.jy (σ:=Int × Int) [_] (fun(f0,c0)=>[(0,.pointer (some ⟨d,0,none⟩)),(3,.slice C q D),(5,.int .i64 (i:Int)),(7,.int .i64 most),(8,.pointer (some ⟨y,0,none⟩)),(27,.int .i64 (q:Int)),(28,.int .i64 (i:Int))]) (fun(f0,c0)=>[As.blk y 84 [.bool l1[i].ring,.slice none 0 0,.int .i64 f0,.int .i64 c0]]) (fun(f0,c0)=>(∀xs:List Ask,hY ⟨l1[i].ring,xs,f0,c0⟩=true)∧True) ew ?_ ?_
  ·
   refine(aT) (fun Io=>?_) fun Io=>?_
   ·
    have ai0:d<iX.heap.size:=(As.hM 55 d).lt (ew.g1) d rfl;have Od:y<iX.heap.size:=((As.gb ew.g0)).lt;have eb:=ew;have Y:=eb.conv (B:=As.acK (ι:=Int) y 84 fun f=>[.bool l1[i].ring,.slice none 0 0,.int .i64 f,.int .i64 z3]) ⟨_,(As.gb eb.g0)⟩ (fun _ h=>h);have ai1:=Y.bO;have aaH:=Y.jK;have aaI:=Y.size;refine WC.Jg (m:=8) (fun j w w'=>match j with | 2=>gP (fun x=>x=d) w w' | 6=>gP (fun x=>x=y) w w' | _=>gP (fun _=>False) w w') (E:=cB [(0,PS iX.heap.size 3 6 [.int .i64 0,.int .i64 1,.int .i64 2,.int .i64 4,.int .i64 8,.int .i64 16]),(2,fun v _=>∃z:Nat,v=.int .i64 (z:Int)∧z<6),(3,fun v J=>∃b k:Nat,v=.pointer (some ⟨b,0+k*1,none⟩)∧k<6∧iX.heap.size≤b∧bT J b 3 [.int .i64 0,.int .i64 1,.int .i64 2,.int .i64 4,.int .i64 8,.int .i64 16]),(4,fun v _=>∃z:Int,v=.int .i64 z∧0≤z∧z≤65535),(6,fun _ J=>J.cell? ⟨y,2,none⟩=some (.int .i64 5))]) Y (lC (⟨⟨trivial,fun _ _ _ _ _ c h=>PS.st (fun x u=>by subst u;exact ai0) c h,fun _ _ _ _ _ c h=>PS.st (fun x u=>u.elim) c h,fun _ _ _ _ _ c h=>PS.st (fun x u=>u.elim) c h,fun _ _ _ _ _ c h=>PS.st (fun x u=>by subst u;exact Od) c h,trivial⟩,⟨⟨fun _ _ _ _ _ _ h=>h,trivial,fun _ _ _ _ _ _ h=>h,fun _ _ _ _ _ _ h=>h,fun _ _ _ _ _ _ h=>h,trivial⟩,⟨⟨trivial,trivial,trivial,fun _ _ _ _ _ c ⟨b,k,h1,h2,h3,h4⟩=>⟨b,k,h1,h2,h3,(PB.get (PB.st (fun x u=>u.elim) c (v:=.pointer (some ⟨b,0,none⟩)) ⟨b,rfl,h3,h4⟩)).2⟩,fun _ _ _ _ _ c ⟨b,k,h1,h2,h3,h4⟩=>⟨b,k,h1,h2,h3,(PB.get (PB.st (fun x u=>by subst u;exact Od) c (v:=.pointer (some ⟨b,0,none⟩)) ⟨b,rfl,h3,h4⟩)).2⟩,trivial⟩,⟨⟨fun _ _ _ _ _ _ h=>h,fun _ _ _ _ _ _ h=>h,trivial,trivial,fun _ _ _ _ _ _ h=>h,trivial⟩,⟨⟨fun _ _ _ _ _ c h=>by rw [← h];exact World.cell?_of_block (c.block y (by omega) (fun u=>u.elim)),trivial,fun _ _ _ _ _ c h=>by rw [← h];exact World.cell?_of_block (c.block y (by omega) (fun u=>u.elim)),fun _ _ _ _ _ c h=>by rw [← h];exact World.cell?_of_block (c.block y (by omega) (fun u=>u.elim)),trivial,trivial⟩,trivial⟩⟩⟩⟩⟩)) mixed (by kernel_rfl)<|?_;refine DW.e rfl rfl rfl rfl rfl (fun J H hF=>OX.aO (us:=[.int .i64 0,.int .i64 1,.int .i64 2,.int .i64 4,.int .i64 8,.int .i64 16]) R0 rfl rfl rfl rfl fun b wy X hb=>⟨⟨Nat.le_trans H.1 X.ext.size,H.2.step X.ext⟩,X.ext.p0,_,rfl,_,rfl,Nat.le_trans H.1 X.ge,hb⟩)<|?_;rintro _ wz _ ⟨b57,rfl,_,_⟩;refine nx ?_;refine DW.e rfl rfl rfl rfl rfl (fun J H hF=>OX.call jC rfl rfl ((bs (H.2.one (.tail _ (.head _))) (m:=6) (by omega)).mono ?_))<|?_
    ·
     rintro _ wy ⟨z,rfl,h0,h1,hy⟩;exact⟨_,rfl,⟨Nat.le_trans H.1 hy.bV.size,H.2.xI M1 hy⟩,hy.bV.mono (fun x _ u=>by obtain⟨A,hA,u⟩:=u;simp at hA;subst hA;exact u),_,rfl,⟨z.toNat,by congr 1;omega,by have:=h1 (by omega);omega⟩⟩
    rintro _ wz _ ⟨z13,rfl,z131⟩
    refine DW.e rfl rfl rfl rfl rfl (fun J H hF=>by
     obtain⟨_,⟨b1_,Fh,wo,wK⟩,_⟩:=hF;simp only [Value.slice.injEq,Option.some.injEq,Addr.mk.injEq,and_true,true_and] at Fh;subst Fh;exact OX.pv (PV.ix (i:=z13) EY rfl rfl z131) rfl ⟨H,gP.refl _ _,_,rfl,_,z13,rfl,z131,wo,wK⟩) ?_
    rintro _ wz _ ⟨b3,k3,rfl,ID,DI,wK⟩
    refine DW.e rfl rfl rfl rfl rfl (fun J H hF=>by
     obtain⟨⟨b1_,k1_,B5,DA,_,DF⟩,_⟩:=hF;simp only [Value.pointer.injEq,Option.some.injEq,Addr.mk.injEq,and_true] at B5;obtain⟨rfl,U2⟩:=B5
     obtain⟨z,hz,h0,h1⟩:∃z:Int,nth [.int .i64 0,.int .i64 1,.int .i64 2,.int .i64 4,.int .i64 8,.int .i64 16] (k3*1)=some (.int .i64 z)∧0≤z∧z≤65535:=by
      have h6:k3=0∨k3=1∨k3=2∨k3=3∨k3=4∨k3=5:=by omega
      rcases h6 with rfl | rfl | rfl | rfl | rfl | rfl <;> exact⟨_,rfl,by decide,by decide⟩
     exact OX.pv (PV.ld1 (o:=0) (j:=k3*1) aN (bT.range DF) rfl hz) rfl ⟨H,gP.refl _ _,_,rfl,z,rfl,h0,h1⟩) ?_
    rintro _ wz _ ⟨z5,rfl,h5a,h5b⟩;refine nx ?_
    refine DW.e0 rfl rfl rfl rfl (fun J H hF=>by
     obtain⟨f,hb⟩:∃f:Int,bT J y 84 [.bool l1[i].ring,.slice none 0 0,.int .i64 f,.int .i64 z3]:=H.2.ok _ M0;exact OX.st (j:=2) GQ hb rfl rfl (by simp [nth]) rfl rfl fun wy s hsz wo=>⟨⟨Nat.le_trans H.1 s.size,H.2.same M0 (s.p.mono fun x _ u=>show x=y from by simpa using u) ⟨5,wo⟩⟩,s.p.mono (fun x _ u=>by simpa using u),fun _=>bT.range wo 2 _ rfl⟩) ?_
    rintro _ wz _ h6c;refine(cQ) ?_;rintro ly ⟨PX,dP⟩ ⟨Tj,⟨_,⟨_,⟨_,⟨hF0,_⟩⟩⟩⟩⟩;have fA:=dP.tn (PS.pb hF0) ai1 aaH aaI;have dI:=fA.p1
    have P:=dI.conv (B:=As.blk y 84 [.bool l1[i].ring,.slice none 0 0,.int .i64 5,.int .i64 z3]) (by
     obtain⟨f,hb⟩:∃f:Int,bT ly y 84 [.bool l1[i].ring,.slice none 0 0,.int .i64 f,.int .i64 z3]:=dI.ok _ M0;have h1:=(bT.range hb 2 _ rfl).symm.trans Tj
     have h2:f=5:=by simpa using h1
     subst h2;exact hb) (fun _ h=>h)
    refine WL.s1 P fun oo _ N=>?_;refine nx ?_;exact mS (5,z5) ⟨N.p1.drop,⟨fun _=>by unfold hY;simp [Io,h5a,h5b],trivial⟩⟩
   have Io:l1[i].ring=false:=by simpa using Io
   refine nx ?_;exact mS (1+z2,z3) ⟨ew,⟨fun _=>by unfold hY;simp [Io];omega,trivial⟩⟩
  rintro⟨f0,c0⟩ ly eb ⟨Ov,_⟩;simp only [CA,NA] at eb Ov ⊢;refine de ?_;have Y:=eb.p1;refine(bX) jC (bs Y.e1 (m:=4) (by omega)) ?_;rintro _ oo ⟨z6,rfl,alX,Qh,KU⟩;have dP:=St.lr Y KU;have Qh:=Qh (by omega);obtain⟨z,hz6⟩:∃z:Nat,z6=z:=⟨z6.toNat,by omega⟩;subst hz6;refine cj ?_;have fA:=dP.dq RR.ask 81 4;refine WC.bq (σ:=Nat × (List Ask) × (Option Addr) × Nat × Nat) (dn:=fun(k,xs,Q,T,F8)=>[(0,.pointer (some ⟨d,0,none⟩)),(3,.slice C q D),(5,.int .i64 (i:Int)),(7,.int .i64 most),(8,.pointer (some ⟨y,0,none⟩)),(9,.int .i64 (k:Int)),(27,.int .i64 (q:Int)),(28,.int .i64 (i:Int))]) (F:=fun(k,xs,Q,T,F8)=>[As.os RR.ask 81 4 Q T F8 (xs),As.blk y 84 [.bool l1[i].ring,.slice Q T F8,.int .i64 f0,.int .i64 c0],As.hM 55 d]) (I:=fun(k,xs,Q,T,F8)=>(∀x∈aI Q,w.heap.size≤x)∧(xs.length+k≤3)∧(∀(k:Nat) x,xs[k]?=some x→fk l1 i l1[i].ring k x=true)∧True) (μ:=fun(k,xs,Q,T,F8)=>k) (z,[],none,0,0) (fA.p1.p2.p2) Sub.t (⟨by simp [aI],by simp;omega,by simp,trivial⟩)<|?_;rintro⟨k,xs,Q,T,F8⟩ r7 dI ⟨hga,hxk,Qz,_⟩;simp only [CA,NA] at dI hga hxk Qz ⊢;have hxl:=((As.gs dI.g0)).len;refine(aT) (fun Vi=>?_) fun Vi=>?_
  ·
   simp at Vi
   refine de ?_;have P:=dI.p2;refine WC.jy (σ:=Nat × Bool) [_] (fun(G,cell)=>[(0,.pointer (some ⟨d,0,none⟩)),(3,.slice C q D),(5,.int .i64 (i:Int)),(7,.int .i64 most),(8,.pointer (some ⟨y,0,none⟩)),(9,.int .i64 (k:Int)),(10,.pointer (some ⟨G,0,none⟩)),(27,.int .i64 (q:Int)),(28,.int .i64 (i:Int))]) (fun(G,cell)=>[As.blk G 81 [.bool cell,.bool false,.int .i64 0,.int .i64 0],As.hM 55 d]) (fun(G,cell)=>(cell=false→most≠0)∧True) P ?_ ?_
   ·
    refine bN ?_;have N:=P;refine(bX) jC (bs N.e1 (m:=3) (by omega)) ?_;rintro _ pU ⟨z7,rfl,alY,Qi,vQ⟩;have ee:=St.lr N vQ;have Qi:=Qi (by omega);refine(dc) (fun LS=>?_) (fun LS=>?_)
    ·
     refine cq ?_;refine WP .r (PV.bB (us:=_) Kj rfl rfl rfl)<|(eW) ee fun G tE FH FJ eP=>?_;refine(cI) EZ eP fun zI re mz dM=>?_;refine nx ?_;exact mS (G,true) ⟨dM,⟨(fun h=>by cases h),trivial⟩⟩
    refine cq ?_;refine WP .r (PV.bB (us:=_) Kj rfl rfl rfl)<|(eW) ee fun G tE FH FJ eP=>?_;refine(cI) EZ eP fun zI zB sw dM=>?_;refine nx ?_;exact mS (G,decide (most=0)) ⟨dM,⟨fun h=>by simpa using h,trivial⟩⟩
   rintro⟨G,cell⟩ pU N ⟨x9,_⟩;simp only [CA,NA] at N x9 ⊢;refine(a8) dH N.b0<|bN ?_;have ee:=N;refine WC.jy (σ:=Int) [] (fun m2=>[(0,.pointer (some ⟨d,0,none⟩)),(3,.slice C q D),(5,.int .i64 (i:Int)),(7,.int .i64 most),(8,.pointer (some ⟨y,0,none⟩)),(9,.int .i64 (k:Int)),(10,.pointer (some ⟨G,0,none⟩)),(11,.int .i64 m2),(27,.int .i64 (q:Int)),(28,.int .i64 (i:Int))]) (fun m2=>[]) (fun m2=>(m2=if cell then 4 else fE l1 i)∧True) ee ?_ ?_
   ·
    refine(aT) (fun P5=>?_) fun P5=>?_
    ·
     refine cq ?_;exact mS (4) ⟨ee,⟨by rw [P5];rfl,trivial⟩⟩
    have P5:cell=false:=by simpa using P5
    refine nx ?_;exact mS (most) ⟨ee,⟨by rw [P5,Qf];rfl,trivial⟩⟩
   rintro m2 tE eP ⟨LK,_⟩;simp only [CA,NA] at eP LK ⊢
   have H9:1≤m2∧m2≤24:=by
    cases cell
    ·
     simp at LK;have:=x9 rfl;omega
    simp at LK;omega
   refine de ?_;have dM:=eP.p1;refine(bX) jC (bs dM.e1 (m:=m2) (by omega)) ?_;rintro _ zI ⟨z8,rfl,ZX,Dl,td⟩;have fD:=St.lr dM td;have Dl:=Dl (by omega);refine nx ?_;refine WL.s1 fD.p1 fun yo _ kA=>?_;refine cj ?_;have lq:=kA.p1;refine WC.jy (σ:=Bool) [_] (fun b92=>[(0,.pointer (some ⟨d,0,none⟩)),(3,.slice C q D),(5,.int .i64 (i:Int)),(7,.int .i64 most),(8,.pointer (some ⟨y,0,none⟩)),(9,.int .i64 (k:Int)),(10,.pointer (some ⟨G,0,none⟩)),(11,.int .i64 m2),(27,.int .i64 (q:Int)),(28,.int .i64 (i:Int)),(92,.bool b92)]) (fun b92=>[As.hM 55 d]) (fun b92=>True) lq ?_ ?_
   ·
    refine(a8) dH lq.b1<|(dc) (fun Pw=>?_) (fun Pw=>?_)
    ·
     refine nx ?_;have oD:=lq;refine(bX) jC (bs oD.e1 (m:=2) (by omega)) ?_;rintro _ Fz ⟨z9,rfl,aad,Dn,Lj⟩;have oE:=St.lr oD Lj;have Dn:=Dn (by omega);refine cq ?_;exact mS (decide (z9=0)) ⟨oE,trivial⟩
    refine de ?_;exact mS (false) ⟨lq,trivial⟩
   rintro b92 Fz oD _;simp only [CA,NA] at oD ⊢;refine nx ?_;have oE:=oD.p1;refine WC.jy (σ:=Int) [_,_] (fun K=>[(0,.pointer (some ⟨d,0,none⟩)),(3,.slice C q D),(5,.int .i64 (i:Int)),(7,.int .i64 most),(8,.pointer (some ⟨y,0,none⟩)),(9,.int .i64 (k:Int)),(10,.pointer (some ⟨G,0,none⟩)),(11,.int .i64 m2),(27,.int .i64 (q:Int)),(28,.int .i64 (i:Int))]) (fun K=>[As.blk G 81 [.bool cell,.bool false,.int .i64 K,.int .i64 0],As.hM 55 d]) (fun K=>(0≤K)∧(K<m2)∧True) oE ?_ ?_
   ·
    refine(aT) (fun g92=>?_) fun g92=>?_
    ·
     refine fO ?_;have oB:=oE.p1;refine(bX) jC (bs oB.e1 (m:=(min m2 3)) (by omega)) ?_;rintro _ Ih ⟨z10,rfl,ai3,Lo,vJ⟩;have U:=St.lr oB vJ;have Lo:=Lo (by omega);refine bN ?_;refine WL.s1 U.p1 fun IL _ lR=>?_;refine nx ?_;exact mS (m2 - 1 - z10) ⟨lR,⟨by omega,by omega,trivial⟩⟩
    refine nx ?_;exact mS (z8) ⟨oE,⟨by omega,by omega,trivial⟩⟩
   rintro K Ih oB ⟨hn0,hn1,_⟩;simp only [CA,NA] at oB hn0 hn1 ⊢;refine cq ?_;have U:=oB.p1;refine WC.jy (σ:=Bool) [_] (fun Lq=>[(0,.pointer (some ⟨d,0,none⟩)),(3,.slice C q D),(5,.int .i64 (i:Int)),(7,.int .i64 most),(8,.pointer (some ⟨y,0,none⟩)),(9,.int .i64 (k:Int)),(10,.pointer (some ⟨G,0,none⟩)),(11,.int .i64 m2),(27,.int .i64 (q:Int)),(28,.int .i64 (i:Int)),(114,.bool Lq)]) (fun Lq=>[As.hM 55 d]) (fun Lq=>(Lq=true→l1[i].ring=false∧xs.length≠0)∧True) U ?_ ?_
   ·
    refine(a8) dH U.b3<|(dc) (fun aaJ=>?_) (fun aaJ=>?_)
    ·
     refine(a8) ku U.b3<|(dc) (fun oy=>?_) (fun oy=>?_)
     ·
      refine nx ?_;have lR:=U;refine(bX) jC (bs lR.e1 (m:=3) (by omega)) ?_;rintro _ IL ⟨z11,rfl,ai4,Lr,aaK⟩;have j3:=St.lr lR aaK;have Lr:=Lr (by omega);refine cq ?_;exact mS (decide (z11=1)) ⟨j3,⟨fun _=>⟨by simpa using aaJ,by have h0:=oy;simp at h0;omega⟩,trivial⟩⟩
     refine de ?_;exact mS (false) ⟨U,⟨(fun h=>by cases h),trivial⟩⟩
    refine kE ?_;exact mS (false) ⟨U,⟨(fun h=>by cases h),trivial⟩⟩
   rintro Lq IL lR ⟨hb,_⟩;simp only [CA,NA] at lR hb ⊢;refine nx ?_;have j3:=lR.p1;refine WC.jy (σ:=Bool × Int) [_,_] (fun(O,L)=>[(0,.pointer (some ⟨d,0,none⟩)),(3,.slice C q D),(5,.int .i64 (i:Int)),(7,.int .i64 most),(8,.pointer (some ⟨y,0,none⟩)),(9,.int .i64 (k:Int)),(10,.pointer (some ⟨G,0,none⟩)),(27,.int .i64 (q:Int)),(28,.int .i64 (i:Int))]) (fun(O,L)=>[As.blk G 81 [.bool cell,.bool O,.int .i64 K,.int .i64 L],As.hM 55 d]) (fun(O,L)=>(O=true→l1[i].ring=false∧xs.length≠0∧0≤L∧L<m2)∧(O=false→L=0)∧True) j3 ?_ ?_
   ·
    refine(aT) (fun Aw=>?_) fun Aw=>?_
    ·
     refine cq ?_;have sg:=j3.p1;refine(bX) jC (bs sg.e1 (m:=m2) (by omega)) ?_;rintro _ LP ⟨z12,rfl,ai5,Ls,G4⟩;have oC:=St.lr sg G4;have Ls:=Ls (by omega);refine nx ?_;refine WL.s1 oC.p1 fun PR _ qT=>?_;refine nx ?_;refine WL.s1 qT fun PT _ tH=>?_;refine nx ?_;exact mS (true,z12) ⟨tH,⟨fun _=>⟨(hb Aw).1,(hb Aw).2,by omega,by omega⟩,(fun h=>by cases h),trivial⟩⟩
    refine nx ?_;exact mS (false,0) ⟨j3,⟨(fun h=>by cases h),fun _=>rfl,trivial⟩⟩
   rintro⟨O,L⟩ LP sg ⟨hpk,VU,_⟩;simp only [CA,NA] at sg hpk VU ⊢;refine(a8) ku sg.b3<|(aZ) oQ sg.b0<|?_;refine WL.go rfl (OX.aO (us:=(Ask.mk cell O K L).cells) Kh rfl rfl rfl rfl fun Ir PR aaL aaM=>?_);have oC:=sg.cX aaL aaM;have hzs:=oC.size;refine WL.ap rfl rfl oC.p3 (SR.dd (A:=fun _=>True) (x:=Ask.mk cell O K L) (As.gb oC.g0) trivial rfl (by simp [Ask.cells,Value.oneCell']) rfl) fun a124 aaN PT aaO al1 qT=>?_;refine nx ?_;refine WL.s1 qT.p4 fun Vd _ tH=>?_;refine gX ?_;refine eC (k - 1,xs++[⟨cell,O,K,L⟩],a124,(T+1),aaN) ⟨tH.p2.drop.p2.drop.p1,⟨fun x u=>(aaO x u).elim (hga x) (Nat.le_trans hzs),by simp;omega,Hs Qz (QQ (x:=⟨cell,O,K,L⟩) LK hn0 hn1 hpk VU),trivial⟩⟩
  simp at Vi
  refine de ?_;have Ov:=Ov xs;have P:=dI.aY (by omega);have mU:=hZ.trans (bH.dA (F:=fun x=>x∈aI Q) hga) (Nat.le_refl _);refine(aZ) sQ P.b1<|?_;refine WP .r (PV.dQ jj CO rfl rfl (by omega))<|?_;refine WL.go rfl (OX.VH (i:=i) E0 (As.gs P.g3) CO S rfl rfl rfl (by simp [Value.oneCell']) ⟨l1[i].ring,xs,f0,c0⟩ ⟨Q,T,F8,rfl,(As.gr P.g0)⟩ fun pU s8 h8=>?_);have N:=P.p3.eS s8 h8 (fun x h=>.inl h);refine ez ?_;refine eC (i+1,l1.set i ⟨l1[i].ring,xs,f0,c0⟩,_) ⟨N.p1.drop.p1.drop.p1,⟨by omega,kW.set hPo S (bW S).symm ⟨show xs.length≤6 by omega,Qz,Ov⟩,mU,trivial⟩⟩
 simp at LQ
 have LL:i=l1.length:=by omega
 subst LL;have hRk:=hPo.ok;refine(bw) ?_;exact⟨_,_,_,l1,_,rfl,hRk,by omega,by omega,hZ,R⟩
set_option maxHeartbeats 400000
theorem wa{p:Key→Bool}(o:CF prog f) (hl:Rd RR.key 2 Z w a n c l) (q:∀w1,aS [] w w1→∀x∈l,Calls prog f #[x.val,cap] w1 fun e w'=>e=.returned (.bool (p x))∧aS [] w1 w'):Calls prog 97 #[.slice a n c,.func (.func f) #[] #[cap]] w fun e w'=>∃j:Int,e=.returned (.int .i64 j)∧uA l p j∧aS [] w w':=by
 have hlen:=hl.len;have hle:=hl.le;refine enter func97 rfl ntmps97 rfl<|?_;have aP:=St.s0 w;refine aX ?_;refine bN ?_;refine WC.bq (σ:=Nat) (dn:=fun i=>[(0,.slice a n c),(1,.func (.func f) #[] #[cap]),(7,.int .i64 (n:Int)),(8,.int .i64 (i:Int))]) (F:=fun i=>[]) (I:=fun i=>(i≤n)∧(∀j x,j<i→l[j]?=some x→p x=false)∧True) (μ:=fun i=>n - i) (0) (aP) Sub.t (⟨by omega,fun j x h=>by omega,trivial⟩)<|?_;rintro i w1 st1 ⟨hi,b,_⟩;simp only [CA,NA] at st1 hi b ⊢;refine(aT) (fun g9=>?_) fun g9=>?_
 ·
  simp at g9
  have g:i<l.length:=by omega
  refine kE ?_;obtain⟨A,B,C,s,D,k,u,E⟩:=Rd.at hl g;have k:=RR.ba k;subst k;refine cj ?_;refine WP .r (PV.dQ et s rfl rfl (by omega))<|(aZ) ao (aW u (St.cg st1) (by simp))<|?_;refine WL.go rfl (OX.nb o rfl rfl rfl ((Calls.cap (q _ (St.cg st1) l[i] (List.getElem_mem g))).mono ?_));rintro _ w2 ⟨rfl,s2⟩;refine⟨_,rfl,?_⟩;have st2:=st1.step s2;refine(aT) (fun g16=>?_) fun g16=>?_
  ·
   refine(bw) ?_;exact⟨_,rfl,.inl ⟨i,_,ak g,g16,b,rfl⟩,(St.cg st2)⟩
  have g16:p l[i]=false:=by simpa using g16
  refine ez ?_;refine eC (i+1) ⟨st2,⟨by omega,cF g b (by simpa using g16),trivial⟩⟩
 simp at g9
 have v:∀x∈l,p x=false:=fun x y=>by obtain⟨j,z,rfl⟩:=List.getElem_of_mem y;exact b j _ (by omega) (ak z)
 refine(bw) ?_;exact⟨_,rfl,.inr ⟨v,rfl⟩,(St.cg st1)⟩
theorem qS{p:Key→Bool}(b:CF prog f) (hl:Rd RR.key 2 Z w a n c l) (g:∀w1,aS [] w w1→∀x∈l,Calls prog f #[x.val,cap] w1 fun e w'=>e=.returned (.bool (p x))∧aS [] w1 w'):CR prog 53 #[.slice a n c,.func (.func f) #[] #[cap]] w (.bool (l.any p)):=by
 refine enter func53 rfl ntmps53 rfl<|?_;have aP:=St.s0 w;refine(bX) Sr (wa (w:=w) b (hl.ext (St.cg aP)) (fun w1 h1=>g w1 (aS.trans (St.cg aP) h1))) ?_;rintro _ w1 ⟨j,rfl,h,s1⟩;have st1:=aP.step s1;have i:=h.any;refine(bw) ?_;exact⟨by rw [i],(St.cg st1)⟩
set_option maxHeartbeats 400000
set_option maxHeartbeats 400000
set_option maxHeartbeats 400000
set_option maxHeartbeats 400000
theorem mJ{A:Nat→Prop}(hl:Rd RR.key 2 A w a n c l) (s:l.Nodup):CR prog 69 #[.slice a n c] w (.slice a n c):=by
 have hle:=SR.le hl;have hlen:=SR.len hl;refine enter func69 rfl ntmps69 rfl<|?_;have aP:=St.s0 w;refine aX ?_;refine(aT) (fun g8=>?_) fun g8=>?_
 ·
  skip
  refine(bw) ?_;exact⟨rfl,(St.cg aP)⟩
 simp at g8
 refine kR ?_;refine WC.bq (σ:=Nat) (dn:=fun i=>[(0,.slice a n c),(3,.int .i64 (i:Int))]) (F:=fun i=>[]) (I:=fun i=>(1≤i)∧(i≤n)∧True) (μ:=fun i=>n - i) (1) (aP) Sub.t (⟨Nat.le_refl _,by omega,trivial⟩)<|?_;rintro i w1 st1 ⟨hi,eQ,_⟩;simp only [CA,NA] at st1 hi eQ ⊢;refine(aT) (fun g13=>?_) fun g13=>?_
 ·
  simp at g13
  have j:i<l.length:=by omega
  have k:i - 1<l.length:=by omega
  obtain⟨B,C,D,u,_,g,v,_⟩:=Rd.at hl j;have g:=RR.ba g;subst g;obtain⟨E,G,H,x,_,h,y,_⟩:=Rd.at hl k;have h:=RR.ba h;subst h
  have z:l[i]≠l[i - 1]:=fun e=>by
   exact List.pairwise_iff_getElem.1 s (i - 1) i k j (by omega) e.symm
  refine de ?_;have J:=st1.bO;refine WC.dS (m:=9) st1 mixed<|bN ?_;refine DP .r (fun _ b=>PV.dQ et (i:=i) u rfl rfl (by omega))<|DP .r (fun _ b=>VA ao (aW v (St.cg b.2) (by simp)) .r)<|bN ?_;refine DP .r (fun _ b=>(PV.sub rfl rfl (by omega) (by omega)).cast (v':=.int .i64 ((i - 1:Nat):Int)) (congrArg (Value.int .i64) (by omega)))<|DP .r (fun _ b=>PV.dQ et (i:=i - 1) x rfl rfl (by omega))<|DP .r (fun _ b=>VA ao (aW y (St.cg b.2) (by simp)) .r)<|(cQ)<|?_;rintro w2 ⟨K,st2⟩ _;refine WP .r (PV.DV fK (p:=l[i]) (q:=l[i - 1]) rfl rfl)<|(aT) (fun o=>?_) fun o=>?_
  ·
   exact absurd o (by simpa using z)
  skip
  refine gX ?_;refine eC (i+1) ⟨st2,⟨by omega,by omega,trivial⟩⟩
 simp at g13
 refine(bw) ?_;exact⟨rfl,(St.cg st1)⟩
theorem we(q:St w M Z w []) (hl:Rd RR.key 2 Z w a n c l) (h0:l≠[]) (h:l.Nodup) (hn:l.length≤1000000):Calls prog 31 #[.slice a n c] w fun e w'=>∃i j k,∃l':List Key,e=.returned (.slice i j k)∧wF l'∧l'.Perm l∧St w M Z w' [As.os RR.key 40 2 i j k l']:=by
 refine enter func31 rfl ntmps31 rfl<|?_;have aP:=q;have st1:=aP.fr hl;refine gX ?_;have st2:=st1;refine(bX) Kr (js st2.e0 (As.gr st2.g0) hn) ?_;rintro _ w1 ⟨b1,b2,c1,rfl,s⟩;have t:=St.lr st2 s;refine fO ?_;have o:=t;refine(bX) W5 (ti o.e1 h0 hn) ?_;rintro _ w2 ⟨rfl,g,b,u,v⟩;have p:=St.lr o v;have A:g.length=l.length:=b.length_eq;have x:g.Nodup:=b.nodup_iff.2 h;have y:=yV b h u;refine(eN) (mJ (Ow.rd (As.gs p.g0) (by omega)) x) p fun w3 B z=>?_;refine(bw) ?_;exact⟨b1,_,c1,g,rfl,y,b,z.p1.drop⟩
theorem xp{aa:List aG}(jo:n≤99):CR prog 55 #[.slice a r c,(bZ (n:Int)).val] w (.bool true):=by
 have b:bZ (n:Int)=⟨30,itoa n⟩:=by unfold bZ;rw [if_neg (by omega)]
 have e:(bZ (n:Int)).kind=30:=by rw [b]
 have g:(bZ (n:Int)).text=itoa n:=by rw [b]
 refine enter func55 rfl ntmps55 rfl<|?_;have aP:=St.s0 w;refine(dy) aP fun b3 w1 p q st1=>?_;refine cj ?_;have s:=st1.bO;refine WC.dB (m:=12) (E:=cB [(1,fun v _=>v=.bool true),(4,fun v _=>v=.bool false)]) st1 (bm (⟨fun _ _ _ _ _ _ _ h=>h,⟨fun _ _ _ _ _ _ _ h=>h,trivial⟩⟩)) mixed (by kernel_rfl)<|(gM) ao St.g0<|?_;refine DW.c0 (fun i j o=>ic (k:=bZ (n:Int)) (by omega) g jo)<|(gM) ao St.g0<|?_;refine DW.c1 (u:=.bool false) (fun i j o=>nR (k:=bZ (n:Int))) (by rw [show(decide ((bZ (n:Int)).kind=31) || decide ((bZ (n:Int)).kind=32))=false by(rw [e];simp)])<|(cQ) ?_;rintro w2 ⟨t,st2⟩ ⟨_,⟨_,_⟩⟩;refine(bw) ?_;exact⟨by simp,(St.cg st2)⟩
theorem xe{aa:List aG}{k:Key}{B:Nat→Prop}(hk:dX aa k) (hr:fR B w a r c aa):CR prog 55 #[.slice a r c,k.val] w (.bool true):=by
 cases hk with
 | cell h=>exact xp (aa:=aa) h
 | eX hi h=>exact wT hi h hr
end Go.Rc

