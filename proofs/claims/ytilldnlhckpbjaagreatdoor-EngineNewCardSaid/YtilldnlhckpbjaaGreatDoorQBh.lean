/- Base of the proof: frames, memory, ownership, and the plain meaning of rule systems. Conditions: as each lemma says. -/
import Derived.Test.YtilldnlhckpbjaaGreatDoorQBg
import Derived.Test.YtilldnlhckpbjaaGreatDoorQBf
import Derived.Test.YtilldnlhckpbjaaGreatDoorQBe
import Derived.Deep.Slices
import Derived.SizedLaws
import Derived.Lib.LaidU8
import Derived.Lib.LaidTab
import Derived.LaidLaws
import GoSem.ClaimFn
import Derived.JoinedOf
import Derived.LaidOnce
import Derived.TwinInFollowed
import Derived.WideShapes
set_option linter.all false
namespace Go.Rc
open Go
abbrev h0:aG:=⟨false,[⟨true,false,0,0⟩],2,0⟩
abbrev h1:aG:=⟨false,[⟨false,false,0,0⟩,⟨true,false,1,0⟩],1,0⟩
abbrev H2:List aG:=[h0,h1]
abbrev C1:Key:=bO ((1:Nat):Int)
abbrev z4:ByteArray:=⟨#[52]⟩
abbrev z2:ByteArray:=⟨#[50]⟩
theorem hU:ao H2:=by
 refine⟨by simp,fun i r h=>?_⟩
 have hi:i=0∨i=1:=by grind
 rcases hi with rfl | rfl
 ·
  simp at h;subst h
  refine⟨by simp,fun k x c=>?_,rfl⟩
  have hk:k=0:=by grind
  subst hk;simp at c;subst c;decide
 simp at h;subst h
 refine⟨by simp,fun k x c=>?_,rfl⟩
 have hk:k=0∨k=1:=by grind
 rcases hk with rfl | rfl <;> simp at c <;> subst c <;> decide
theorem nz:aN H2 ((0:Nat):Int)=K0:=by
 unfold aN
 rw [if_neg (by simp)]
 simp [aA]
theorem nA:aN H2 ((1:Nat):Int)=K1:=by
 unfold aN
 rw [if_neg (by simp)]
 simp [aA]
theorem u0:number K0=((0:Nat):Int):=by rw [← nz];exact bC (by simp) (by omega)
theorem oi:number K1=((1:Nat):Int):=by rw [← nA];exact bC (by simp) (by omega)
theorem zF:dU H2 K1:=by rw [← nA];exact .dM (by simp) (by omega)
theorem g0a:bN H2 K0 []=⟨false,⟨#[]⟩,C0⟩:=by
 rw [gB (i:=0) u0 (by simp) (by rw [u0];exact nz) (by simp)]
 rfl
theorem g0b(v:ByteArray):bN H2 K0 [v]=⟨true,itoa (cI 2 0 [bR v]),dA⟩:=by
 rw [ik (i:=0) u0 (by simp) (by rw [u0];exact nz) (by simp)]
 rfl
theorem g1a:bN H2 K1 []=⟨false,⟨#[]⟩,K0⟩:=by
 rw [gB (i:=1) oi (by simp) (by rw [oi];exact nA) (by simp)];rw [← nz];rfl
theorem g1b(v:ByteArray):bN H2 K1 [v]=⟨false,⟨#[]⟩,C1⟩:=by
 rw [gB (i:=1) oi (by simp) (by rw [oi];exact nA) (by simp)]
 rfl
theorem g1c(u v:ByteArray):bN H2 K1 [u,v]=⟨true,itoa (cI 1 0 [bR u,bR v]),dA⟩:=by
 rw [ik (i:=1) oi (by simp) (by rw [oi];exact nA) (by simp)]
 rfl
theorem Ur:itoa ((2:Nat):Int)=z2:=by simp [itoa,Lib.itoa,Lib.decDigits]
theorem vs4:bR z4=4:=by decide
theorem vs2:bR z2=2:=by decide
theorem Us{aD:List bW}:cy H2 aD K0=[C0]:=by
 have h:=di (aD:=aD) hU (i:=0) (by simp);rw [nz] at h;rw [h]
 unfold ca
 rw [show bQ H2 0=1 from rfl,nz]
 grind [dc,g0a]
theorem Ks{aD:List bW}:cy H2 aD K1=[K0,C1]:=by
 have h:=di (aD:=aD) hU (i:=1) (by simp);rw [nA] at h;rw [h]
 unfold ca
 rw [show bQ H2 1=2 from rfl,nA]
 grind [dc,g1a,g1b]
theorem IK{aD:List bW}{n:Nat}(h:bR (cellOf aD C0)=n) (hn:n<1000):valOf H2 aD K0=itoa ((n / 2:Nat):Int):=by
 have e:=eM (aD:=aD) hU (i:=0) (by simp);rw [show bQ H2 0=1 from rfl,nz] at e
 grind [dc,g0a,g0b,kM,cI,mZ]
theorem OY{aD:List bW}{n m:Nat}(h:bR (valOf H2 aD K0)=n) (c:bR (cellOf aD C1)=m) (hn:n+m<1000):valOf H2 aD K1=itoa ((n+m:Nat):Int):=by
 have e:=eM (aD:=aD) hU (i:=1) (by simp);rw [show bQ H2 1=2 from rfl,nA] at e;simp only [dc,List.nil_append] at e;rw [g1a,List.singleton_append,g1b] at e;rw [g1c,h,kM (by omega),c] at e
 grind [cI,mZ]
abbrev iA:List bW:=[⟨C0,z4,1⟩]
abbrev iB:List bW:=[⟨C0,z5,2⟩]
theorem fA0:bf iA C0=⟨C0,z4,1⟩:=by grind [bf]
theorem fB0:bf iB C0=⟨C0,z5,2⟩:=by grind [bf]
theorem Ut:(C0 == C1)=false:=by simp [bO,itoa,Lib.itoa,Lib.decDigits]
theorem fB1:bf iB C1=⟨C1,⟨#[]⟩,0⟩:=by grind [bf,Ut]
theorem vA0:valOf H2 iA K0=z2:=by rw [IK (n:=4) (by grind [cellOf,fA0,vs4]) (by omega)];exact Ur
theorem vB0:valOf H2 iB K0=z2:=by rw [IK (n:=5) (by grind [cellOf,fB0,vs5]) (by omega)];exact Ur
theorem vB1:valOf H2 iB K1=z2:=by rw [OY (n:=2) (m:=0) (by rw [vB0];exact vs2) (by grind [cellOf,fB1,vsE]) (by omega)];exact Ur
theorem Uu:aw C1=true:=aR (n:=1) (by omega)
theorem Ed{x:cB}(c:LC H2 x) {y:Key}(h:az x y=true):y=K0∨y=K1:=by
 obtain⟨r,h1,_⟩:=aL.1 h;obtain⟨g1,g2⟩:=aH h1;obtain⟨k1,k2,_⟩:=c.lb.tM.kr r g1;rw [g2] at k1 k2
 cases k1 with
 | cell d=>grind [aR]
 | @dM i hi _=>grind [nz,nA]
section
variable {x b y b2:cB}{bG adC rs:List Key}
theorem GY(c:LC H2 x) (hn:x.ai=[]) (h:dD H2 (valOf H2 x.ab) [K1] x b [] bG) (hu:az b K1=true):bG.length=2∧az b K0=true:=by
 have hk:∀k∈[K1],dU H2 k:=fun k hk=>by grind [zF]
 have d:∀y,ay x.ai y=none:=fun y=>by rw [hn];rfl
 have e:∀y,az x y=false:=fun y=>by unfold az;rw [d y];rfl
 obtain⟨hb,_,_,hw,_⟩:=h.done hU c hk
 have h0:az b K0=true:=by
  rcases h.reads hU c hk (e K1) hu (a:=K0) (by rw [Ks];simp) with h | h
  ·
   rw [Cn] at h;cases h
  exact h
 refine⟨?_,h0⟩
 have g:bG.Perm [K0,K1]:=(List.perm_ext_iff_of_nodup hw.jq (by have:=OW;simp [this])).2 fun y=>by
  rw [h.mem hU c hk];simp only [List.mem_cons,List.not_mem_nil,or_false]
  constructor
  ·
   grind [Ed]
  rintro(rfl | rfl)
  ·
   exact⟨⟨Cn,e _,.inl (d _)⟩,h0⟩
  exact⟨⟨Ec,e _,.inl (d _)⟩,hu⟩
 exact g.length_eq
theorem GZ(hb:LC H2 b) (hr:b.ad=1) (h0:az b K0=true) (h1:az b K1=true) (D:∀r∈b.ai,r.aq=b.ad→r.value=valOf H2 iA r.key) (hy:LC H2 y) (e:y=⟨2,iB,b.ai⟩) (h:dD H2 (valOf H2 y.ab) [K1] y b2 [] bG) (hu:az b2 K1=true) (u:rs.Perm bG):rs=[K0]∧gg b2 K1=true∧jw b2 K1=z2:=by
 have hk:∀k∈[K1],dU H2 k:=fun k hk=>by grind [zF]
 obtain⟨E,_,F,hw,v⟩:=h.done hU hy hk;obtain⟨q0,f0,v0⟩:=aL.1 h0;obtain⟨q1,f1,v1⟩:=aL.1 h1;obtain⟨m0,k0⟩:=aH f0;obtain⟨m1,k1⟩:=aH f1;obtain⟨G,g⟩:=hb.bh
 have r0:q0.reads=[C0]:=by rw [(g.c.vr q0 m0).2,k0];exact Us
 have r1:q1.reads=[K0,C1]:=by rw [(g.c.vr q1 m1).2,k1];exact Ks
 have j:ay y.ai K0=some q0:=by rw [e];exact f0
 have n:ay y.ai K1=some q1:=by rw [e];exact f1
 have I:y.ad=2:=by rw [e]
 have o:y.ab=iB:=by rw [e]
 have w0:q0.aq=1:=by rw [v0,hr]
 have w1:q1.aq=1:=by rw [v1,hr]
 have A:az y K0=false:=by grind [az]
 have n1:az y K1=false:=by grind [az]
 have J:az b2 K0=true:=by
  rcases h.reads hU hy hk n1 hu (a:=K0) (by rw [Ks];simp) with h | h
  ·
   rw [Cn] at h;cases h
  exact h
 have Uq:zu (valOf H2 y.ab) y K0:=by
  refine⟨Cn,A,.inr (.inr ⟨K0,C0,fq,by rw [aK j,r0];simp,?_,?_⟩)⟩
  ·
   rw [ft rfl];simpa using OV
  rw [aK j,w0]
  unfold aZ
  rw [if_pos OU,o,fB0]
  decide
 have Up:¬zu (valOf H2 y.ab) y K1:=by
  rintro⟨_,_,h | h | ⟨m,a,hm,s,_,d⟩⟩
  ·
   rw [n] at h;cases h
  ·
   rw [aK n] at h
   have:=g.dv q1 m1 h
   omega
  rw [ft rfl,List.mem_singleton] at hm;subst hm;rw [aK n,r1] at s;rw [aK n,w1] at d;simp only [List.mem_cons,List.not_mem_nil,or_false] at s
  rcases s with rfl | rfl
  ·
   have B:valOf H2 y.ab K0=q0.value:=by grind [vB0,vA0]
   have K:=(g.c.B8 q0 m0).2
   unfold aZ at d
   rw [if_neg (by rw [Cn];simp),j,aK j,B] at d
   simp at d
   omega
  unfold aZ at d
  rw [if_pos Uu,o,fB1] at d
  simp at d
 have C:bG.Perm [K0]:=(List.perm_ext_iff_of_nodup hw.jq (by simp)).2 fun z=>by
  rw [h.mem hU hy hk,List.mem_singleton]
  grind [Ed]
 have t:gg b2 K1=true:=by unfold gg;rw [Ec];exact hu
 refine⟨List.perm_singleton.1 (u.trans C),t,?_⟩;obtain⟨r,fr,vr⟩:=aL.1 hu;obtain⟨g1,g2⟩:=aH fr
 unfold jw
 rw [if_neg (by rw [Ec];simp),if_pos t,aK fr,v r g1 vr,g2,o];exact vB1
theorem smA:∀c∈[(⟨C0,z4⟩:Change)],c.small:=fun c hc=>by
 rw [List.mem_singleton.1 hc];exact⟨⟨0,by omega,by omega,rfl⟩,by decide⟩
theorem aoA(h:AO ⟨0,[],[]⟩ [⟨C0,z4⟩] y):y=⟨1,iA,[]⟩:=h.one _ rfl (by decide) (by decide)
theorem aoB(hi:b.ab=iA) (hr:b.ad=1) (h:AO b [⟨C0,z5⟩] y):y=⟨2,iB,b.ai⟩:=by
 have h1:=h.one _ rfl (by rw [hi,fA0];decide) (by rw [hr];decide)
 grind [eu,fA]
end
end Go.Rc

namespace Go.Rc
open Go
theorem Co{aa:List aG}{b:cB}{r:Rec}(e:ao aa) (hb:LC aa b) (hr:r∈b.ai):dU aa r.key∧fL aa r.key=true:=by
 obtain⟨k1,k2,_⟩:=hb.lb.tM.kr r hr;refine⟨k1,?_⟩;obtain⟨k,v,rd,c,g,co,d⟩:=r;simp only at k1 k2 ⊢
 cases k1 with
 | cell h=>grind [aR]
 | @dM i hi _=>exact tK e hi
end Go.Rc

namespace Go.Rc
open Go
end Go.Rc

namespace Go.Rc
open Go
end Go.Rc

namespace Go.Rc
open Go
end Go.Rc

namespace Go.Rc
open Go
end Go.Rc

namespace Go.Rc
open Go
end Go.Rc

namespace Go.Rc
open Go
end Go.Rc

namespace Go.Rc
open Go
end Go.Rc

namespace Go.Rc
open Go
inductive Nd (aa:List aG) (x:cB) (goals:List Key):Key→Prop where
 | goal {k:Key}:k∈goals→Nd aa x goals k
 | read {y a:Key}:Nd aa x goals y→az x y=false→a∈cy aa x.ab y→Nd aa x goals a
section
variable {aa:List aG}{aD kP:List bW}{H:Int→List bW}{x b b':cB}{l l' p:List bZ}{f:bZ}{bG goals Kt:List Key}{k y a:Key}{i q:Nat}{on:Key→Bool}
theorem fU(c:ao aa) (hi:i<aa.length) (hr:aA aa i=true):ca aa aD i=aa[i].asks.map (bm aa):=by
 unfold ca
 rw [tB c hi hr _ _ (by rw [cW hi];exact Nat.le_refl _),cW hi,List.take_length]
theorem Cp(q:Nat) (h:∀j,j<q→valOf aa aD (iD aa aD i j)=valOf aa kP (iD aa aD i j)):pI aa aD i q=pI aa kP i q:=by
 induction q with
 | zero=>unfold pI;simp only [dc]
 | succ q c=>grind [iD,B6]
theorem eO(c:ao aa) (hi:i<aa.length):cy aa aD (aN aa (i:Int))=ca aa aD i:=di c hi
theorem Nd.leads(d:ao aa) (g:Bi aa H on b) (z:∀y,az x y=true→az b y=true) (hk:Nd aa x goals k) (n:bU b.ai b.ad k=true) (hl:bK b.ai b.ad k y):Nd aa x goals y:=by
 have step:∀m a,Nd aa x goals m→bU b.ai b.ad m=true→Ld b.ai b.ad m a→Nd aa x goals a:=fun m a hm o s=>by
  obtain⟨r,h1,j,A,B⟩:=bw.1 o;obtain⟨g1,g2⟩:=aH h1;obtain⟨i,hi,e⟩:=g.kr r g1;have C:=d.len;have em:m=aN aa (i:Int):=g2.symm.trans e;subst em
  have hr:aA aa i=true:=by grind [aW]
  have hn:az x (aN aa (i:Int))=false:=by grind [aL]
  refine .read hm hn ?_;have t:=s.1;rw [aK h1,(g.c.vr r g1).2,g2,eO d hi,fU d hi hr] at t
  grind [eO,fU]
 have u:∀{m:Key},bK b.ai b.ad k m→bU b.ai b.ad m=true:=fun h=>h.kA
 induction hl with
 | one h1=>exact step _ _ hk n h1
 | step h1 j v=>exact step _ _ v (u h1) j
theorem Nd.group(c:ao aa) (d:Bi aa H on b) (e:∀y,az x y=true→az b y=true) (hk:Nd aa x goals k) (g:y∈aB b.ai b.ad k):Nd aa x goals y:=by
 rcases bD.1 g with rfl | ⟨h,hm⟩
 ·
  exact hk
 exact hk.leads c d e h hm.1
theorem dD.need(d:ao aa) (N:LC aa x) (hk:∀k∈goals,dU aa k) (h:dD aa (valOf aa x.ab) goals x b l bG):(∀f∈l,Nd aa x goals f.key)∧∀y,az x y=false→az b y=true→Nd aa x goals y:=by
 induction h with
 | start=>grind
 | take h1 t hn C=>exact⟨fun f v=>by rw [List.mem_singleton.1 v];exact .goal t,C.2⟩
 | @step b b' p l' f bG rk h1 O Q C=>
  obtain⟨I,s⟩:=C;obtain⟨⟨H,o⟩,h3,h4⟩:=h1.inv d N hk;have CT:=d.len;have J:∀y,az x y=true→az b y=true:=fun y hy=>h1.IH hy;have A:Nd aa x goals f.key:=I f (by simp);have D:az x f.key=false:=(o.nr f (by simp)).2;obtain⟨i,hi,u⟩:=o.top.key;have E:∀g∈p,Nd aa x goals g.key:=fun g t=>I g (List.mem_append_left _ t)
  have same:∀{z:bZ},z.key=f.key→∀g∈p++[z],Nd aa x goals g.key:=fun {z} R g t=>by grind
  have more:∀{z:bZ},Nd aa x goals z.key→∀g∈p++[f]++[z],Nd aa x goals g.key:=fun {z} R g t=>by grind
  cases O with
  | put hr K=>
   refine⟨E,fun y hy hu=>?_⟩
   by_cases e:y=f.key
   ·
    rw [e];exact A
   obtain⟨r,g1,g2⟩:=aL.1 hu;have g1:ay (eJ b.ai (bY b f.key (aM aa f.key f.ae).value f.reads)) y=some r:=g1;rw [ck,if_neg (show ¬y=(bY b f.key (aM aa f.key f.ae).value f.reads).key from e)] at g1
   grind [aL]
  | push hr K hl=>
   refine⟨more (.read A D ?_),s⟩;obtain⟨n,hn,e1,e2⟩:=(o.top.run hr).2.2.2.1 i hi u
   have e2:f.ae=pI aa x.ab i n:=by rw [e2,u];rfl
   have hlen:f.ae.length=n:=by rw [e2];exact kO _ _
   rw [u,cY hi (by omega)] at K
   have S:n<bQ aa i:=by grind [et]
   show(aM aa f.key f.ae).ask∈_
   rw [u,cY hi (by omega),eO d hi,e2];exact List.mem_of_getElem? (dV S)
  | o0 c hr hl hc yO=>
   refine⟨more ?_,s⟩
   show Nd aa x goals c.read
   obtain⟨hm,L,hnG⟩:=dO.1 (List.mem_of_getElem? hc);obtain⟨r0,g1,g2,g3⟩:=id hl;have T:=A.group d o.bi J hm
   rcases bD.1 hm with e | ⟨ho,U⟩
   ·
    cases SZ:ax f.key with
    | true=>
     have B:aA aa i=true:=by grind [aW]
     rw [e,aK g1,(o.bi.c.vr r0 (aH g1).1).2,(aH g1).2,u,eO d hi,fU d hi B] at L;refine .read A D ?_
     grind [eO,fU]
    | false=>
     have B:aA aa i=false:=by grind [aW]
     have V:r0.reads=ca aa (H r0.aq) i:=by rw [(o.bi.c.vr r0 (aH g1).1).2,(aH g1).2,u,eO d hi]
     have adG:∀a∈r0.reads,a≠f.key:=fun a F e9=>by
      rw [V] at F
      rcases(od d hi F).1 with⟨n,hn,h9⟩ | ⟨m,m1,m2,_,m3,_⟩
      ·
       grind [cG,aR]
      grind [bC]
     have W:cj b.ai (aB b.ai b.ad f.key)=r0.reads.map fun a=>(⟨f.key,a⟩:oU):=by grind [ft,cj,cN,aK,List.filter_eq_self]
     have X:=(o.top.BV hr).2.2.2 hl;rw [W] at hc X;rw [List.getElem?_map] at hc;obtain⟨a,F,rfl⟩:=Option.map_eq_some_iff.1 hc
     have Y:f.at_.toNat<bQ aa i:=by grind [jT]
     have Z:a=iD aa (H r0.aq) i f.at_.toNat:=by grind [dV]
     have IL:=Cp (aa:=aa) (aD:=H r0.aq) (kP:=x.ab) (i:=i) f.at_.toNat fun j G=>by grind [dV,aK]
     refine .read A D ?_
     show a∈_
     rw [Z,u,eO d hi]
     have h8:iD aa (H r0.aq) i f.at_.toNat=iD aa x.ab i f.at_.toNat:=by unfold iD;rw [IL]
     rw [h8];exact List.mem_of_getElem? (dV Y)
   obtain⟨r,w1,w2,w3,w4⟩:=bw.1 U.kA;obtain⟨m1,m2⟩:=aH w1;obtain⟨j,G,e⟩:=o.bi.kr r m1;have em:c.fm=aN aa (j:Int):=m2.symm.trans e
   have B:aA aa j=true:=by grind [aW]
   have hn:az x c.fm=false:=by grind [aL]
   rw [aK w1,(o.bi.c.vr r m1).2,m2,em,eO d G,fU d G B] at L;refine .read T hn ?_
   grind [eO,fU]
  | mark hr hl hn=>
   refine⟨E,fun y hy hu=>?_⟩
   by_cases t:y∈aB b.ai b.ad f.key
   ·
    exact A.group d o.bi J t
   obtain⟨r2,e1,e2⟩:=aL.1 hu;have e1:ay (b.ai.map (aY b.ad (aB b.ai b.ad f.key) false)) y=some r2:=e1;rw [bE] at e1
   cases v:ay b.ai y with
   | none=>rw [v] at e1;cases e1
   | some r3=>
    rw [v] at e1;simp only [Option.map_some,Option.some.injEq] at e1;have h5:=(aH v).2
    have M:r2=r3:=by
     rw [← e1]
     unfold aY
     grind
    exact s y hy (aL.2 ⟨r3,v,by rw [← M];exact e2⟩)
  | fail c hr hl hc h5 M h7=>
   refine⟨same rfl,fun y hy hu=>s y hy ?_⟩
   grind [kQ]
  | stay=>exact absurd rfl Q
  | read=>exact⟨same rfl,s⟩
  | up=>exact⟨E,s⟩
  | start=>exact⟨same rfl,s⟩
  | pass=>exact⟨same rfl,s⟩
theorem Nd.up(d:ao aa) (e:LC aa x) (hk:∀k∈goals,dU aa k) (h:dD aa (valOf aa x.ab) goals x b [] bG) (hu:∀k∈goals,aw k=true∨az b k=true) (hn:Nd aa x goals y):aw y=true∨az b y=true:=by
 induction hn with
 | goal g=>exact hu _ g
 | @read y a _ h1 j m=>
  rcases m with c | c
  ·
   grind [uR]
  exact h.reads d e hk h1 c j
theorem dD.runs(c:ao aa) (d:LC aa x) (hk:∀k∈goals,dU aa k) (h:dD aa (valOf aa x.ab) goals x b [] bG) (hu:∀k∈goals,aw k=true∨az b k=true):y∈bG↔zu (valOf aa x.ab) x y∧Nd aa x goals y:=by
 rw [h.mem c d hk]
 constructor
 ·
  exact fun⟨h1,e⟩=>⟨h1,(h.need c d hk).2 y h1.2.1 e⟩
 exact fun⟨h1,e⟩=>⟨h1,(e.up c d hk h hu).resolve_left (by rw [h1.1];simp)⟩
end
end Go.Rc

namespace Go.Rc
open Go
section
variable {aa:List aG}{H:Int→List bW}{x b b':cB}{l l' p:List bZ}{f:bZ}{bG rk goals Kt:List Key}{k y a:Key}{val:Key→ByteArray}{er:Int}{r:Rec}
theorem q9{G:List Key}{d:Bool}{rev:Int}{l:List Rec}(h:y∉G):ay (l.map (aY rev G d)) y=ay l y:=by
 rw [bE]
 cases c:ay l y with
 | none=>rfl
 | some r=>
  have e:=(aH c).2;simp only [Option.map_some,Option.some.injEq]
  unfold aY
  grind
theorem o9(hu:az b y=true) (hl:Live b.ai b.ad k):y∉aB b.ai b.ad k:=fun c=>by
 obtain⟨r,h1,d⟩:=aL.1 hu
 rcases bD.1 c with rfl | ⟨_,hm⟩
 ·
  obtain⟨q,g1,_,g3⟩:=hl
  grind
 obtain⟨q,g1,_,g3,_⟩:=bw.1 hm.kA
 grind
theorem FS.stays(d:FS aa val b p f b' l' rk er) (g:f.running=true→az b f.key=false) (hy:az b y=true):ay b'.ai y=ay b.ai y:=by
 cases d with
 | put hr=>
  have h1:=g hr
  have h:¬y=(bY b f.key (aM aa f.key f.ae).value f.reads).key:=fun e=>by
   have e:y=f.key:=e;rw [e,h1] at hy;cases hy
  show ay (eJ b.ai _) y=_
  rw [ck,if_neg h]
 | mark hr hl=>exact q9 (o9 hy hl)
 | fail c hr hl=>
  split
  ·
   exact q9 (o9 hy hl)
  rfl
 | _=>rfl
theorem dD.more(d:ao aa) (n:LC aa x) (hk:∀k∈goals,dU aa k) (h:dD aa (valOf aa x.ab) goals x b l bG):(∀y∈bG,(aF b.ai y).cost=1+((aF b.ai y).reads.length:Int))∧∀y,(aF b.ai y).bV=true→(aF x.ai y).bV=true∨Nd aa x goals y:=by
 induction h with
 | start=>grind
 | take h1 o hn g=>exact g
 | @step b b' p l' f bG rk h1 s B g=>
  obtain⟨u,j⟩:=g;obtain⟨⟨H,m⟩,C,D⟩:=h1.inv d n hk;have v:∀y,az x y=true→az b y=true:=fun y hy=>h1.IH hy;have t:Nd aa x goals f.key:=(h1.need d n hk).1 f (by simp);have z:∀y,az b y=true→ay b'.ai y=ay b.ai y:=fun y hy=>s.stays (fun hr=>(m.top.run hr).2.1) hy
  have hold:∀y∈bG,(aF b'.ai y).cost=1+((aF b'.ai y).reads.length:Int):=fun y hy=>by
   have e:aF b'.ai y=aF b.ai y:=by unfold aF;rw [z y (m.wy.ID y hy)]
   rw [e];exact u y hy
  cases s with
  | put hr E=>
   have e2:ay (eJ b.ai (bY b f.key (aM aa f.key f.ae).value f.reads)) f.key=some (bY b f.key (aM aa f.key f.ae).value f.reads):=by
    rw [ck];exact if_pos rfl
   refine⟨fun y hy=>?_,fun y hy=>?_⟩
   ·
    rcases List.mem_append.1 hy with hy | hy
    ·
     exact hold y hy
    rw [List.mem_singleton] at hy;subst hy
    show(aF (eJ b.ai _) f.key).cost=_
    rw [aK e2]
    rfl
   by_cases e:y=f.key
   ·
    exact .inr (e ▸ t)
   refine j y ?_
   have e3:ay (eJ b.ai (bY b f.key (aM aa f.key f.ae).value f.reads)) y=ay b.ai y:=by
    rw [ck,if_neg (show ¬y=(bY b f.key (aM aa f.key f.ae).value f.reads).key from e)]
   grind [aF]
  | mark hr hl hn=>
   rw [List.append_nil];refine⟨hold,fun y hy=>j y ?_⟩;have hy:(aF (b.ai.map (aY b.ad (aB b.ai b.ad f.key) false)) y).bV=true:=hy
   unfold aF at hy ⊢
   rw [bE] at hy
   cases A:ay b.ai y with
   | none=>rw [A] at hy;exact hy
   | some r=>grind [aY]
  | fail c hr hl hc F G I=>
   rw [List.append_nil];refine⟨hold,fun y hy=>?_⟩
   by_cases o:y∈aB b.ai b.ad f.key
   ·
    exact .inr (t.group d m.bi v o)
   refine j y ?_
   split at hy
   ·
    have hy:(aF (b.ai.map (aY b.ad (aB b.ai b.ad f.key) true)) y).bV=true:=hy
    grind [aF,q9]
   exact hy
  | stay=>grind
  | push=>grind
  | read=>grind
  | up=>grind
  | start=>grind
  | o0=>grind
  | pass=>grind
open Classical in
noncomputable def Ku(aa:List aG) (x:cB) (goals:List Key) (k:Key):Option Rec:=
 if Nd aa x goals k∧aw k=false∧az x k=false then
  if zu (valOf aa x.ab) x k then some ⟨k,valOf aa x.ab k,cy aa x.ab k,if (ay x.ai k).isSome∧(aF x.ai k).value=valOf aa x.ab k then (aF x.ai k).changed else x.ad,x.ad,1+((cy aa x.ab k).length:Int),false⟩
  else (ay x.ai k).map fun r=>{r with aq:=x.ad}
 else ay x.ai k
theorem dD.fin(d:ao aa) (g:LC aa x) (hk:∀k∈goals,dU aa k) (h:dD aa (valOf aa x.ab) goals x b [] bG) (hu:∀k∈goals,aw k=true∨az b k=true) (k:Key):ay b.ai k=Ku aa x goals k:=by
 obtain⟨hb,dw,z,hw,A⟩:=h.done d g hk;obtain⟨I,o⟩:=hb.bh;obtain⟨B,C⟩:=h.more d g hk;have D:=(h.need d g hk).2;have u:=fun y=>h.mem (y:=y) d g hk;have m:=hw.ev.pt k;simp only at m
 unfold Ku
 by_cases s:Nd aa x goals k∧aw k=false∧az x k=false
 ·
  rw [if_pos s];obtain⟨n1,n2,n3⟩:=s;have j:az b k=true:=(n1.up d g hk h hu).resolve_left (by rw [n2];simp);obtain⟨r,f1,f2⟩:=aL.1 j;obtain⟨m1,m2⟩:=aH f1
  by_cases n:zu (valOf aa x.ab) x k
  ·
   rw [if_pos n,f1];have t:k∈bG:=(u k).2 ⟨n,j⟩;have hc:=B k t;rw [aK f1] at hc
   have J:r.reads=cy aa x.ab k:=by
    have:=(o.c.vr r m1).2
    rw [f2,o.c.now,dw,m2] at this;exact this
   have E:r.value=valOf aa x.ab k:=by rw [A r m1 f2,m2]
   have v:r.bV=false:=by
    cases e:r.bV with
    | false=>rfl
    | true=>have:=o.dv r m1 e;omega
   have K:r.changed=if (ay x.ai k).isSome∧(aF x.ai k).value=valOf aa x.ab k then (aF x.ai k).changed else x.ad:=by
    rcases m with e | ⟨_,q,e1,_,e2,e3 | e3⟩ | ⟨_,_,r',e3,_,_,_,e6,L⟩
    ·
     grind [aL]
    ·
     rw [f1] at e3;cases e3;rw [e1,aK e1,if_pos ⟨rfl,E⟩]
    ·
     grind
    rw [f1] at e3;cases e3
    cases M:ay x.ai k with
    | none=>grind
    | some q=>grind [aK]
   obtain⟨N,rv,rr,rc,O,Q,R⟩:=r
   grind
  rw [if_neg n,f1];have t:k∉bG:=fun hm=>n ((u k).1 hm).1
  rcases m with e | ⟨_,q,e1,_,e2,e3 | e3⟩ | ⟨⟨e1,_⟩,_⟩
  ·
   grind [aL]
  ·
   grind
  ·
   grind
  exact absurd e1 t
 rw [if_neg s]
 have F:az x k=false→az b k=false:=fun h0=>by
  cases j:az b k with
  | false=>rfl
  | true=>
   have hn:=D k h0 j
   cases hi:aw k with
   | false=>grind
   | true=>
    obtain⟨r,f1,_⟩:=aL.1 j
    have:=hb.lb.tM.kr.aD hi
    rw [this] at f1;cases f1
 rcases m with e | ⟨_,q,e1,e0,e2,e3 | e3⟩ | ⟨⟨e1,_⟩,e2,r',e3,S,_⟩
 ·
  exact e
 ·
  exfalso
  have h0:az x k=false:=by grind [aL]
  have:=F h0
  rw [aL.2 ⟨_,e3,z.symm⟩] at this
  cases this
 ·
  exfalso
  have G:=C k (by rw [aK e3])
  rcases G with v | v
  ·
   grind [aK]
  have T:aw k=false:=by
   cases hi:aw k with
   | false=>rfl
   | true=>rw [hb.lb.tM.kr.aD hi] at e3;cases e3
  grind [aL]
 exfalso
 have h0:=(hw.bG k e1).2.1
 grind
end
end Go.Rc

namespace Go.Rc
open Go
end Go.Rc

namespace Go.Rc
open Go
end Go.Rc

namespace Go.Rc
open Go
section
variable {aa:List aG}{x b:cB}{bG rs goals:List Key}{k y:Key}{r:Rec}
theorem Ee(hn:x.ai=[]):az x y=false:=by simp [az,hn,ay]
theorem Ef(hn:x.ai=[]):Nd aa x goals y↔∃k∈goals,zq aa x.ab k y:=by
 constructor
 ·
  intro h
  induction h with
  | goal h=>exact⟨_,h,.refl⟩
  | read _ _ h c=>obtain⟨k,h1,d⟩:=c;exact⟨k,h1,.step d h⟩
 rintro⟨k,h1,d⟩
 induction d with
 | refl=>exact .goal h1
 | step _ h c=>exact .read c (Ee hn) h
theorem G0(hn:x.ai=[]):zu (valOf aa x.ab) x y↔aw y=false:=by
 unfold zu
 rw [Ee hn,hn]
 simp [ay]
theorem G1(c:ao aa) (d:LC aa x) (hk:∀k∈goals,dU aa k) (h:dD aa (valOf aa x.ab) goals x b [] bG) (hu:∀k∈goals,aw k=true∨az b k=true) (hn:x.ai=[]):y∈bG↔aw y=false∧∃k∈goals,zq aa x.ab k y:=by
 rw [h.runs c d hk hu,G0 hn,Ef hn]
theorem Eg(c:ao aa) (d:LC aa x) (hk:∀k∈goals,dU aa k) (h:dD aa (valOf aa x.ab) goals x b [] bG) (hu:∀k∈goals,aw k=true∨az b k=true) (hn:x.ai=[]) (e:rs.Perm bG) (g:sD rs) {wl:List Key}
  (hw:∀y,y∈wl↔aw y=false∧∃k∈goals,zq aa x.ab k y):rs=iY wl:=
 qV g (xx _) fun y=>by rw [e.mem_iff,G1 c d hk h hu hn,lC,hw]
theorem xE(c:ao aa) (d:LC aa x) (hk:∀k∈goals,dU aa k) (h:dD aa (valOf aa x.ab) goals x b [] bG) (hu:∀k∈goals,aw k=true∨az b k=true) (hn:x.ai=[]) (k:Key):(k∈bG→ay b.ai k=some ⟨k,valOf aa x.ab k,cy aa x.ab k,x.ad,x.ad,1+((cy aa x.ab k).length:Int),false⟩)∧(k∉bG→ay b.ai k=none):=by
 have h1:=h.runs (y:=k) c d hk hu;rw [h.fin c d hk hu k]
 unfold Ku
 have e:ay x.ai k=none:=by rw [hn];rfl
 refine⟨fun hm=>?_,fun hm=>?_⟩
 ·
  obtain⟨hw,g⟩:=h1.1 hm;rw [if_pos ⟨g,hw.1,hw.2.1⟩,if_pos hw,e]
  simp
 rw [e]
 split
 ·
  rename_i j
  rw [if_neg fun hw=>hm (h1.2 ⟨hw,j.1⟩)]
  rfl
 rfl
theorem G2(c:ao aa) (d:LC aa x) (hk:∀k∈goals,dU aa k) (h:dD aa (valOf aa x.ab) goals x b [] bG) (hu:∀k∈goals,aw k=true∨az b k=true) (hn:x.ai=[]) (hr:r∈b.ai):r.value=valOf aa x.ab r.key∧r.reads=cy aa x.ab r.key∧r.changed=x.ad∧r.aq=x.ad∧r.cost=1+((cy aa x.ab r.key).length:Int)∧r.bV=false:=by
 obtain⟨hb,_⟩:=h.done c d hk;obtain⟨H,e⟩:=hb.bh;have h1:=eT e.st hr;obtain⟨g,j⟩:=xE c d hk h hu hn r.key
 by_cases hm:r.key∈bG
 ·
  rw [g hm] at h1;simp only [Option.some.injEq] at h1;rw [← h1]
  simp
 rw [j hm] at h1;cases h1
theorem G3(d:ao aa) (g:LC aa x) (hk:∀k∈goals,dU aa k) (h:dD aa (valOf aa x.ab) goals x b [] bG) (hu:∀k∈goals,aw k=true∨az b k=true) (hn:x.ai=[]) (n:rs.Perm bG):b.ai.length=rs.length:=by
 obtain⟨hb,_,_,hw,_⟩:=h.done d g hk;obtain⟨H,j⟩:=hb.bh
 have o:(b.ai.map (·.key)).Pairwise fun a c=>bl a c<0:=by rw [List.pairwise_map];exact j.st
 have s:(b.ai.map (·.key)).Nodup:=o.imp fun {a c} h e=>by rw [e,fA] at h;omega
 have h1:(b.ai.map (·.key)).Perm bG:=(List.perm_ext_iff_of_nodup s hw.jq).2 fun y=>by
  obtain⟨t,u⟩:=xE d g hk h hu hn y
  constructor
  ·
   intro hy;obtain⟨r,hr,rfl⟩:=List.mem_map.1 hy;have m:=eT j.st hr
   exact Classical.byContradiction fun hm=>by rw [u hm] at m;cases m
  intro hy;exact List.mem_map.2 ⟨_,(aH (t hy)).1,rfl⟩
 rw [n.length_eq,← h1.length_eq,List.length_map]
theorem Eh{L wl:List Key}{aD:List bW}{i:Nat}(hi:i<goals.length) (e:∀y,y∈L↔zq aa aD goals[i] y) (hw:∀y,y∈wl↔aw y=false∧∃k∈goals.take i,zq aa aD k y) (y:Key) :
  y∈wl++L.filter (fun y=>!aw y)↔aw y=false∧∃k∈goals.take (i+1),zq aa aD k y:=by
 rw [List.take_succ_eq_append_getElem hi,List.mem_append,List.mem_filter,hw,e];simp only [Bool.not_eq_true',List.mem_append,List.mem_singleton]
 constructor
 ·
  rintro(⟨h1,k,c,d⟩ | ⟨h1,c⟩)
  ·
   exact⟨h1,k,.inl c,d⟩
  exact⟨c,_,.inr rfl,h1⟩
 rintro⟨h1,k,c | rfl,d⟩
 ·
  exact .inl ⟨h1,k,c,d⟩
 exact .inr ⟨d,h1⟩
theorem pa{L:List Key}{p:Key→Bool}{j:Nat}(c:j<L.length):(L.take (j+1)).filter p=(L.take j).filter p++if p L[j]=true then [L[j]] else []:=by
 rw [List.take_succ_eq_append_getElem c,List.filter_append]
 by_cases h:p L[j]=true <;> simp [h]
end
end Go.Rc

namespace Go.Rc
open Go
section
variable {H:Type}{enc:TypeId × Value→H}{P:Program}{w:World}
theorem pc{e:TypeId}:∀{l:List (DataW H)}{d:DataW H},d∈l→∀n∈d.weights P e,n∈DataW.weightsAll P e l
 | [],_,c,_,_=>by cases c
 | x::r,d,c,n,hn=>by
  simp only [DataW.weightsAll,List.mem_append]
  rcases List.mem_cons.1 c with rfl | c
  ·
   exact .inl hn
  exact .inr (pc c n hn)
def Ei(P:Program) (t:TypeId) (d:DataW H):Prop:=∀n∈d.weights P t,n≤reachBytes
theorem Ei.len{t e:TypeId}{xs c:List (DataW H)}(h:Ei P t (.slice xs c)) (ht:P.underlying t=some (.slice e)) (hb:1≤P.bytesOf e):xs.length≤140737488355328:=by
 have h1:=h ((xs.length+c.length)*P.bytesOf e) (by simp only [DataW.weights,ht];exact List.mem_cons_self)
 unfold reachBytes at h1
 have d:xs.length*1≤(xs.length+c.length)*P.bytesOf e:=Nat.mul_le_mul (by omega) hb
 omega
theorem Ei.elem{t e:TypeId}{xs c:List (DataW H)}(h:Ei P t (.slice xs c)) (ht:P.underlying t=some (.slice e)) {d:DataW H}(g:d∈xs):Ei P e d:=fun n hn=>
 h n (by simp only [DataW.weights,ht,List.mem_cons,List.mem_append];exact .inr (.inl (pc g n hn)))
theorem Ei.each{c:List TypeId}{ds:List (DataW H)}(h:(DataW.weightsEach P c ds).all (·≤reachBytes)=true) {j:Nat}{t:TypeId}{d:DataW H}(ht:c[j]?=some t) (e:ds[j]?=some d):Ei P t d:=fun n hn=>by
 have:=List.all_eq_true.1 h n (DataW.weights_mem_each ht e n hn)
 simpa using this
theorem G4{α:Type} [Inhabited α] {R:α→List Value→Prop}{t e:TypeId}{k fuel n c:Nat}{a:Option Addr}{d:DataW H}{p:List MemPlace}(ht:P.underlying t=some (.slice e)) (hk:P.cellsOf e=k) (Q:1≤k) (hb:1≤P.bytesOf e)
  (G:∀(m:Nat) (cs:List Value) (d:DataW H) (p:List MemPlace),DataW.trod enc P w 0 (fun _=>true) true m e cs=some (d,p)→cs.length=k→Ei P e d→∃x:α,R x cs)
  (h:DataW.trod enc P w 0 (fun _=>true) true fuel t [.slice a n c]=some (d,p)) (hl:Ei P t d):∃xs:List α,LR (fun b=>b<w.heap.size) w k R a n xs:=by
 rcases Deep.open_slice ht h with⟨hc,_⟩ | ⟨z,len,cap,m,S,D,T,hc,_,hle,_,hm,g,I⟩
 ·
  simp only [List.cons.injEq,Value.slice.injEq,and_true] at hc;obtain⟨rfl,rfl,rfl⟩:=hc;exact⟨[],⟨rfl,by omega,fun g=>by simp at g⟩⟩
 simp only [List.cons.injEq,Value.slice.injEq,and_true] at hc;obtain⟨rfl,rfl,rfl⟩:=hc;simp only [Prod.mk.injEq] at g;obtain⟨rfl,_⟩:=g;simp only [if_true] at hm
 have hn:n≤140737488355328:=by simpa using hl.len ht hb
 have each:∀i,i<n→∃q:α × List Value,w.cells? 0 (z.add (i*k)) k=some q.2∧R q.1 q.2:=fun i hi=>by
  obtain⟨J,h1,K⟩:=I i (by omega);rw [hk] at h1;obtain⟨x,g⟩:=G _ _ _ _ K (World.cells?_some h1).2.1 (hl.elem ht (List.mem_map.2 ⟨i,by simpa using hi,rfl⟩));exact⟨(x,J),h1,g⟩
 obtain⟨q,A⟩:=Deep.choose_lt each;refine⟨(List.range n).map fun i=>(q i).1,⟨by simp,hn,fun {i x} g=>?_⟩⟩
 obtain⟨hi,rfl⟩:i<n∧(q i).1=x:=by
  rw [List.getElem?_map] at g;obtain⟨j,u,L⟩:=Option.map_eq_some_iff.1 g;rw [List.getElem?_eq_some_iff] at u;obtain⟨B,C⟩:=u
  simp at B C
  subst C;exact⟨B,L⟩
 have E:z.spot=none:=by
  obtain⟨_,U,M⟩:=World.cells?_some (A 0 (by omega)).1;have h0:=M 0 (by omega);rw [List.getElem?_eq_getElem (by omega)] at h0
  have:=World.cell?_spot h0
  simpa [Addr.add] using this
 obtain⟨b,o,s⟩:=z;simp only at E;subst E;obtain⟨_,N,O⟩:=World.cells?_some (A i hi).1
 have hr:w.rangeAt b (o+i*k) (q i).2:=fun j v F=>by
  have u:j<k:=by have:=(List.getElem?_eq_some_iff.1 F).1;omega
  have:=O j u
  rw [WideShapes.add_plain,WideShapes.add_plain] at this;rw [this,F]
 refine⟨b,o,(q i).2,rfl,N,(A i hi).2,hr,?_,?_⟩ <;>
  exact World.block_lt_of_cell? w ⟨b,_,none⟩ (hr 0 _ (List.getElem?_eq_getElem (by omega)))
end
def re(P:Program) (w:World) (n:String):Prop:=∃(nm:String) (d:DataW Unit) (g t:Nat) (ms:Array (String × TypeId)),Lib.VarReads P w n (.iface nm d)∧P.globalNamed n=some g∧(P.globals[g]?).map (·.type)=some t∧P.underlying t=some (.interface ms)
theorem Kv{P:Program}{w:World}{g t e:Nat}(z:Lib.VarReads P w "internal/strconv.uint64pow10" (Lib.tabData .u64 Lib.pow10Tab)) (m:P.globalNamed "internal/strconv.uint64pow10" = some g) (A:(P.globals[g]?).map (·.type)=some t) (ht:P.underlying t=some (.array 20 e)) (he:P.underlying e=some (.int .u64))
  (B:P.cellsOf e=1) (C:P.cellsOf t=20) (D:re P w "strconv.ErrSyntax") (E:re P w "strconv.ErrRange"):j5 P (fun b=>b<w.heap.size) w:=by
 obtain⟨O,Q,cs,fuel,p,F,G,c,I⟩:=z;obtain rfl:=Option.some.inj (m.symm.trans F);obtain rfl:=Option.some.inj (A.symm.trans G);have hc:=Lib.cells_of_tab ht he B C I
 have hT:Lib.TabIs P w "internal/strconv.uint64pow10" .u64 Lib.pow10Tab:=by
  unfold Lib.TabIs
  rw [c,← hc]
 have o:g<w.heap.size:=by
  unfold World.var? at c
  simp only [m,Option.bind_some] at c
  split at c
  ·
   rename_i j
   exact(Array.getElem?_eq_some_iff.1 j).1
  cases c
 refine⟨⟨g,o,o,fun w' e=>?_⟩,fun n hn g2 J=>?_⟩
 ·
  unfold Lib.TabIs World.var? at hT ⊢
  simp only [m,Option.bind_some] at hT ⊢;rw [e];exact hT
 have K:re P w n:=by
  rcases hn with rfl | rfl
  ·
   exact D
  exact E
 obtain⟨R,d,g3,t3,ms,⟨g4,t4,S,T,p4,e1,e2,h,L⟩,e3,M,e5⟩:=K;obtain rfl:=Option.some.inj (e1.symm.trans J);obtain rfl:=Option.some.inj (e1.symm.trans e3);obtain rfl:=Option.some.inj (e2.symm.trans M);obtain⟨_,u,v,N,_,_⟩:=iface_of_trod e5 L
 unfold World.var? at h
 simp only [e1,Option.bind_some] at h
 split at h
 ·
  rename_i c0 x0 U j
  obtain rfl:=Option.some.inj h;have s:=(Array.getElem?_eq_some_iff.1 j).1;refine⟨s,s,.iface u v,.inr ⟨u,v,rfl⟩,fun w' e=>?_⟩;obtain rfl:c0=#[.iface u v]:=Array.toList_inj.1 N
  unfold World.cell?
  simp only [e,j]
  first | done | rfl
 cases h
theorem aQ.Kw{w w':World}(h:aQ [] w w') (B:Nat) (c:B≤w.heap.size):RowKit.Below B w w':=⟨h.os,h.tape,h.output,h.size,fun k hk=>h.block k (by omega) (by simp)⟩
end Go.Rc

namespace Go.Rc
open Go
def Kx(m f:Nat):Bool:=Nat.beq (Nat.land (Nat.shiftRight m f) 1) 1
def zG(look:FuncId→Option Func) (P:Program):Nat→List FuncId→Nat→List FuncId→List FuncId
 | 0,_,_,seen=>seen.reverse
 | _,[],_,seen=>seen.reverse
 | n+1,f::todo,mask,seen=>
  match Kx mask f with
  | true=>zG look P n todo mask seen
  | false=>zG look P n ((look f).elim [] P.leadsTo++todo) (Nat.lor mask (Nat.shiftLeft 1 f)) (f::seen)
theorem G5(m f:Nat):Kx m f=m.testBit f:=by
 unfold Kx
 show Nat.beq ((m >>> f) &&& 1) 1=m.testBit f
 rw [Nat.testBit,Nat.and_comm];have h:=Nat.and_one_is_mod (m >>> f);rw [Nat.and_comm]
 have c:(1 &&& m >>> f)=(m >>> f) % 2:=by rw [Nat.and_comm];exact h
 rw [Nat.and_comm,c]
 rcases Nat.mod_two_eq_zero_or_one (m >>> f) with e | e <;> rw [e] <;> rfl
theorem u4{look:FuncId→Option Func}(P:Program) (hl:∀g,P.funcs[g]?=look g):∀(n:Nat) (todo:List FuncId) (mask:Nat) (seen:List FuncId),(∀x:Nat,mask.testBit x=seen.contains x)→zG look P n todo mask seen=P.closureVia n todo seen
 | 0,_,_,_,_=>by unfold zG Program.closureVia;rfl
 | n+1,[],_,_,_=>by unfold zG Program.closureVia;rfl
 | n+1,f::todo,mask,seen,h=>by
  unfold zG Program.closureVia
  rw [G5,h f]
  cases hc:seen.contains f with
  | true=>simp only [if_true];exact u4 P hl n todo mask seen h
  | false=>
   simp only [Bool.false_eq_true,if_false];rw [hl f];refine u4 P hl n _ _ _ fun x=>?_
   show(mask ||| (1 <<< f)).testBit x=(f::seen).contains x
   rw [Nat.testBit_or,h x,Nat.shiftLeft_eq,Nat.one_mul,Nat.testBit_two_pow,List.contains_cons,Bool.or_comm]
   grind
theorem u5{look:FuncId→Option Func}(P:Program) (hl:∀g,P.funcs[g]?=look g) (f:FuncId):P.closure f=zG look P (1+(P.funcs.toList.map fun g=>(P.leadsTo g).length+1).sum) [f] 0 []:=by grind [Program.closure,u4]
end Go.Rc

namespace Go.Rc
open Go
def u6(P:Program):Nat→List TypeId→List TypeId
 | 0,s=>s
 | d+1,s=>match decide (P.grow s=s) with
  | true=>s
  | false=>u6 P d (P.grow s)
theorem tY{P:Program}{s:List TypeId}(h:P.grow s=s):∀n,P.grown n s=s
 | 0=>rfl
 | n+1=>by
  show P.grown n (P.grow s)=s
  rw [h];exact tY h n
theorem tZ(P:Program):∀(n:Nat) (s:List TypeId),P.grown n s=u6 P n s
 | 0,_=>rfl
 | n+1,s=>by
  show P.grown n (P.grow s)=match decide (P.grow s=s) with | true=>s | false=>u6 P n (P.grow s)
  by_cases h:P.grow s=s
  ·
   grind [tY]
  rw [decide_eq_false h];exact tZ P n _
def l5(P:Program) (t:TypeId):List TypeId:=u6 P P.types.size [t]
theorem jW(P:Program) (t:TypeId):P.book t=l5 P t:=tZ P _ _
def Ej(P:Program) (t:TypeId):Bool:=(l5 P t).all fun u=>P.fineRow u && (P.partsOf u).all ((l5 P t).contains ·)
theorem qa(P:Program) (t:TypeId):P.readableRec t=Ej P t:=by grind [Program.readableRec,Ej,jW]
def Ek(P:Program) (t:TypeId):Bool:=(l5 P t).any fun u=>(P.partsOf u).any fun v=>(l5 P v).contains u
theorem xF(P:Program) (t:TypeId):P.loopsFrom t=Ek P t:=by grind [Program.loopsFrom,Ek,jW]
def IM(P:Program) (t:TypeId):Bool:=(l5 P t).any fun u=>match P.underlying u with | some (.map _ _)=>true | _=>false
theorem G6(P:Program) (t:TypeId):P.mapsRec t=IM P t:=by grind [Program.mapsRec,IM,jW]
def Bn(P:Program) (t:TypeId):Bool:=(l5 P t).any fun u=>match P.underlying u with | some (.interface _)=>true | _=>false
theorem ua(P:Program) (t:TypeId):P.ifacesRec t=Bn P t:=by grind [Program.ifacesRec,Bn,jW]
def qb(P:Program) (t:TypeId):Bool:=(l5 P t).any fun u=>match P.underlying u with | some (.func ..) | some (.chan ..) | some .unsafePointer=>true | _=>false
theorem oj(P:Program) (t:TypeId):P.veiledRec t=qb P t:=by grind [Program.veiledRec,qb,jW]
def IP(P:Program) (t:TypeId):Bool:=
 (l5 P t).any fun u=>match P.underlying u with
  | some (.map k _)=>(match P.underlying k with | some (.array _ _) | some (.struct _)=>true | _=>false)
  | _=>false
theorem G7(P:Program) (t:TypeId):P.wideKeysFrom t=IP P t:=by grind [Program.wideKeysFrom,IP,jW]
def mE(P:Program) (t:TypeId):Bool:=!qb P t || (let L:=P.libraryStructs;(l5 P t).all fun u=>!(P.libraryStructIn L u && qb P u))
theorem nB(P:Program) (t:TypeId):P.veiledOwn t=mE P t:=by grind [Program.veiledOwn,mE,jW,oj]
def xG(P:Program) (n:String):Bool:=
 match P.globalNamed n with
 | some g=>((P.globals[g]?).map (·.type)).any fun t=>Ej P t && mE P t
 | none=>false
theorem zH(P:Program) (n:String):P.varReadable n=xG P n:=by grind [Program.varReadable,xG,qa,nB]
end Go.Rc

namespace Go.Rc
open Go
def blocks{α:Type _}:Nat→List α→List (List α)
 | 0,_=>[]
 | n+1,l=>l.take 32::blocks n (l.drop 32)
def pick{α:Type _}(b:List (List α)) (t:Nat):Option α:=(b[t / 32]?).bind (·[t % 32]?)
theorem i6{α:Type _}:∀(n:Nat) (l:List α) (t:Nat),l.length≤n*32→pick (blocks n l) t=l[t]?
 | 0,l,t,h=>by grind [pick,blocks]
 | n+1,l,t,h=>by
  by_cases ht:t<32
  ·
   grind [pick,blocks]
  have h1:t / 32=(t - 32) / 32+1:=by omega
  have c:t % 32=(t - 32) % 32:=by omega
  have d:=i6 n (l.drop 32) (t - 32) (by simp;omega)
  grind [pick,blocks]
def rootOf(b:List (List TypeInfo)) (t:TypeId):Option TypeDesc:=
 (pick b t).bind fun i=>match i.desc with
  | .named _ u=>(pick b u).map (·.desc)
  | d=>some d
def wide(b:List (List TypeInfo)) (t:TypeId):Nat:=((pick b t).map (·.size)).getD 0
theorem om{P:Program}{n:Nat}(hn:P.types.size≤n*32) {t:TypeId}{i:TypeInfo}(h:pick (blocks n P.types.toList) t=some i):P.info? t=some i:=by
 rw [i6 n _ t (by simpa using hn),Array.getElem?_toList] at h;have ht:t<P.types.size:=(Array.getElem?_eq_some_iff.1 h).1
 unfold Tables.info?
 rw [if_pos ht,h]
theorem G8{P:Program}{n:Nat}(hn:P.types.size≤n*32) {t:TypeId}(h:t<P.types.size):∃i,pick (blocks n P.types.toList) t=some i:=by
 rw [i6 n _ t (by simpa using hn),Array.getElem?_toList]
 simp_all
theorem oo{P:Program}{n:Nat}(hn:P.types.size≤n*32) {t:TypeId}{d:TypeDesc}(h:rootOf (blocks n P.types.toList) t=some d):P.underlying t=some d:=by
 unfold rootOf at h
 unfold Program.underlying
 cases c:pick (blocks n P.types.toList) t with
 | none=>rw [c] at h;cases h
 | some i=>
  rw [c] at h;rw [om hn c];obtain⟨e,_⟩:=i
  grind [pick,om]
theorem nC{P:Program}{n:Nat}(hn:P.types.size≤n*32) {t:TypeId}(h:t<P.types.size):wide (blocks n P.types.toList) t=P.cellsOf t:=by grind [G8,wide,Program.cellsOf,om]
def stands(b:List (List TypeInfo)) (N:Nat) (t:TypeId):Bool:=Nat.ble (t+1) N && kindOk (rootOf b t)
theorem lF{b:List (List TypeInfo)}{N:Nat}{t:TypeId}(h:stands b N t=true):t<N:=by
 simp only [stands,Bool.and_eq_true] at h;exact Nat.le_of_ble_eq_true h.1
theorem lG{P:Program}{n:Nat}(hn:P.types.size≤n*32) {t:TypeId}(h:stands (blocks n P.types.toList) P.types.size t=true):isVar P t=true:=by
 have hl:=lF h;simp only [stands,Bool.and_eq_true] at h
 unfold isVar
 cases hr:rootOf (blocks n P.types.toList) t with
 | none=>rw [hr] at h;cases h.2
 | some d=>grind [oo]
def nD(b:List (List TypeInfo)) (N:Nat):Nat→List Field→Bool
 | _,[]=>true
 | o,f::r=>stands b N f.type && Nat.beq f.offset o && nD b N (o+wide b f.type) r
def sumOf(b:List (List TypeInfo)):List Field→Nat
 | []=>0
 | f::r=>wide b f.type+sumOf b r
def Ky(b:List (List TypeInfo)) (N:Nat) (t:TypeId):Bool:=
 match rootOf b t with
 | none=>false
 | some (.struct fs)=>nD b N 0 fs.toList && Nat.beq (wide b t) (sumOf b fs.toList)
 | some (.array k e)=>stands b N e && Nat.beq (wide b t) (k*wide b e)
 | some (.pointer e)=>stands b N e && Nat.beq (wide b t) 1
 | some (.slice e)=>stands b N e && Nat.beq (wide b t) 1
 | some (.tuple _)=>true
 | some .invalid=>true
 | some (.named _ _)=>true
 | _=>Nat.beq (wide b t) 1
def zz(b:List (List TypeInfo)) (N:Nat) (t:TypeId):Bool:=
 match rootOf b t with
 | none=>false
 | some (.map _ e)=>Nat.ble (e+1) N
 | _=>true
theorem nE{P:Program}{n:Nat}(hn:P.types.size≤n*32):∀(fs:List Field) (o:Nat),nD (blocks n P.types.toList) P.types.size o fs=true→
  (∀f∈fs,isVar P f.type=true)∧(∀j f,fs[j]?=some f→f.offset=o+((fs.take j).map fun f=>P.cellsOf f.type).sum)∧sumOf (blocks n P.types.toList) fs=(fs.map fun f=>P.cellsOf f.type).sum
 | [],_,_=>⟨by simp,by simp,rfl⟩
 | g::r,o,h=>by
  simp only [nD,Bool.and_eq_true] at h;obtain⟨⟨h1,d⟩,c⟩:=h;rw [nC hn (lF h1)] at c;obtain⟨e,i2,i3⟩:=nE hn r _ c;refine⟨fun f m=>?_,fun j f s=>?_,?_⟩
  ·
   grind [lG]
  ·
   cases j with
   | zero=>simp_all
   | succ j=>grind
  grind [sumOf,nC,lF]
theorem Cq{P:Program}{n:Nat}(hn:P.types.size≤n*32) {t:TypeId}(ht:t<P.types.size) (h:Ky (blocks n P.types.toList) P.types.size t=true):rowFine P t=true:=by
 unfold Ky at h
 rw [nC hn ht] at h
 unfold rowFine
 rw [Bool.or_eq_true]
 cases hr:rootOf (blocks n P.types.toList) t with
 | none=>rw [hr] at h;cases h
 | some d=>
  have hu:=oo hn hr;rw [hr] at h
  cases d with
  | struct fs=>
   right
   simp only [hu];simp only [Bool.and_eq_true] at h;obtain⟨h1,g,c⟩:=nE hn fs.toList 0 h.1;simp only [Bool.and_eq_true,List.all_eq_true,beq_iff_eq];refine⟨⟨h1,(Nat.eq_of_beq_eq_true h.2).trans c⟩,fun j m=>?_⟩
   grind
  | array k e=>
   right
   simp only [hu];simp only [Bool.and_eq_true] at h ⊢;rw [nC hn (lF h.1)] at h;exact⟨lG hn h.1,by simp_all⟩
  | pointer e=>
   right
   simp only [hu];simp only [Bool.and_eq_true] at h ⊢;exact⟨lG hn h.1,by simp_all⟩
  | slice e=>
   right
   simp only [hu];simp only [Bool.and_eq_true] at h ⊢;exact⟨lG hn h.1,by simp_all⟩
  | tuple e=>left;simp [isVar,hu,kindOk]
  | invalid=>left;simp [isVar,hu,kindOk]
  | named a e=>left;simp [isVar,hu,kindOk]
  | _=>
   right
   simp only [hu];rw [beq_iff_eq];exact Nat.eq_of_beq_eq_true h
def xH(f:Nat→Bool):Nat→Bool
 | 0=>true
 | n+1=>f n && xH f n
theorem kT{f g:Nat→Bool}:∀(n:Nat),xH f n=true→(∀t,t<n→f t=true→g t=true)→(List.range n).all g=true
 | 0,_,_=>by simp
 | n+1,h,c=>by
  simp only [xH,Bool.and_eq_true] at h;rw [List.range_succ,List.all_append,kT n h.2 fun t ht=>c t (by omega)]
  simp [c n (by omega) h.1]
theorem Cr{P:Program}{N n:Nat}(c:P.types.size=N) (hn:Nat.ble N (n*32)=true) (h:xH (Ky (blocks n P.types.toList) N) N=true):(List.range P.types.size).all (rowFine P)=true:=by
 subst c
 exact kT _ h fun t hl ht=>Cq (Nat.le_of_ble_eq_true hn) hl ht
theorem zI{P:Program}{N n:Nat}(c:P.types.size=N) (hn:Nat.ble N (n*32)=true) (h:xH (zz (blocks n P.types.toList) N) N=true):mapsRowed P=true:=by
 subst c
 unfold mapsRowed
 refine kT _ h fun t hl ht=>?_
 unfold zz at ht
 cases hr:rootOf (blocks n P.types.toList) t with
 | none=>rw [hr] at ht;cases ht
 | some d=>
  have hu:=oo (Nat.le_of_ble_eq_true hn) hr
  grind [Nat.le_of_ble_eq_true]
theorem zJ{P:Program}{N:Nat}(c:P.types.size=N) (h:P.globals.toList.all (fun g=>Nat.ble (g.type+1) N)=true):P.globals.all (fun g=>decide (g.type<P.types.size))=true:=by grind [Nat.le_of_ble_eq_true]
theorem Cs{P:Program}{N:Nat}(c:P.types.size=N) (h:P.funcs.toList.all (fun f=>f.params.toList.all fun t=>Nat.ble (t+1) N)=true):P.funcs.all (fun f=>f.params.all fun t=>decide (t<P.types.size))=true:=by grind [Nat.le_of_ble_eq_true]
theorem El{P:Program}(h1:(List.range P.types.size).all (rowFine P)=true) (c:P.globals.all (fun g=>decide (g.type<P.types.size))=true) (d:P.funcs.all (fun f=>f.params.all fun t=>decide (t<P.types.size))=true):laidOutB P=true:=by grind [laidOutB]
theorem both{a b:Bool}(c:a=true) (hb:b=true):(a && b)=true:=by rw [c,hb];rfl
end Go.Rc

namespace Go.Rc
open Go
theorem zK{P:Program}{N n:Nat}(c:P.funcs.size=N) (hn:Nat.ble N (n*32)=true) (g:FuncId):P.funcs[g]?=pick (blocks n P.funcs.toList) g:=by
 subst c;rw [i6 n _ g (by simpa using Nat.le_of_ble_eq_true hn),Array.getElem?_toList]
def Em(name:String):Nat→List Func→List Nat
 | _,[]=>[]
 | k,f::r=>match f.name == name with
  | true=>k::Em name (k+1) r
  | false=>Em name (k+1) r
theorem Bo(name:String):∀(l:List Func) (k:Nat),Em name k l=((List.range l.length).filter fun i=>(l[i]?).any (·.name == name)).map (· + k)
 | [],_=>rfl
 | f::r,k=>by
  have h:=Bo name r (k+1);rw [List.length_cons,List.range_succ_eq_map,List.filter_cons,List.filter_map,List.getElem?_cons_zero]
  have e:((fun i=>((f::r)[i]?).any (·.name == name))∘Nat.succ)=fun i=>(r[i]?).any (·.name == name):=by
   funext i
   simp
  rw [e]
  have m:∀q:List Nat,(q.map Nat.succ).map (· + k)=q.map (· + (k+1)):=by
   intro q;rw [List.map_map]
   congr 1
   funext x
   show x.succ+k=x+(k+1)
   omega
  unfold Em
  cases hb:f.name == name with
  | true=>simp only [Option.any_some,hb,if_true,List.map_cons,Nat.zero_add,m,h]
  | false=>simp only [Option.any_some,hb,Bool.false_eq_true,if_false,m,h]
theorem kU(P:Program) (name:String):P.funcNamed name=match Em name 0 P.funcs.toList with | [i]=>some i | _=>none:=by
 unfold Program.funcNamed
 rw [Bo];simp only [Nat.add_zero,List.map_id',Array.length_toList,Array.getElem?_toList]
 generalize (List.range P.funcs.size).filter (fun i=>(P.funcs[i]?).any (·.name == name))=q
 rcases q with _ | ⟨a,_ | ⟨b,r⟩⟩ <;> rfl
theorem kV(P:Program) (word:String):P.worded word=P.funcs.toList.any fun fn=>fn.body.isNone && fn.name == word:=by
 unfold Program.worded
 rw [Array.any_toList]
theorem rf(P:Program):P.laysLater=P.funcs.toList.any fun fn=>fn.body.isNone && (fn.name == "runtime.SetFinalizer" || fn.name == "runtime.AddCleanup" || fn.origin == "runtime.AddCleanup"):=by
 unfold Program.laysLater
 rw [Array.any_toList]
theorem pL(P:Program):P.stopsHeard=P.funcs.toList.all fun fn=>(Stop.rowOf fn).isNone || !fn.norace:=by
 unfold Program.stopsHeard
 rw [Array.all_toList]
def nF:List (String × DataW Unit)→List (String × DataW Unit)→Bool
 | [],[]=>true
 | (n,a)::r,(m,b)::s=>n == m && DataW.same a b && nF r s
 | _,_=>false
theorem pd:∀(l m:List (String × DataW Unit)),nF l m=true→l=m
 | [],[],_=>rfl
 | (n,a)::r,(k,b)::s,h=>by
  simp only [nF,Bool.and_eq_true,beq_iff_eq] at h;rw [h.1.1,DataW.same_eq a b h.1.2,pd r s h.2]
 | [],_::_,h=>by cases h
 | _::_,[],h=>by cases h
theorem G9{P:Program}{n fuel M:Nat}{laid:List (String × DataW Unit)}{os:Os}{tape:Tape}{g:FuncId}(d:varsId P=g) (he:funcsListed laid=[])
  (h:(match runN P n (Machine.entering P (World.unlaid P os) tape g ⟨#[],#[],[]⟩) with
   | .ended (.done _) w=>(DataW.laidRun P w.memory fuel ((laid.filter fun x=>x.2.handleName?.isNone).map (·.1))).any fun x=>nodupBits M x.2 0 && laidRowsB P w.memory x.2 && (laid.filter fun x=>x.2.handleName?.isSome && x.2.funcsIn?.isNone).all (handleAtB P w.memory) && nF x.1 (laid.filter fun x=>x.2.handleName?.isNone)
   | _=>false)=true):doorLeaves P n fuel M laid os tape=some (laid.filter fun x=>x.2.handleName?.isNone,(funcsListed laid).map (·.2.funcsOut)):=by
 unfold doorLeaves
 rw [d]
 split at h
 ·
  rename_i v w hr
  rw [hr]
  simp only
  cases c:DataW.laidRun P w.memory fuel ((laid.filter fun x=>x.2.handleName?.isNone).map (·.1)) with
  | none=>rw [c] at h;cases h
  | some x=>
   rw [c] at h;simp only [Option.any_some,Bool.and_eq_true] at h;obtain⟨⟨⟨h1,j⟩,m⟩,o⟩:=h;have e:=pd _ _ o;rw [he];simp only [Option.bind_some,h1,j,m,Bool.and_self,if_true,List.map_nil,funcsRun,Option.map_some,← e]
 cases h
end Go.Rc

namespace Go.Rc
open Go
theorem ub:∀l:List Int,(l.map fun z=>[Value.int .i64 z]).flatten=l.map (Value.int .i64)
 | []=>rfl
 | x::r=>by rw [List.map_cons,List.map_cons,List.flatten_cons,ub r];rfl
theorem Ha{H:Type}{enc:TypeId × Value→H}{P:Program}{w:World}{r:Reach}{base:Nat}{t e:TypeId}{fuel n c:Nat}{a:Option Addr}{d:DataW H}{p:List MemPlace}(ht:P.underlying t=some (.slice e)) (k1:P.cellsOf e=1) (b1:1≤P.bytesOf e) (he:P.underlying e=some (.int .i64))
  (C:Value.okWide P w r base t (.slice a n c)) (h:DataW.trod enc P w 0 (fun _=>true) true fuel t [.slice a n c]=some (d,p)) (hl:Ei P t d):∃l:List Int,Rd RR.int 1 (fun b=>b<w.heap.size) w a n c l:=by
 obtain⟨l,g⟩:=G4 (R:=fun(z:Int) r=>r=[Value.int .i64 z]) ht k1 (Nat.le_refl _) b1 (fun m cs d p hm L _=>by
  obtain⟨z,rfl,_,_⟩:=DataW.trod_int he hm;exact⟨z,rfl⟩) h hl
 refine⟨l,g.len,l.map fun z=>[Value.int .i64 z],by simp,fun r hr=>?_,?_,fun i x r G hr=>?_⟩
 ·
  obtain⟨z,_,rfl⟩:=List.mem_map.1 hr
  rfl
 ·
  rw [ub];refine⟨by simp [g.len],g.le,fun u hu=>?_,?_⟩
  ·
   obtain⟨z,_,rfl⟩:=List.mem_map.1 hu
   rfl
  rcases Deep.open_slice ht h with⟨hc,_⟩ | ⟨q,len,cap,m,M,D,N,hc,_,hle,I,_⟩
  ·
   simp only [List.cons.injEq,Value.slice.injEq,and_true] at hc;exact .inl hc
  simp only [List.cons.injEq,Value.slice.injEq,and_true] at hc;obtain⟨rfl,rfl,rfl⟩:=hc
  have A:q.spot=none∧q.block<w.heap.size:=by
   simp only [Value.okWide,ht,Cell.okWide,Cell.ok] at C;obtain⟨_,_,_,J,row,cells,B,_⟩:=C;refine⟨J,?_⟩
   unfold World.shape? at B
   split at B
   ·
    rename_i K
    exact(Array.getElem?_eq_some_iff.1 K).1
   cases B
  obtain⟨b,o,s⟩:=q;obtain⟨E,hb⟩:=A;simp only at E hb;subst E;refine .inr ⟨b,o,rfl,hle,I,hb,hb,fun j v F=>?_⟩;rw [List.getElem?_map] at F;obtain⟨z,A,rfl⟩:=Option.map_eq_some_iff.1 F;obtain⟨b',O,r',e1,_,rfl,hr,_⟩:=g.at_ A;simp only [Option.some.injEq,Addr.mk.injEq,and_true] at e1;obtain⟨rfl,rfl⟩:=e1
  have:=hr 0 _ rfl
  simpa using this
 rw [List.getElem?_map,G] at hr;exact(Option.some.inj hr).symm
end Go.Rc

