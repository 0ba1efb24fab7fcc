/- Base of the proof: frames, memory, ownership, and the plain meaning of rule systems. Conditions: as each lemma says. -/
import Derived.Test.YtfamnpoplgkkcaaGreatDoorKBg
import Derived.Test.YtfamnpoplgkkcaaGreatDoorKBf
import Derived.Test.YtfamnpoplgkkcaaGreatDoorKBe
import Derived.Deep.Slices
import Derived.SizedLaws
import Derived.Lib.LaidU8
import Derived.Lib.LaidTab
import Derived.LaidLaws
import GoSem.ClaimFn
import Derived.JoinedOf
import Derived.LaidOnce
import Derived.TwinInFollowed
import Derived.WideShapes
set_option linter.all false
namespace Go.Rc
open Go
section
variable {aa:List aF}{H:Int→List bG}{x b b':bZ}{p q l l':List bT}{f g:bT}{bO rk goals:List Key}{k y a:Key}{val:Key→ByteArray}{er:Int}
theorem dC.pop(h:dC (p++[f]) b a) (hu:∀y,aA b y=true→aA b' y=true) (e:aA b' f.key=true):dC p b' a:=by
 rcases h with h | ⟨h1,j⟩ | h
 ·
  exact .inl h
 ·
  rw [dn,hM,Bool.or_eq_true,decide_eq_true_eq] at h1
  rcases h1 with h1 | rfl
  ·
   exact .inr (.inl ⟨h1,j⟩)
  exact .inr (.inr e)
 exact .inr (.inr (hu _ h))
theorem dC.up(h:dC l b a) (hu:∀y,aA b y=true→aA b' y=true) (e:∀y,eb l y=true→eb l' y=true):dC l' b' a:=
 h.imp id (Or.imp (fun⟨h1,j⟩=>⟨e _ h1,j⟩) (hu _))
theorem FS.there(j:FS aa val b p f b' l' rk er) (h:dC (p++[f]) b a):dC l' b' a:=by
 have hu:∀y,aA b y=true→aA b' y=true:=fun y e=>j.QM e
 have same:∀{z:bT},z.key=f.key→∀y,eb (p++[f]) y=true→eb (p++[z]) y=true:=fun {z} n y e=>by
  rw [dn,hM] at e ⊢;rw [n];exact e
 have more:∀{z:bT},∀y,eb (p++[f]) y=true→eb (p++[f]++[z]) y=true:=fun {z} y e=>by rw [dn,e];rfl
 cases j with
 | put=>exact h.pop hu (i6 (r:=cc b f.key (aO aa f.key f.ae).value f.reads) rfl)
 | up _ qw=>exact h.pop hu qw
 | mark _ hl=>
  obtain⟨r,h1,_⟩:=hl;exact h.pop hu (fq (by rw [h1];rfl) ep)
 | push=>exact h.up hu more
 | rV=>exact h.up hu more
 | stay=>exact h
 | full=>exact h
 | KD=>exact h
 | HT=>exact h
 | read=>exact h.up hu (same rfl)
 | start=>exact h.up hu (same rfl)
 | pass=>exact h.up hu (same rfl)
 | fail=>exact h.up hu (same rfl)
theorem kW{G:List Key}{d:Bool}{rev:Int}{l:List Rec}:(aD (l.map (aW rev G d)) y).reads=(aD l y).reads∧(aD (l.map (aW rev G d)) y).value=(aD l y).value:=by
 unfold aD
 rw [bL]
 cases ay l y with
 | none=>exact⟨rfl,rfl⟩
 | some r=>
  simp only [Option.map_some,Option.getD_some]
  unfold aW
  grind
theorem FS.reads(n:FS aa val b p f b' l' rk er) (o:f.running=true→aA b f.key=false) (j:aA b y=true):(aD b'.ai y).reads=(aD b.ai y).reads:=by
 cases n with
 | put hr=>
  have h1:=o hr
  have t:¬y=(cc b f.key (aO aa f.key f.ae).value f.reads).key:=fun e=>by
   have e:y=f.key:=e;rw [e,h1] at j;cases j
  unfold aD
  rw [cD,if_neg t]
 | mark=>exact kW.1
 | fail=>
  split
  ·
   exact kW.1
  rfl
 | _=>rfl
theorem eM.thr(hR:ao aa) (I:LC aa x) (hk:∀k∈goals,eV aa k) (h:eM aa (valOf aa x.ab) goals x b l bO):∀y,aA x y=false→aA b y=true→∀a∈(aD b.ai y).reads,dC l b a:=by
 induction h with
 | start=>intro y h1 t;rw [h1] at t;cases t
 | take h1 N hn A=>exact fun y t D a n=>(A y t D a n).mono fun k h=>by cases h
 | @step b b' p l' f bO rk h1 B O A=>
  intro y J o a n;obtain⟨⟨H,t⟩,D,Q⟩:=h1.inv hR I hk;have E:=t.top.run
  by_cases hu:aA b y=true
  ·
   rw [B.reads (fun hr=>(E hr).2.1) hu] at n;exact B.there (A y J hu a n)
  have hu:aA b y=false:=by simpa using hu
  cases B with
  | put hr hd=>
   by_cases e:y=f.key
   ·
    subst e
    have e2:aD (ez b.ai (cc b f.key (aO aa f.key f.ae).value f.reads)) f.key=cc b f.key (aO aa f.key f.ae).value f.reads:=by
     refine aJ ?_;rw [cD];exact if_pos rfl
    rw [show({b with ai:=ez b.ai (cc b f.key (aO aa f.key f.ae).value f.reads)}:bZ).ai=ez b.ai (cc b f.key (aO aa f.key f.ae).value f.reads) from rfl,e2] at n;exact(FS.put (aa:=aa) (val:=valOf aa x.ab) (b:=b) (p:=p) hr hd).there ((E hr).2.2.2.2 a n)
   exfalso
   obtain⟨r,g1,g2⟩:=aN.1 o;have g1:ay (ez b.ai (cc b f.key (aO aa f.key f.ae).value f.reads)) y=some r:=g1;rw [cD,if_neg (show ¬y=(cc b f.key (aO aa f.key f.ae).value f.reads).key from e)] at g1;rw [aN.2 ⟨r,g1,g2⟩] at hu
   cases hu
  | mark hr hl hn=>
   obtain⟨r,g1,g2,g3⟩:=id hl;have hm:=FS.mark (aa:=aa) (val:=valOf aa x.ab) (p:=p) hr hl hn;have n:a∈(aD (b.ai.map (aW b.ad (aB b.ai b.ad f.key) false)) y).reads:=n;rw [kW.1] at n
   by_cases F:y∈aB b.ai b.ad f.key
   ·
    by_cases C:a∈aB b.ai b.ad f.key
    ·
     obtain⟨q,L⟩:=yV g1 a C;exact .inr (.inr (fq (by rw [L];rfl) C))
    have hc:(⟨y,a⟩:ob)∈bW b.ai (aB b.ai b.ad f.key):=dJ.2 ⟨F,n,C⟩;obtain⟨j,M,e⟩:=List.getElem_of_mem hc;exact hm.there ((t.top.AG hr).2.2.2 hl j ⟨y,a⟩ (by omega) (by rw [List.getElem?_eq_getElem M,e])).2.1
   exfalso
   obtain⟨r2,e1,e2⟩:=aN.1 o;have e1:ay (b.ai.map (aW b.ad (aB b.ai b.ad f.key) false)) y=some r2:=e1;rw [bL] at e1
   cases z:ay b.ai y with
   | none=>rw [z] at e1;cases e1
   | some r3=>
    rw [z] at e1;simp only [Option.map_some,Option.some.injEq] at e1;have G:=(aI z).2
    have:r2=r3:=by
     rw [← e1]
     unfold aW
     rw [if_neg (by rw [G];exact F)]
    rw [aN.2 ⟨r3,z,by rw [← this];exact e2⟩] at hu
    cases hu
  | fail c hr hl hc G R S=>
   exfalso
   split at o
   ·
    rw [lV,hu] at o;cases o
   rw [hu] at o;cases o
  | _=>rw [hu] at o;cases o
theorem eM.mem(hR:ao aa) (j:LC aa x) (hk:∀k∈goals,eV aa k) (h:eM aa (valOf aa x.ab) goals x b [] bO):y∈bO↔BQ (valOf aa x.ab) x y∧aA b y=true:=by
 obtain⟨_,_,_,hw,_⟩:=h.done hR j hk;exact⟨fun e=>⟨hw.bO y e,hw.HS y e⟩,fun⟨h1,n⟩=>hw.runs h1 n⟩
theorem eM.reads(hR:ao aa) (e:LC aa x) (hk:∀k∈goals,eV aa k) (h:eM aa (valOf aa x.ab) goals x b [] bO) (h1:aA x y=false) (j:aA b y=true) (t:a∈gO aa x.ab y):ax a=true∨aA b a=true:=by
 obtain⟨⟨H,n⟩,z,_⟩:=h.inv hR e hk;obtain⟨r,hr,A⟩:=aN.1 j;obtain⟨g1,g2⟩:=aI hr;have o:=(n.bi.c.vr r g1).2;rw [A,n.bi.c.now,show b.ab=x.ab from z.fO.aC,g2] at o
 rcases h.thr hR e hk y h1 j a (by rw [aJ hr,o];exact t) with h | ⟨h,_⟩ | h
 ·
  exact .inl h
 ·
  cases h
 exact .inr h
end
end Go.Rc

namespace Go.Rc
open Go
abbrev h0:aF:=⟨false,[⟨true,false,0,0⟩],2,0⟩
abbrev h1:aF:=⟨false,[⟨false,false,0,0⟩,⟨true,false,1,0⟩],1,0⟩
abbrev H2:List aF:=[h0,h1]
abbrev C1:Key:=bd ((1:Nat):Int)
abbrev z4:ByteArray:=⟨#[52]⟩
abbrev z2:ByteArray:=⟨#[50]⟩
theorem gv:ao H2:=by
 refine⟨by simp,fun i r h=>?_⟩
 have hi:i=0∨i=1:=by have:=(List.getElem?_eq_some_iff.1 h).1;simp at this;omega
 rcases hi with rfl | rfl
 ·
  simp at h;subst h
  refine⟨by simp,fun k x e=>?_,rfl⟩
  have hk:k=0:=by have:=(List.getElem?_eq_some_iff.1 e).1;simp at this;omega
  subst hk;simp at e;subst e;decide
 simp at h;subst h
 refine⟨by simp,fun k x e=>?_,rfl⟩
 have hk:k=0∨k=1:=by have:=(List.getElem?_eq_some_iff.1 e).1;simp at this;omega
 rcases hk with rfl | rfl <;> simp at e <;> subst e <;> decide
theorem lZ:aK H2 ((0:Nat):Int)=K0:=by
 unfold aK
 rw [if_neg (by simp)]
 simp [az]
theorem l4:aK H2 ((1:Nat):Int)=K1:=by
 unfold aK
 rw [if_neg (by simp)]
 simp [az]
theorem th:number K0=((0:Nat):Int):=by rw [← lZ];exact br (by simp) (by omega)
theorem mO:number K1=((1:Nat):Int):=by rw [← l4];exact br (by simp) (by omega)
theorem xX:eV H2 K1:=by rw [← l4];exact .eU (by simp) (by omega)
theorem XW:bP H2 K0 []=⟨false,⟨#[]⟩,C0⟩:=by
 rw [gF (i:=0) th (by simp) (by rw [th];exact lZ) (by simp)]
 rfl
theorem g0b(v:ByteArray):bP H2 K0 [v]=⟨true,itoa (cU 2 0 [ct v]),de⟩:=by
 rw [iq (i:=0) th (by simp) (by rw [th];exact lZ) (by simp)]
 rfl
theorem XX:bP H2 K1 []=⟨false,⟨#[]⟩,K0⟩:=by
 rw [gF (i:=1) mO (by simp) (by rw [mO];exact l4) (by simp)];rw [← lZ];rfl
theorem XY(v:ByteArray):bP H2 K1 [v]=⟨false,⟨#[]⟩,C1⟩:=by
 rw [gF (i:=1) mO (by simp) (by rw [mO];exact l4) (by simp)]
 rfl
theorem g1c(u v:ByteArray):bP H2 K1 [u,v]=⟨true,itoa (cU 1 0 [ct u,ct v]),de⟩:=by
 rw [iq (i:=1) mO (by simp) (by rw [mO];exact l4) (by simp)]
 rfl
theorem Sp:itoa ((2:Nat):Int)=z2:=by simp [itoa,Lib.itoa,Lib.decDigits]
theorem vs4:ct z4=4:=by decide
theorem vs2:ct z2=2:=by decide
theorem Sq{aC:List bG}:gO H2 aC K0=[C0]:=by
 have h:=dj (aC:=aC) gv (i:=0) (by simp);rw [lZ] at h;rw [h]
 unfold cp
 rw [show cj H2 0=1 from rfl,lZ];simp only [cZ,List.nil_append];rw [XW]
theorem Ie{aC:List bG}:gO H2 aC K1=[K0,C1]:=by
 have h:=dj (aC:=aC) gv (i:=1) (by simp);rw [l4] at h;rw [h]
 unfold cp
 rw [show cj H2 1=2 from rfl,l4];simp only [cZ,List.nil_append];rw [XX,XY]
 rfl
theorem Gx{aC:List bG}{n:Nat}(h:ct (cellOf aC C0)=n) (hn:n<1000):valOf H2 aC K0=itoa ((n / 2:Nat):Int):=by
 have e:=di (aC:=aC) gv (i:=0) (by simp);rw [show cj H2 0=1 from rfl,lZ] at e;simp only [cZ,List.nil_append] at e;rw [XW,g0b,jE (by omega),h] at e
 injection e with _ e2 _
 rw [← e2]
 simp [cU,mB,Nat.mod_eq_of_lt (show n / 2<1000 by omega)]
theorem Mo{aC:List bG}{n m:Nat}(h:ct (valOf H2 aC K0)=n) (j:ct (cellOf aC C1)=m) (hn:n+m<1000):valOf H2 aC K1=itoa ((n+m:Nat):Int):=by
 have e:=di (aC:=aC) gv (i:=1) (by simp);rw [show cj H2 1=2 from rfl,l4] at e;simp only [cZ,List.nil_append] at e;rw [XX,List.singleton_append,XY] at e;rw [g1c,h,jE (by omega),j] at e
 injection e with _ e2 _
 rw [← e2]
 simp [cU,mB,Nat.mod_eq_of_lt hn]
abbrev iA:List bG:=[⟨C0,z4,1⟩]
abbrev iB:List bG:=[⟨C0,z5,2⟩]
theorem XZ:aL iA C0=⟨C0,z4,1⟩:=by unfold aL;rw [List.find?_cons];simp
theorem X0:aL iB C0=⟨C0,z5,2⟩:=by unfold aL;rw [List.find?_cons];simp
theorem Sr:(C0 == C1)=false:=by simp [bd,itoa,Lib.itoa,Lib.decDigits]
theorem X1:aL iB C1=⟨C1,⟨#[]⟩,0⟩:=by unfold aL;rw [List.find?_cons,Sr];rfl
theorem vA0:valOf H2 iA K0=z2:=by rw [Gx (n:=4) (by unfold cellOf;rw [XZ];exact vs4) (by omega)];exact Sp
theorem X2:valOf H2 iB K0=z2:=by rw [Gx (n:=5) (by unfold cellOf;rw [X0];exact XV) (by omega)];exact Sp
theorem vB1:valOf H2 iB K1=z2:=by rw [Mo (n:=2) (m:=0) (by rw [X2];exact vs2) (by unfold cellOf;rw [X1];exact vsE) (by omega)];exact Sp
theorem Ss:ax C1=true:=aY (n:=1) (by omega)
theorem Cg{x:bZ}(e:LC H2 x) {y:Key}(h:aA x y=true):y=K0∨y=K1:=by
 obtain⟨r,h1,_⟩:=aN.1 h;obtain⟨g1,g2⟩:=aI h1;obtain⟨k1,k2,_⟩:=e.lb.BM.kr r g1;rw [g2] at k1 k2
 cases k1 with
 | cell j=>rw [aY j] at k2;cases k2
 | @eU i hi _=>
  have o:i<2:=hi
  have n:i=0∨i=1:=by omega
  rcases n with rfl | rfl
  ·
   exact .inl lZ
  exact .inr l4
section
variable {x b y b2:bZ}{bO ti rs:List Key}
theorem EE(e:LC H2 x) (hn:x.ai=[]) (h:eM H2 (valOf H2 x.ab) [K1] x b [] bO) (hu:aA b K1=true):bO.length=2∧aA b K0=true:=by
 have hk:∀k∈[K1],eV H2 k:=fun k hk=>by rw [List.mem_singleton.1 hk];exact xX
 have j:∀y,ay x.ai y=none:=fun y=>by rw [hn];rfl
 have n:∀y,aA x y=false:=fun y=>by unfold aA;rw [j y];rfl
 obtain⟨hb,_,_,hw,_⟩:=h.done gv e hk
 have h0:aA b K0=true:=by
  rcases h.reads gv e hk (n K1) hu (a:=K0) (by rw [Ie];simp) with h | h
  ·
   rw [zZ] at h;cases h
  exact h
 refine⟨?_,h0⟩
 have o:bO.Perm [K0,K1]:=(List.perm_ext_iff_of_nodup hw.ju (by have:=Ml;simp [this])).2 fun y=>by
  rw [h.mem gv e hk];simp only [List.mem_cons,List.not_mem_nil,or_false]
  constructor
  ·
   exact fun⟨_,h⟩=>Cg hb h
  rintro(rfl | rfl)
  ·
   exact⟨⟨zZ,n _,.inl (j _)⟩,h0⟩
  exact⟨⟨Cf,n _,.inl (j _)⟩,hu⟩
 exact o.length_eq
theorem EG(hb:LC H2 b) (hr:b.ad=1) (h0:aA b K0=true) (h1:aA b K1=true) (F:∀r∈b.ai,r.ak=b.ad→r.value=valOf H2 iA r.key) (B:LC H2 y) (o:y=⟨2,iB,b.ai⟩) (h:eM H2 (valOf H2 y.ab) [K1] y b2 [] bO) (hu:aA b2 K1=true) (G:rs.Perm bO):rs=[K0]∧fo b2 K1=true∧iy b2 K1=z2:=by
 have hk:∀k∈[K1],eV H2 k:=fun k hk=>by rw [List.mem_singleton.1 hk];exact xX
 obtain⟨I,_,Q,hw,J⟩:=h.done gv B hk;obtain⟨q0,f0,v0⟩:=aN.1 h0;obtain⟨q1,f1,v1⟩:=aN.1 h1;obtain⟨m0,k0⟩:=aI f0;obtain⟨m1,k1⟩:=aI f1;obtain⟨R,t⟩:=hb.bh
 have r0:q0.reads=[C0]:=by rw [(t.c.vr q0 m0).2,k0];exact Sq
 have r1:q1.reads=[K0,C1]:=by rw [(t.c.vr q1 m1).2,k1];exact Ie
 have j:ay y.ai K0=some q0:=by rw [o];exact f0
 have n:ay y.ai K1=some q1:=by rw [o];exact f1
 have D:y.ad=2:=by rw [o]
 have A:y.ab=iB:=by rw [o]
 have w0:q0.ak=1:=by rw [v0,hr]
 have w1:q1.ak=1:=by rw [v1,hr]
 have L:aA y K0=false:=by unfold aA;rw [j,aJ j,w0,D];rfl
 have n1:aA y K1=false:=by unfold aA;rw [n,aJ n,w1,D];rfl
 have M:aA b2 K0=true:=by
  rcases h.reads gv B hk n1 hu (a:=K0) (by rw [Ie];simp) with h | h
  ·
   rw [zZ] at h;cases h
  exact h
 have Mn:BQ (valOf H2 y.ab) y K0:=by
  refine⟨zZ,L,.inr (.inr ⟨K0,C0,ep,by rw [aJ j,r0];simp,?_,?_⟩)⟩
  ·
   rw [et rfl];simpa using Mk
  rw [aJ j,w0]
  unfold aP
  rw [if_pos Mj,A,X0]
  decide
 have Mm:¬BQ (valOf H2 y.ab) y K1:=by
  rintro⟨_,_,h | h | ⟨m,a,hm,C,_,e⟩⟩
  ·
   rw [n] at h;cases h
  ·
   rw [aJ n] at h
   have:=t.dv q1 m1 h
   omega
  rw [et rfl,List.mem_singleton] at hm;subst hm;rw [aJ n,r1] at C;rw [aJ n,w1] at e;simp only [List.mem_cons,List.not_mem_nil,or_false] at C
  rcases C with rfl | rfl
  ·
   have N:valOf H2 y.ab K0=q0.value:=by
    rw [A,X2,F q0 m0 v0,k0,vA0]
   have S:=(t.c.yR q0 m0).2
   unfold aP at e
   rw [if_neg (by rw [zZ];simp),j,aJ j,N] at e
   simp at e
   omega
  unfold aP at e
  rw [if_pos Ss,A,X1] at e
  simp at e
 have O:bO.Perm [K0]:=(List.perm_ext_iff_of_nodup hw.ju (by simp)).2 fun z=>by
  rw [h.mem gv B hk,List.mem_singleton]
  constructor
  ·
   rintro⟨g1,g2⟩
   rcases Cg I g2 with rfl | rfl
   ·
    rfl
   exact absurd g1 Mm
  rintro rfl;exact⟨Mn,M⟩
 have E:fo b2 K1=true:=by unfold fo;rw [Cf];exact hu
 refine⟨List.perm_singleton.1 (G.trans O),E,?_⟩;obtain⟨r,fr,vr⟩:=aN.1 hu;obtain⟨g1,g2⟩:=aI fr
 unfold iy
 rw [if_neg (by rw [Cf];simp),if_pos E,aJ fr,J r g1 vr,g2,A];exact vB1
theorem smA:∀c∈[(⟨C0,z4⟩:Change)],c.small:=fun c hc=>by
 rw [List.mem_singleton.1 hc];exact⟨⟨0,by omega,by omega,rfl⟩,by decide⟩
theorem aoA(h:AO ⟨0,[],[]⟩ [⟨C0,z4⟩] y):y=⟨1,iA,[]⟩:=h.one _ rfl (by decide) (by decide)
theorem aoB(hi:b.ab=iA) (hr:b.ad=1) (h:AO b [⟨C0,z5⟩] y):y=⟨2,iB,b.ai⟩:=by
 have h1:=h.one _ rfl (by rw [hi,XZ];decide) (by rw [hr];decide);rw [h1,hi,hr]
 congr 1
 simp [dm,fe]
end
end Go.Rc

namespace Go.Rc
open Go
end Go.Rc

namespace Go.Rc
open Go
section
variable {aa:List aF}{x:bZ}{s:ES}{k:Key}
end
end Go.Rc

namespace Go.Rc
open Go
section
variable {aa:List aF}{val:Key→ByteArray}{x:bZ}{k m:Key}
end
end Go.Rc

namespace Go.Rc
open Go
theorem Ig{rev:Int}{l:List bG}(h:gh rev l) (h0:0≤rev) (k:Key):(aL l k).changed≤rev:=by
 unfold aL
 cases j:l.find? fun x=>x.key == k with
 | none=>exact h0
 | some y=>
  obtain⟨_,_,_,_,e⟩:=h.2.1 y (List.mem_of_find?_eq_some j);exact e
section
variable {rl:List aF}{b c:bZ}{l:List Change}{r:Rec}{a:Key}
end
end Go.Rc

namespace Go.Rc
open Go
section
variable {rl:List aF}{val:Key→ByteArray}{b:bZ}{a y:Key}{l:List Key}{i q:Nat}
end
end Go.Rc

namespace Go.Rc
open Go
section
variable {aa:List aF}{b c b2:bZ}{l:List Change}{goals ti:List Key}{y a k:Key}{r:Rec}{i:Nat}
def RdK(aa:List aF) (a:Key):Prop:=(∃n:Nat,n≤15∧a=bd (n:Int))∨∃m:Nat,m<aa.length∧a=aK aa (m:Int)
theorem Aa(hR:ao aa) (hb:LC aa b) (hr:r∈b.ai):∀a∈r.reads,RdK aa a:=fun a e=>by
 obtain⟨H,j⟩:=hb.bh;obtain⟨i,hi,hk⟩:=j.kr r hr;have o:=hR.len;rw [(j.c.vr r hr).2,hk] at e
 unfold gO at e
 rw [if_neg (by rw [bQ hi (by omega)];simp),br hi (by omega)] at e
 rcases(mL hR hi e).1 with h | ⟨m,h1,n,_⟩
 ·
  exact .inl h
 exact .inr ⟨m,h1,n⟩
theorem pG(hR:ao aa) (hb:LC aa b) (qw:∀i:Nat,i<aa.length→aA b (aK aa (i:Int))=true) (hi:i<aa.length):∃r,ay b.ai (aK aa (i:Int))=some r∧r∈b.ai∧r.key=aK aa (i:Int)∧r.ak=b.ad∧r.changed≤b.ad∧r.bU=false∧r.value=valOf aa b.ab (aK aa (i:Int)):=by
 obtain⟨H,j⟩:=hb.bh;obtain⟨r,h1,n,o⟩:=j.c.up (qw i hi);obtain⟨g1,g2⟩:=aI h1;have t:=(j.c.yR r g1).2;refine⟨r,h1,g1,g2,n,by omega,?_,o⟩
 cases e:r.bU with
 | false=>rfl
 | true=>have:=j.dv r g1 e;omega
theorem Ch(hR:ao aa) (hb:LC aa b) (qw:∀i:Nat,i<aa.length→aA b (aK aa (i:Int))=true) (wX:c.ai=b.ai) (vq:b.ad<c.ad) (hi:i<aa.length):b.ad<aP (valOf aa c.ab) c (aK aa (i:Int))↔valOf aa b.ab (aK aa (i:Int))≠valOf aa c.ab (aK aa (i:Int)):=by
 have o:=hR.len;have e:=bQ hi (by omega);obtain⟨q,h1,_,_,t,z,_,j⟩:=pG hR hb qw hi
 unfold aP
 rw [if_neg (by rw [e];simp),wX,h1,aJ h1,← j]
 have n:¬q.ak=c.ad:=by omega
 by_cases e5:valOf aa c.ab (aK aa (i:Int))=q.value
 ·
  simp [e5];omega
 simp only [n,e5,decide_false,Bool.or_false,Bool.and_false,Bool.false_eq_true,if_false];exact⟨fun _ h=>e5 h.symm,fun _=>by omega⟩
theorem Ci(hR:ao aa) (hb:LC aa b) (qw:∀i:Nat,i<aa.length→aA b (aK aa (i:Int))=true) (wX:c.ai=b.ai) (vq:b.ad<c.ad) (hi:i<aa.length):aA c (aK aa (i:Int))=false:=by
 obtain⟨r,h1,_,_,e,_⟩:=pG hR hb qw hi
 unfold aA
 rw [wX,h1,aJ h1]
 have:¬r.ak=c.ad:=by omega
 simp [this]
theorem Ab(hR:ao aa) (hb:LC aa b) (qw:∀i:Nat,i<aa.length→aA b (aK aa (i:Int))=true) (wX:c.ai=b.ai) (vq:b.ad<c.ad) (hi:i<aa.length):BQ (valOf aa c.ab) c (aK aa (i:Int))↔DD (valOf aa c.ab) c (aK aa (i:Int)):=by
 have e:=hR.len;obtain⟨r,h1,_,_,j,_,hd,_⟩:=pG hR hb qw hi
 constructor
 ·
  rintro⟨_,_,h | h | h⟩
  ·
   rw [wX,h1] at h;cases h
  ·
   rw [wX,aJ h1,hd] at h;cases h
  exact h
 exact fun h=>⟨bQ hi (by omega),Ci hR hb qw wX vq hi,.inr (.inr h)⟩
theorem Ac(hw:Wy aa c ⟨b2,[],ti,0⟩) (hn:aA c y=false) (hu:aA b2 y=true) (j:ay c.ai y=some r) (A:r.changed<c.ad):∃r2,ay b2.ai y=some r2∧r2.ak=b2.ad∧(r2.value=r.value↔r2.changed=r.changed)∧(y∉ti→r2.value=r.value):=by
 obtain⟨r2,g1,g2⟩:=aN.1 hu;have t:b2.ad=c.ad:=hw.rev;have n:=hw.ev.pt y;simp only at n;refine⟨r2,g1,g2,?_⟩
 rcases n with e | ⟨_,q,e1,_,e2,e3 | e3⟩ | ⟨⟨e1,_⟩,e2,r',e3,B,_,e5,e6,_⟩
 ·
  rw [aN.2 ⟨r2,e.symm.trans g1,g2.trans t⟩] at hn
  cases hn
 ·
  rw [g1] at e3;rw [j] at e1
  cases e1
  cases e3
  exact⟨by simp,fun _=>rfl⟩
 ·
  rw [g1] at e3
  cases e3
  have g2:q.ak=b2.ad:=g2
  omega
 rw [g1] at e3
 cases e3
 have z:=e6 r j;refine⟨?_,fun h=>absurd e1 h⟩;rw [z]
 by_cases h:r.value=r2.value
 ·
  simp [h]
 rw [if_neg h];exact⟨fun o=>absurd o.symm h,fun o=>by omega⟩
section
variable (hR:ao aa) (hb:LC aa b) (qw:∀i:Nat,i<aa.length→aA b (aK aa (i:Int))=true) (wX:c.ai=b.ai) (hc:LC aa c) (hk:∀k∈goals,eV aa k) (h:eM aa (valOf aa c.ab) goals c b2 [] ti) (Eo:∀i:Nat,i<aa.length→aA b2 (aK aa (i:Int))=true)
include hR hb qw wX hc hk h Eo
end
end
end Go.Rc

namespace Go.Rc
open Go
section
variable {aa:List aF}{b c b2:bZ}{l:List Change}{goals ti:List Key}{i:Nat}
end
end Go.Rc

namespace Go.Rc
open Go
section
variable {aa:List aF}{b c d b2:bZ}{goals ti:List Key}{l:List Change}{K:Key}{u v:ByteArray}{i:Nat}{y:Key}
theorem vt{x:bZ}(h:AO ⟨0,[],[]⟩ l x) (j:∀c∈l,c.value.size≤50) (k:Key):(aL x.ab k).value.size≤50:=by
 rcases h.src k with e | ⟨c,hc,e⟩
 ·
  rw [e];show(⟨#[]⟩:ByteArray).size≤50;decide
 rw [e];exact j c hc
theorem pH(hR:ao aa) (h:∀k,cellOf d.ab k=cellOf b.ab k) (hi:i<aa.length):valOf aa d.ab (aK aa (i:Int))=valOf aa b.ab (aK aa (i:Int)):=BO hR i hi fun y _ _=>h y
theorem yZ{n:Nat}(hn:n≤9) (e:v.size≤100):∀c∈[(⟨bd (n:Int),v⟩:Change)],c.small:=fun c hc=>by
 rw [List.mem_singleton.1 hc];exact⟨⟨(n:Int),by omega,by omega,rfl⟩,e⟩
theorem Ih(h:v.size≤50):(v++⟨#[49]⟩).size≤100:=by
 rw [ByteArray.size_append];have h1:(⟨#[49]⟩:ByteArray).size=1:=rfl
 omega
theorem Ii(v:ByteArray):v≠v++⟨#[49]⟩:=fun e=>by
 have h:=congrArg ByteArray.size e;rw [ByteArray.size_append] at h;have h1:(⟨#[49]⟩:ByteArray).size=1:=rfl
 omega
theorem vu(z:ax K=true) (h1:AO b [⟨K,u⟩] c) (n:AO c [⟨K,v⟩] d) (hu:(aL b.ab K).value≠u) (j:(aL b.ab K).value=v) (hr:b.ad+2≤1073741824):d.ad=b.ad+2∧d.ai=b.ai∧(∀k,cellOf d.ab k=cellOf b.ab k)∧∀k,k≠K→aL d.ab k=aL b.ab k:=by
 have e1:=h1.one _ rfl hu (by omega)
 have o:aL c.ab K=⟨K,u,b.ad+1⟩:=by rw [e1];exact ew _ _
 have e2:=n.one _ rfl (by rw [o,← j];exact fun e=>hu e.symm) (by rw [e1];show b.ad+1+1≤_;omega)
 have hd:∀k,k≠K→aL d.ab k=aL b.ab k:=fun k hk=>by
  rw [e2]
  show aL (dm _ c.ab false) k=_
  rw [gG (fun e=>hk e.symm),e1];exact gG (fun e=>hk e.symm) _
 have t:(aL d.ab K).value=v:=by
  rw [e2]
  show(aL (dm ⟨K,v,c.ad+1⟩ c.ab false) K).value=v
  rw [ew ⟨K,v,c.ad+1⟩ c.ab]
 refine⟨?_,by rw [e2,e1],fun k=>?_,hd⟩
 ·
  rw [e2,e1]
  show b.ad+1+1=_
  omega
 unfold cellOf
 by_cases e:k=K
 ·
  subst e;rw [t,j]
 rw [hd k e]
section
variable (hR:ao aa) (hb:LC aa b) (qw:∀i:Nat,i<aa.length→aA b (aK aa (i:Int))=true) (wX:d.ai=b.ai) (hd:LC aa d) (hk:∀k∈goals,eV aa k) (h:eM aa (valOf aa d.ab) goals d b2 [] ti) (Eo:∀i:Nat,i<aa.length→aA b2 (aK aa (i:Int))=true) (vq:d.ad=b.ad+2) (jK:∀k,cellOf d.ab k=cellOf b.ab k) (Cj:∀k,k≠K→aL d.ab k=aL b.ab k)
include hR hb qw wX hd hk h vq jK Cj
theorem Ck(B:y∈ti):aw y=true∨K∈(aD b.ai y).reads:=by
 have I:=hR.len;obtain⟨C,_,_,hw,_⟩:=h.done hR hd hk;obtain⟨D,hu⟩:=(h.mem hR hd hk).1 B;obtain⟨r2,f2,_⟩:=aN.1 hu;obtain⟨m2,k2⟩:=aI f2;obtain⟨H,E⟩:=C.bh;obtain⟨i,hi,e⟩:=E.kr r2 m2;have e:y=aK aa (i:Int):=k2.symm.trans e;subst e
 cases F:aw (aK aa (i:Int)) with
 | true=>exact .inl rfl
 | false=>
  refine .inr ?_;obtain⟨r,h1,hm,_,G,_⟩:=pG hR hb qw hi;obtain⟨m,a,q1,t,J,o⟩:=(Ab hR hb qw wX (by omega) hi).1 D;rw [et F,List.mem_singleton] at q1;subst q1;rw [wX,aJ h1] at t o;rw [G] at o;rw [aJ h1]
  rcases Aa hR hb hm a t with⟨n,hn,rfl⟩ | ⟨j,z,rfl⟩
  ·
   by_cases A:bd (n:Int)=K
   ·
    rw [← A];exact t
   exfalso
   have L:(aL b.ab (bd (n:Int))).changed≤b.ad:=Ig hb.lb.aC hb.lb.ok.qF.r0 _
   unfold aP at o
   rw [if_pos (aY (by omega)),Cj _ A] at o
   omega
  exact absurd (pH hR jK z).symm ((Ch hR hb qw wX (by omega) z).1 o)
include Eo
theorem Cl{r:Rec}(hr:r∈b.ai):(ay b2.ai r.key).isSome=true∧(aD b2.ai r.key).value=r.value∧(aD b2.ai r.key).changed=r.changed:=by
 obtain⟨_,_,_,hw,t⟩:=h.done hR hd hk;obtain⟨H,j⟩:=hb.bh;obtain⟨i,hi,e⟩:=j.kr r hr;have n:ay b.ai r.key=some r:=eu j.st hr;obtain⟨q,h1,_,A,B,C,_,z⟩:=pG hR hb qw hi;rw [← e,n] at h1
 cases h1
 have hn:=Ci hR hb qw wX (by omega) hi;have hu:=Eo i hi;rw [← e] at hn hu;obtain⟨r2,g1,g2,g3,_⟩:=Ac hw hn hu (by rw [wX];exact n) (by omega);obtain⟨m1,m2⟩:=aI g1
 have o:r2.value=r.value:=by rw [t r2 m1 g2,m2,e,pH hR jK hi,z]
 rw [aJ g1,g1];exact⟨rfl,o,g3.1 o⟩
end
end
end Go.Rc

namespace Go.Rc
open Go
section
variable {H:Type}{enc:TypeId × Value→H}{P:Program}{w:World}
theorem nL{e:TypeId}:∀{l:List (DataW H)}{d:DataW H},d∈l→∀n∈d.weights P e,n∈DataW.weightsAll P e l
 | [],_,hd,_,_=>by cases hd
 | x::r,d,hd,n,hn=>by
  simp only [DataW.weightsAll,List.mem_append]
  rcases List.mem_cons.1 hd with rfl | hd
  ·
   exact .inl hn
  exact .inr (nL hd n hn)
def Cm(P:Program) (t:TypeId) (d:DataW H):Prop:=∀n∈d.weights P t,n≤reachBytes
theorem Cm.len{t e:TypeId}{xs j:List (DataW H)}(h:Cm P t (.slice xs j)) (ht:P.underlying t=some (.slice e)) (hb:1≤P.bytesOf e):xs.length≤140737488355328:=by
 have h1:=h ((xs.length+j.length)*P.bytesOf e) (by simp only [DataW.weights,ht];exact List.mem_cons_self)
 unfold reachBytes at h1
 have n:xs.length*1≤(xs.length+j.length)*P.bytesOf e:=Nat.mul_le_mul (by omega) hb
 omega
theorem Cm.elem{t e:TypeId}{xs j:List (DataW H)}(h:Cm P t (.slice xs j)) (ht:P.underlying t=some (.slice e)) {d:DataW H}(hd:d∈xs):Cm P e d:=fun n hn=>
 h n (by simp only [DataW.weights,ht,List.mem_cons,List.mem_append];exact .inr (.inl (nL hd n hn)))
theorem Cm.each{e:List TypeId}{ds:List (DataW H)}(h:(DataW.weightsEach P e ds).all (·≤reachBytes)=true) {j:Nat}{t:TypeId}{d:DataW H}(ht:e[j]?=some t) (hd:ds[j]?=some d):Cm P t d:=fun n hn=>by
 have:=List.all_eq_true.1 h n (DataW.weights_mem_each ht hd n hn)
 simpa using this
theorem EH{α:Type} [Inhabited α] {R:α→List Value→Prop}{t e:TypeId}{k fuel n c:Nat}{a:Option Addr}{d:DataW H}{p:List MemPlace}(ht:P.underlying t=some (.slice e)) (hk:P.cellsOf e=k) (S:1≤k) (hb:1≤P.bytesOf e)
  (hR:∀(m:Nat) (cs:List Value) (d:DataW H) (p:List MemPlace),DataW.trod enc P w 0 (fun _=>true) true m e cs=some (d,p)→cs.length=k→Cm P e d→∃x:α,R x cs)
  (h:DataW.trod enc P w 0 (fun _=>true) true fuel t [.slice a n c]=some (d,p)) (hl:Cm P t d):∃xs:List α,LR (fun b=>b<w.heap.size) w k R a n xs:=by
 rcases Deep.open_slice ht h with⟨hc,_⟩ | ⟨B,len,cap,m,T,D,U,hc,_,hle,_,hm,z,J⟩
 ·
  simp only [List.cons.injEq,Value.slice.injEq,and_true] at hc;obtain⟨rfl,rfl,rfl⟩:=hc;exact⟨[],⟨rfl,by omega,fun z=>by simp at z⟩⟩
 simp only [List.cons.injEq,Value.slice.injEq,and_true] at hc;obtain⟨rfl,rfl,rfl⟩:=hc;simp only [Prod.mk.injEq] at z;obtain⟨rfl,_⟩:=z;simp only [if_true] at hm
 have hn:n≤140737488355328:=by simpa using hl.len ht hb
 have each:∀i,i<n→∃q:α × List Value,w.cells? 0 (B.add (i*k)) k=some q.2∧R q.1 q.2:=fun i hi=>by
  obtain⟨L,h1,M⟩:=J i (by omega);rw [hk] at h1;obtain⟨x,z⟩:=hR _ _ _ _ M (World.cells?_some h1).2.1 (hl.elem ht (List.mem_map.2 ⟨i,by simpa using hi,rfl⟩));exact⟨(x,L),h1,z⟩
 obtain⟨q,C⟩:=Deep.choose_lt each;refine⟨(List.range n).map fun i=>(q i).1,⟨by simp,hn,fun {i x} z=>?_⟩⟩
 obtain⟨hi,rfl⟩:i<n∧(q i).1=x:=by
  rw [List.getElem?_map] at z;obtain⟨j,A,N⟩:=Option.map_eq_some_iff.1 z;rw [List.getElem?_eq_some_iff] at A;obtain⟨E,F⟩:=A
  simp at E F
  subst F;exact⟨E,N⟩
 have G:B.spot=none:=by
  obtain⟨_,V,O⟩:=World.cells?_some (C 0 (by omega)).1;have h0:=O 0 (by omega);rw [List.getElem?_eq_getElem (by omega)] at h0
  have:=World.cell?_spot h0
  simpa [Addr.add] using this
 obtain⟨b,o,s⟩:=B;simp only at G;subst G;obtain⟨_,Q,jK⟩:=World.cells?_some (C i hi).1
 have hr:w.rangeAt b (o+i*k) (q i).2:=fun j v I=>by
  have A:j<k:=by have:=(List.getElem?_eq_some_iff.1 I).1;omega
  have:=jK j A
  rw [WideShapes.add_plain,WideShapes.add_plain] at this;rw [this,I]
 refine⟨b,o,(q i).2,rfl,Q,(C i hi).2,hr,?_,?_⟩ <;>
  exact World.block_lt_of_cell? w ⟨b,_,none⟩ (hr 0 _ (List.getElem?_eq_getElem (by omega)))
end
def pI(P:Program) (w:World) (n:String):Prop:=∃(nm:String) (d:DataW Unit) (g t:Nat) (ms:Array (String × TypeId)),Lib.VarReads P w n (.iface nm d)∧P.globalNamed n=some g∧(P.globals[g]?).map (·.type)=some t∧P.underlying t=some (.interface ms)
theorem Ij{P:Program}{w:World}{g t e:Nat}(D:Lib.VarReads P w "internal/strconv.uint64pow10" (Lib.tabData .u64 Lib.pow10Tab)) (A:P.globalNamed "internal/strconv.uint64pow10" = some g) (E:(P.globals[g]?).map (·.type)=some t) (ht:P.underlying t=some (.array 20 e)) (he:P.underlying e=some (.int .u64))
  (F:P.cellsOf e=1) (G:P.cellsOf t=20) (I:pI P w "strconv.ErrSyntax") (J:pI P w "strconv.ErrRange"):kb P (fun b=>b<w.heap.size) w:=by
 obtain⟨T,U,cs,fuel,p,L,M,j,hd⟩:=D;obtain rfl:=Option.some.inj (A.symm.trans L);obtain rfl:=Option.some.inj (E.symm.trans M);have hc:=Lib.cells_of_tab ht he F G hd
 have hT:Lib.TabIs P w "internal/strconv.uint64pow10" .u64 Lib.pow10Tab:=by
  unfold Lib.TabIs
  rw [j,← hc]
 have B:g<w.heap.size:=by
  unfold World.var? at j
  simp only [A,Option.bind_some] at j
  split at j
  ·
   rename_i z
   exact(Array.getElem?_eq_some_iff.1 z).1
  cases j
 refine⟨⟨g,B,B,fun w' e=>?_⟩,fun n hn g2 N=>?_⟩
 ·
  unfold Lib.TabIs World.var? at hT ⊢
  simp only [A,Option.bind_some] at hT ⊢;rw [e];exact hT
 have O:pI P w n:=by
  rcases hn with rfl | rfl
  ·
   exact I
  exact J
 obtain⟨V,d,g3,t3,ms,⟨g4,t4,W,X,p4,e1,e2,o,Q⟩,e3,R,e5⟩:=O;obtain rfl:=Option.some.inj (e1.symm.trans N);obtain rfl:=Option.some.inj (e1.symm.trans e3);obtain rfl:=Option.some.inj (e2.symm.trans R);obtain⟨_,u,v,S,_,_⟩:=iface_of_trod e5 Q
 unfold World.var? at o
 simp only [e1,Option.bind_some] at o
 split at o
 ·
  rename_i c0 x0 Y z
  obtain rfl:=Option.some.inj o;have C:=(Array.getElem?_eq_some_iff.1 z).1;refine⟨C,C,.iface u v,.inr ⟨u,v,rfl⟩,fun w' e=>?_⟩;obtain rfl:c0=#[.iface u v]:=Array.toList_inj.1 S
  unfold World.cell?
  simp only [e,z]
  first | done | rfl
 cases o
theorem aQ.Ik{w w':World}(h:aQ [] w w') (B:Nat) (e:B≤w.heap.size):RowKit.Below B w w':=⟨h.os,h.tape,h.output,h.size,fun k hk=>h.block k (by omega) (by simp)⟩
end Go.Rc

namespace Go.Rc
open Go
def Il(m f:Nat):Bool:=Nat.beq (Nat.land (Nat.shiftRight m f) 1) 1
def xY(look:FuncId→Option Func) (P:Program):Nat→List FuncId→Nat→List FuncId→List FuncId
 | 0,_,_,seen=>seen.reverse
 | _,[],_,seen=>seen.reverse
 | n+1,f::todo,mask,seen=>
  match Il mask f with
  | true=>xY look P n todo mask seen
  | false=>xY look P n ((look f).elim [] P.leadsTo++todo) (Nat.lor mask (Nat.shiftLeft 1 f)) (f::seen)
theorem EJ(m f:Nat):Il m f=m.testBit f:=by
 unfold Il
 show Nat.beq ((m >>> f) &&& 1) 1=m.testBit f
 rw [Nat.testBit,Nat.and_comm];have h:=Nat.and_one_is_mod (m >>> f);rw [Nat.and_comm]
 have j:(1 &&& m >>> f)=(m >>> f) % 2:=by rw [Nat.and_comm];exact h
 rw [Nat.and_comm,j]
 rcases Nat.mod_two_eq_zero_or_one (m >>> f) with e | e <;> rw [e] <;> rfl
theorem tj{look:FuncId→Option Func}(P:Program) (hl:∀g,P.funcs[g]?=look g):∀(n:Nat) (todo:List FuncId) (mask:Nat) (seen:List FuncId),(∀x:Nat,mask.testBit x=seen.contains x)→xY look P n todo mask seen=P.closureVia n todo seen
 | 0,_,_,_,_=>by unfold xY Program.closureVia;rfl
 | n+1,[],_,_,_=>by unfold xY Program.closureVia;rfl
 | n+1,f::todo,mask,seen,h=>by
  unfold xY Program.closureVia
  rw [EJ,h f]
  cases hc:seen.contains f with
  | true=>simp only [if_true];exact tj P hl n todo mask seen h
  | false=>
   simp only [Bool.false_eq_true,if_false];rw [hl f];refine tj P hl n _ _ _ fun x=>?_
   show(mask ||| (1 <<< f)).testBit x=(f::seen).contains x
   rw [Nat.testBit_or,h x,Nat.shiftLeft_eq,Nat.one_mul,Nat.testBit_two_pow,List.contains_cons,Bool.or_comm]
   grind
theorem tk{look:FuncId→Option Func}(P:Program) (hl:∀g,P.funcs[g]?=look g) (f:FuncId):P.closure f=xY look P (1+(P.funcs.toList.map fun g=>(P.leadsTo g).length+1).sum) [f] 0 []:=by grind [Program.closure,tj]
end Go.Rc

namespace Go.Rc
open Go
def tm(P:Program):Nat→List TypeId→List TypeId
 | 0,s=>s
 | d+1,s=>match decide (P.grow s=s) with
  | true=>s
  | false=>tm P d (P.grow s)
theorem sa{P:Program}{s:List TypeId}(h:P.grow s=s):∀n,P.grown n s=s
 | 0=>rfl
 | n+1=>by
  show P.grown n (P.grow s)=s
  rw [h];exact sa h n
theorem sb(P:Program):∀(n:Nat) (s:List TypeId),P.grown n s=tm P n s
 | 0,_=>rfl
 | n+1,s=>by
  show P.grown n (P.grow s)=match decide (P.grow s=s) with | true=>s | false=>tm P n (P.grow s)
  by_cases h:P.grow s=s
  ·
   grind [sa]
  rw [decide_eq_false h];exact sb P n _
def kA(P:Program) (t:TypeId):List TypeId:=tm P P.types.size [t]
theorem jb(P:Program) (t:TypeId):P.book t=kA P t:=sb P _ _
def Cn(P:Program) (t:TypeId):Bool:=(kA P t).all fun u=>P.fineRow u && (P.partsOf u).all ((kA P t).contains ·)
theorem oz(P:Program) (t:TypeId):P.readableRec t=Cn P t:=by grind [Program.readableRec,Cn,jb]
def Co(P:Program) (t:TypeId):Bool:=(kA P t).any fun u=>(P.partsOf u).any fun v=>(kA P v).contains u
theorem vw(P:Program) (t:TypeId):P.loopsFrom t=Co P t:=by grind [Program.loopsFrom,Co,jb]
def Gy(P:Program) (t:TypeId):Bool:=(kA P t).any fun u=>match P.underlying u with | some (.map _ _)=>true | _=>false
theorem EL(P:Program) (t:TypeId):P.mapsRec t=Gy P t:=by grind [Program.mapsRec,Gy,jb]
def y0(P:Program) (t:TypeId):Bool:=(kA P t).any fun u=>match P.underlying u with | some (.interface _)=>true | _=>false
theorem sc(P:Program) (t:TypeId):P.ifacesRec t=y0 P t:=by grind [Program.ifacesRec,y0,jb]
def oA(P:Program) (t:TypeId):Bool:=(kA P t).any fun u=>match P.underlying u with | some (.func ..) | some (.chan ..) | some .unsafePointer=>true | _=>false
theorem mP(P:Program) (t:TypeId):P.veiledRec t=oA P t:=by grind [Program.veiledRec,oA,jb]
def Gz(P:Program) (t:TypeId):Bool:=
 (kA P t).any fun u=>match P.underlying u with
  | some (.map k _)=>(match P.underlying k with | some (.array _ _) | some (.struct _)=>true | _=>false)
  | _=>false
theorem EM(P:Program) (t:TypeId):P.wideKeysFrom t=Gz P t:=by grind [Program.wideKeysFrom,Gz,jb]
def kX(P:Program) (t:TypeId):Bool:=!oA P t || (let L:=P.libraryStructs;(kA P t).all fun u=>!(P.libraryStructIn L u && oA P u))
theorem l5(P:Program) (t:TypeId):P.veiledOwn t=kX P t:=by grind [Program.veiledOwn,kX,jb,mP]
def vx(P:Program) (n:String):Bool:=
 match P.globalNamed n with
 | some g=>((P.globals[g]?).map (·.type)).any fun t=>Cn P t && kX P t
 | none=>false
theorem xZ(P:Program) (n:String):P.varReadable n=vx P n:=by grind [Program.varReadable,vx,oz,l5]
end Go.Rc

namespace Go.Rc
open Go
def blocks{α:Type _}:Nat→List α→List (List α)
 | 0,_=>[]
 | n+1,l=>l.take 32::blocks n (l.drop 32)
def pick{α:Type _}(b:List (List α)) (t:Nat):Option α:=(b[t / 32]?).bind (·[t % 32]?)
theorem hP{α:Type _}:∀(n:Nat) (l:List α) (t:Nat),l.length≤n*32→pick (blocks n l) t=l[t]?
 | 0,l,t,h=>by grind [pick,blocks]
 | n+1,l,t,h=>by
  by_cases ht:t<32
  ·
   grind [pick,blocks]
  have h1:t / 32=(t - 32) / 32+1:=by omega
  have e:t % 32=(t - 32) % 32:=by omega
  have j:=hP n (l.drop 32) (t - 32) (by simp;omega)
  grind [pick,blocks]
def rootOf(b:List (List TypeInfo)) (t:TypeId):Option TypeDesc:=
 (pick b t).bind fun i=>match i.desc with
  | .named _ u=>(pick b u).map (·.desc)
  | d=>some d
def wide(b:List (List TypeInfo)) (t:TypeId):Nat:=((pick b t).map (·.size)).getD 0
theorem mQ{P:Program}{n:Nat}(hn:P.types.size≤n*32) {t:TypeId}{i:TypeInfo}(h:pick (blocks n P.types.toList) t=some i):P.info? t=some i:=by
 rw [hP n _ t (by simpa using hn),Array.getElem?_toList] at h;have ht:t<P.types.size:=(Array.getElem?_eq_some_iff.1 h).1
 unfold Tables.info?
 rw [if_pos ht,h]
theorem EN{P:Program}{n:Nat}(hn:P.types.size≤n*32) {t:TypeId}(h:t<P.types.size):∃i,pick (blocks n P.types.toList) t=some i:=by
 rw [hP n _ t (by simpa using hn),Array.getElem?_toList]
 simp_all
theorem mR{P:Program}{n:Nat}(hn:P.types.size≤n*32) {t:TypeId}{d:TypeDesc}(h:rootOf (blocks n P.types.toList) t=some d):P.underlying t=some d:=by
 unfold rootOf at h
 unfold Program.underlying
 cases j:pick (blocks n P.types.toList) t with
 | none=>rw [j] at h;cases h
 | some i=>
  rw [j] at h;rw [mQ hn j];obtain⟨e,_⟩:=i
  grind [pick,mQ]
theorem l6{P:Program}{n:Nat}(hn:P.types.size≤n*32) {t:TypeId}(h:t<P.types.size):wide (blocks n P.types.toList) t=P.cellsOf t:=by grind [EN,wide,Program.cellsOf,mQ]
def jL(b:List (List TypeInfo)) (N:Nat) (t:TypeId):Bool:=Nat.ble (t+1) N && kindOk (rootOf b t)
theorem j7{b:List (List TypeInfo)}{N:Nat}{t:TypeId}(h:jL b N t=true):t<N:=by
 simp only [jL,Bool.and_eq_true] at h;exact Nat.le_of_ble_eq_true h.1
theorem j8{P:Program}{n:Nat}(hn:P.types.size≤n*32) {t:TypeId}(h:jL (blocks n P.types.toList) P.types.size t=true):isVar P t=true:=by
 have hl:=j7 h;simp only [jL,Bool.and_eq_true] at h
 unfold isVar
 cases hr:rootOf (blocks n P.types.toList) t with
 | none=>rw [hr] at h;cases h.2
 | some d=>grind [mR]
def l7(b:List (List TypeInfo)) (N:Nat):Nat→List Field→Bool
 | _,[]=>true
 | o,f::r=>jL b N f.type && Nat.beq f.offset o && l7 b N (o+wide b f.type) r
def sumOf(b:List (List TypeInfo)):List Field→Nat
 | []=>0
 | f::r=>wide b f.type+sumOf b r
def Im(b:List (List TypeInfo)) (N:Nat) (t:TypeId):Bool:=
 match rootOf b t with
 | none=>false
 | some (.struct fs)=>l7 b N 0 fs.toList && Nat.beq (wide b t) (sumOf b fs.toList)
 | some (.array k e)=>jL b N e && Nat.beq (wide b t) (k*wide b e)
 | some (.pointer e)=>jL b N e && Nat.beq (wide b t) 1
 | some (.slice e)=>jL b N e && Nat.beq (wide b t) 1
 | some (.tuple _)=>true
 | some .invalid=>true
 | some (.named _ _)=>true
 | _=>Nat.beq (wide b t) 1
def xS(b:List (List TypeInfo)) (N:Nat) (t:TypeId):Bool:=
 match rootOf b t with
 | none=>false
 | some (.map _ e)=>Nat.ble (e+1) N
 | _=>true
theorem l8{P:Program}{n:Nat}(hn:P.types.size≤n*32):∀(fs:List Field) (o:Nat),l7 (blocks n P.types.toList) P.types.size o fs=true→
  (∀f∈fs,isVar P f.type=true)∧(∀j f,fs[j]?=some f→f.offset=o+((fs.take j).map fun f=>P.cellsOf f.type).sum)∧sumOf (blocks n P.types.toList) fs=(fs.map fun f=>P.cellsOf f.type).sum
 | [],_,_=>⟨by simp,by simp,rfl⟩
 | g::r,o,h=>by
  simp only [l7,Bool.and_eq_true] at h;obtain⟨⟨h1,t⟩,e⟩:=h;rw [l6 hn (j7 h1)] at e;obtain⟨z,i2,i3⟩:=l8 hn r _ e;refine⟨fun f A=>?_,fun j f B=>?_,?_⟩
  ·
   grind [j8]
  ·
   cases j with
   | zero=>simp_all
   | succ j=>grind
  grind [sumOf,l6,j7]
theorem Ad{P:Program}{n:Nat}(hn:P.types.size≤n*32) {t:TypeId}(ht:t<P.types.size) (h:Im (blocks n P.types.toList) P.types.size t=true):rowFine P t=true:=by
 unfold Im at h
 rw [l6 hn ht] at h
 unfold rowFine
 rw [Bool.or_eq_true]
 cases hr:rootOf (blocks n P.types.toList) t with
 | none=>rw [hr] at h;cases h
 | some d=>
  have hu:=mR hn hr;rw [hr] at h
  cases d with
  | struct fs=>
   right
   simp only [hu];simp only [Bool.and_eq_true] at h;obtain⟨h1,z,o⟩:=l8 hn fs.toList 0 h.1;simp only [Bool.and_eq_true,List.all_eq_true,beq_iff_eq];refine⟨⟨h1,(Nat.eq_of_beq_eq_true h.2).trans o⟩,fun j A=>?_⟩
   grind
  | array k e=>
   right
   simp only [hu];simp only [Bool.and_eq_true] at h ⊢;rw [l6 hn (j7 h.1)] at h;exact⟨j8 hn h.1,by simp_all⟩
  | pointer e=>
   right
   simp only [hu];simp only [Bool.and_eq_true] at h ⊢;exact⟨j8 hn h.1,by simp_all⟩
  | slice e=>
   right
   simp only [hu];simp only [Bool.and_eq_true] at h ⊢;exact⟨j8 hn h.1,by simp_all⟩
  | tuple e=>left;simp [isVar,hu,kindOk]
  | invalid=>left;simp [isVar,hu,kindOk]
  | named a e=>left;simp [isVar,hu,kindOk]
  | _=>
   right
   simp only [hu];rw [beq_iff_eq];exact Nat.eq_of_beq_eq_true h
def vy(f:Nat→Bool):Nat→Bool
 | 0=>true
 | n+1=>f n && vy f n
theorem jM{f g:Nat→Bool}:∀(n:Nat),vy f n=true→(∀t,t<n→f t=true→g t=true)→(List.range n).all g=true
 | 0,_,_=>by simp
 | n+1,h,e=>by
  simp only [vy,Bool.and_eq_true] at h;rw [List.range_succ,List.all_append,jM n h.2 fun t ht=>e t (by omega)]
  simp [e n (by omega) h.1]
theorem Ae{P:Program}{N n:Nat}(e:P.types.size=N) (hn:Nat.ble N (n*32)=true) (h:vy (Im (blocks n P.types.toList) N) N=true):(List.range P.types.size).all (rowFine P)=true:=by
 subst e
 exact jM _ h fun t hl ht=>Ad (Nat.le_of_ble_eq_true hn) hl ht
theorem x2{P:Program}{N n:Nat}(e:P.types.size=N) (hn:Nat.ble N (n*32)=true) (h:vy (xS (blocks n P.types.toList) N) N=true):mapsRowed P=true:=by
 subst e
 unfold mapsRowed
 refine jM _ h fun t hl ht=>?_
 unfold xS at ht
 cases hr:rootOf (blocks n P.types.toList) t with
 | none=>rw [hr] at ht;cases ht
 | some d=>
  have hu:=mR (Nat.le_of_ble_eq_true hn) hr
  grind [Nat.le_of_ble_eq_true]
theorem x3{P:Program}{N:Nat}(e:P.types.size=N) (h:P.globals.toList.all (fun g=>Nat.ble (g.type+1) N)=true):P.globals.all (fun g=>decide (g.type<P.types.size))=true:=by grind [Nat.le_of_ble_eq_true]
theorem Af{P:Program}{N:Nat}(e:P.types.size=N) (h:P.funcs.toList.all (fun f=>f.params.toList.all fun t=>Nat.ble (t+1) N)=true):P.funcs.all (fun f=>f.params.all fun t=>decide (t<P.types.size))=true:=by grind [Nat.le_of_ble_eq_true]
theorem Cp{P:Program}(h1:(List.range P.types.size).all (rowFine P)=true) (e:P.globals.all (fun g=>decide (g.type<P.types.size))=true) (j:P.funcs.all (fun f=>f.params.all fun t=>decide (t<P.types.size))=true):laidOutB P=true:=by grind [laidOutB]
theorem both{a b:Bool}(e:a=true) (hb:b=true):(a && b)=true:=by rw [e,hb];rfl
end Go.Rc

namespace Go.Rc
open Go
theorem x4{P:Program}{N n:Nat}(e:P.funcs.size=N) (hn:Nat.ble N (n*32)=true) (g:FuncId):P.funcs[g]?=pick (blocks n P.funcs.toList) g:=by
 subst e;rw [hP n _ g (by simpa using Nat.le_of_ble_eq_true hn),Array.getElem?_toList]
def Cq(name:String):Nat→List Func→List Nat
 | _,[]=>[]
 | k,f::r=>match f.name == name with
  | true=>k::Cq name (k+1) r
  | false=>Cq name (k+1) r
theorem y1(name:String):∀(l:List Func) (k:Nat),Cq name k l=((List.range l.length).filter fun i=>(l[i]?).any (·.name == name)).map (· + k)
 | [],_=>rfl
 | f::r,k=>by
  have h:=y1 name r (k+1);rw [List.length_cons,List.range_succ_eq_map,List.filter_cons,List.filter_map,List.getElem?_cons_zero]
  have e:((fun i=>((f::r)[i]?).any (·.name == name))∘Nat.succ)=fun i=>(r[i]?).any (·.name == name):=by
   funext i
   simp
  rw [e]
  have m:∀q:List Nat,(q.map Nat.succ).map (· + k)=q.map (· + (k+1)):=by
   intro q;rw [List.map_map]
   congr 1
   funext x
   show x.succ+k=x+(k+1)
   omega
  unfold Cq
  cases hb:f.name == name with
  | true=>simp only [Option.any_some,hb,if_true,List.map_cons,Nat.zero_add,m,h]
  | false=>simp only [Option.any_some,hb,Bool.false_eq_true,if_false,m,h]
theorem jO(P:Program) (name:String):P.funcNamed name=match Cq name 0 P.funcs.toList with | [i]=>some i | _=>none:=by
 unfold Program.funcNamed
 rw [y1];simp only [Nat.add_zero,List.map_id',Array.length_toList,Array.getElem?_toList]
 generalize (List.range P.funcs.size).filter (fun i=>(P.funcs[i]?).any (·.name == name))=q
 rcases q with _ | ⟨a,_ | ⟨b,r⟩⟩ <;> rfl
theorem jP(P:Program) (word:String):P.worded word=P.funcs.toList.any fun fn=>fn.body.isNone && fn.name == word:=by
 unfold Program.worded
 rw [Array.any_toList]
theorem pJ(P:Program):P.laysLater=P.funcs.toList.any fun fn=>fn.body.isNone && (fn.name == "runtime.SetFinalizer" || fn.name == "runtime.AddCleanup" || fn.origin == "runtime.AddCleanup"):=by
 unfold Program.laysLater
 rw [Array.any_toList]
theorem oi(P:Program):P.stopsHeard=P.funcs.toList.all fun fn=>(Stop.rowOf fn).isNone || !fn.norace:=by
 unfold Program.stopsHeard
 rw [Array.all_toList]
def l9:List (String × DataW Unit)→List (String × DataW Unit)→Bool
 | [],[]=>true
 | (n,a)::r,(m,b)::s=>n == m && DataW.same a b && l9 r s
 | _,_=>false
theorem nM:∀(l m:List (String × DataW Unit)),l9 l m=true→l=m
 | [],[],_=>rfl
 | (n,a)::r,(k,b)::s,h=>by
  simp only [l9,Bool.and_eq_true,beq_iff_eq] at h;rw [h.1.1,DataW.same_eq a b h.1.2,nM r s h.2]
 | [],_::_,h=>by cases h
 | _::_,[],h=>by cases h
theorem EO{P:Program}{n fuel M:Nat}{laid:List (String × DataW Unit)}{os:Os}{tape:Tape}{g:FuncId}(o:varsId P=g) (he:funcsListed laid=[])
  (h:(match runN P n (Machine.entering P (World.unlaid P os) tape g ⟨#[],#[],[]⟩) with
   | .ended (.done _) w=>(DataW.laidRun P w.memory fuel ((laid.filter fun x=>x.2.handleName?.isNone).map (·.1))).any fun x=>nodupBits M x.2 0 && laidRowsB P w.memory x.2 && (laid.filter fun x=>x.2.handleName?.isSome && x.2.funcsIn?.isNone).all (handleAtB P w.memory) && l9 x.1 (laid.filter fun x=>x.2.handleName?.isNone)
   | _=>false)=true):doorLeaves P n fuel M laid os tape=some (laid.filter fun x=>x.2.handleName?.isNone,(funcsListed laid).map (·.2.funcsOut)):=by
 unfold doorLeaves
 rw [o]
 split at h
 ·
  rename_i v w hr
  rw [hr]
  simp only
  cases j:DataW.laidRun P w.memory fuel ((laid.filter fun x=>x.2.handleName?.isNone).map (·.1)) with
  | none=>rw [j] at h;cases h
  | some x=>
   rw [j] at h;simp only [Option.any_some,Bool.and_eq_true] at h;obtain⟨⟨⟨h1,t⟩,z⟩,A⟩:=h;have e:=nM _ _ A;rw [he];simp only [Option.bind_some,h1,t,z,Bool.and_self,if_true,List.map_nil,funcsRun,Option.map_some,← e]
 cases h
end Go.Rc

namespace Go.Rc
open Go
theorem se:∀l:List Int,(l.map fun z=>[Value.int .i64 z]).flatten=l.map (Value.int .i64)
 | []=>rfl
 | x::r=>by rw [List.map_cons,List.map_cons,List.flatten_cons,se r];rfl
theorem EP{H:Type}{enc:TypeId × Value→H}{P:Program}{w:World}{r:Reach}{base:Nat}{t e:TypeId}{fuel n c:Nat}{a:Option Addr}{d:DataW H}{p:List MemPlace}(ht:P.underlying t=some (.slice e)) (k1:P.cellsOf e=1) (b1:1≤P.bytesOf e) (he:P.underlying e=some (.int .i64))
  (E:Value.okWide P w r base t (.slice a n c)) (h:DataW.trod enc P w 0 (fun _=>true) true fuel t [.slice a n c]=some (d,p)) (hl:Cm P t d):∃l:List Int,Rd RR.int 1 (fun b=>b<w.heap.size) w a n c l:=by
 obtain⟨l,A⟩:=EH (R:=fun(z:Int) r=>r=[Value.int .i64 z]) ht k1 (Nat.le_refl _) b1 (fun m cs d p hm N _=>by
  obtain⟨z,rfl,_,_⟩:=DataW.trod_int he hm;exact⟨z,rfl⟩) h hl
 refine⟨l,A.len,l.map fun z=>[Value.int .i64 z],by simp,fun r hr=>?_,?_,fun i x r I hr=>?_⟩
 ·
  obtain⟨z,_,rfl⟩:=List.mem_map.1 hr
  rfl
 ·
  rw [se];refine⟨by simp [A.len],A.le,fun u hu=>?_,?_⟩
  ·
   obtain⟨z,_,rfl⟩:=List.mem_map.1 hu
   rfl
  rcases Deep.open_slice ht h with⟨hc,_⟩ | ⟨q,len,cap,m,O,D,Q,hc,_,hle,J,_⟩
  ·
   simp only [List.cons.injEq,Value.slice.injEq,and_true] at hc;exact .inl hc
  simp only [List.cons.injEq,Value.slice.injEq,and_true] at hc;obtain⟨rfl,rfl,rfl⟩:=hc
  have B:q.spot=none∧q.block<w.heap.size:=by
   simp only [Value.okWide,ht,Cell.okWide,Cell.ok] at E;obtain⟨_,_,_,L,row,cells,C,_⟩:=E;refine⟨L,?_⟩
   unfold World.shape? at C
   split at C
   ·
    rename_i M
    exact(Array.getElem?_eq_some_iff.1 M).1
   cases C
  obtain⟨b,o,s⟩:=q;obtain⟨F,hb⟩:=B;simp only at F hb;subst F;refine .inr ⟨b,o,rfl,hle,J,hb,hb,fun j v G=>?_⟩;rw [List.getElem?_map] at G;obtain⟨z,B,rfl⟩:=Option.map_eq_some_iff.1 G;obtain⟨b',S,r',e1,_,rfl,hr,_⟩:=A.at_ B;simp only [Option.some.injEq,Addr.mk.injEq,and_true] at e1;obtain⟨rfl,rfl⟩:=e1
  have:=hr 0 _ rfl
  simpa using this
 rw [List.getElem?_map,I] at hr;exact(Option.some.inj hr).symm
end Go.Rc

