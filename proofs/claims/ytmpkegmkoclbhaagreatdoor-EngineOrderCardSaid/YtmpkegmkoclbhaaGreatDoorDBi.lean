/- Base of the proof: frames, memory, ownership, and the plain meaning of rule systems. Conditions: as each lemma says. -/
import Derived.Test.YtmpkegmkoclbhaaGreatDoorDBh
import Derived.Test.YtmpkegmkoclbhaaGreatDoorDBf
import Derived.Test.YtmpkegmkoclbhaaGreatDoorDBg
import Derived.Test.YtmpkegmkoclbhaaGreatDoorDBe
import Derived.Deep.Slices
import Derived.SizedLaws
import Derived.Lib.LaidU8
import Derived.Lib.LaidTab
import Derived.LaidLaws
import GoSem.ClaimFn
import Derived.JoinedOf
import Derived.LaidOnce
import Derived.TwinInFollowed
import Derived.WideShapes
set_option linter.all false
namespace Go.Rc
open Go
def Rec.y7(x:Rec × RL):List Value:=x.1.row x.2.a x.2.n x.2.c
def RR.EJ:RR (Rec × RL):=RR.flat Rec.y7
theorem Rec.Q9(x:Rec × RL):∀u∈Rec.y7 x,u.oneCell'=true:=by simp [Rec.y7,Rec.row,Value.oneCell']
def rH(L:List (Rec × RL)):FZ:=
 ⟨fun Z w=>∀y∈L,Rd RR.key 2 Z w y.2.a y.2.n y.2.c y.1.reads∧y.1.reads.length≤4000,fun hZ h y hy=>⟨(h y hy).1.mono hZ,(h y hy).2⟩,fun h1 h2 h y hy=>⟨(h y hy).1.st h1 h2,(h y hy).2⟩⟩
section
variable {L L':List (Rec × RL)}{r:Rec}{q:RL}{Z:Nat→Prop}{w:World}{l:List Rec}{lf:Key→RL}{eI left:List (Key × Value)}{p:Key × Value}{j:Nat}
theorem rH.nil:(rH []).p Z w:=fun y hy=>by cases hy
theorem rH.snoc(h:(rH L).p Z w) (hk:Rd RR.key 2 Z w q.a q.n q.c r.reads) (e:r.reads.length≤4000):(rH (L++[(r,q)])).p Z w:=fun y hy=>by
 rcases List.mem_append.1 hy with hy | hy
 ·
  exact h y hy
 grind
theorem rH.ei{E n c:Nat}{a:Option Addr}(h:Ow RR.EJ E 8 Z w a n c L) (t:(rH L).p Z w):Ow RR.ei E 8 Z w a n c (L.map Prod.fst):=by
 obtain⟨hn,rows,hl,hk,h1,B⟩:=h;refine⟨by rw [hn,List.length_map],rows,by rw [hl,List.length_map],hk,h1,fun i x r e C=>?_⟩;rw [List.getElem?_map] at e;obtain⟨y,hy,rfl⟩:=Option.map_eq_some_iff.1 e;have hr:r=Rec.y7 y:=B i y r hy C;obtain⟨D,F⟩:=t y (List.mem_of_getElem? hy);exact⟨_,_,_,hr,D,F⟩
theorem uU{α:Type}:∀(l:List α) (j:Nat) (h:j<l.length),(l[j]::l.eraseIdx j).Perm l
 | x::r,0,_=>List.Perm.refl _
 | x::r,j+1,h=>by
  have h1:=uU r j (by simpa using h);simp only [List.getElem_cons_succ,List.eraseIdx_cons_succ];exact(List.Perm.swap _ _ _).trans (h1.cons x)
structure J7 (l:List Rec) (eI left:List (Key × Value)) (L:List (Rec × RL)):Prop where
 perm:((L.map fun y=>y.1.key)++left.map (·.1)).Perm (eI.map (·.1))
 find:∀y∈L,aA l y.1.key=some y.1
theorem J7.start:J7 l eI eI []:=⟨List.Perm.refl _,fun y hy=>by cases hy⟩
theorem J7.next(h:J7 l eI left L) (t:left[j]?=some p) (e:aA l p.1=some r):J7 l eI (left.eraseIdx j) (L++[(r,q)]):=by
 have hk:r.key=p.1:=(aI e).2;refine⟨List.Perm.trans ?_ h.perm,fun y hy=>?_⟩
 ·
  grind [uU]
 rcases List.mem_append.1 hy with hy | hy
 ·
  exact h.find y hy
 grind
theorem dw.key(h:dw l lf eI) {k:Key}:k∈eI.map (·.1)↔∃r,aA l k=some r:=by
 have h1:=h k
 constructor
 ·
  intro hk
  cases e:aA l k with
  | some r=>exact⟨r,rfl⟩
  | none=>grind [lC]
 rintro⟨r,hr⟩;refine Classical.byContradiction fun hk=>?_
 grind [lC]
theorem J7.done(h:J7 l eI [] L) (C:dw l lf eI) (hn:(eI.map (·.1)).Nodup) (e:pf l) (t:L'.Perm L) (Q:L'.Pairwise fun x y=>¬bC y.1.key x.1.key<0):L'.map Prod.fst=l:=by
 have h1:(L.map fun y=>y.1.key).Perm (eI.map (·.1)):=by simpa using h.perm
 have B:(L'.map fun y=>y.1.key).Perm (eI.map (·.1)):=(t.map _).trans h1;have D:wE (L'.map fun y=>y.1.key):=yS (List.Perm.refl _) (B.nodup_iff.2 hn) (by grind)
 have F:wE (l.map (·.key)):=by
  unfold wE
  rw [List.pairwise_map];exact e
 have S:(L'.map fun y=>y.1.key)=l.map (·.key):=rC D F fun x=>by
  rw [B.mem_iff,C.key]
  constructor
  ·
   rintro⟨r,hr⟩;obtain⟨g1,g2⟩:=aI hr
   grind
  intro G;obtain⟨r,hr,rfl⟩:=List.mem_map.1 G;exact⟨r,fU e hr⟩
 have I:(L'.map Prod.fst).map (fun r=>aC l r.key)=l.map fun r=>aC l r.key:=by
  have e1:(L'.map Prod.fst).map (fun r=>aC l r.key)=(L'.map fun y=>y.1.key).map (aC l):=by rw [List.map_map,List.map_map];rfl
  simp_all
 have J:(L'.map Prod.fst).map (fun r=>aC l r.key)=L'.map Prod.fst:=by
  rw [List.map_map];refine List.map_congr_left fun y hy=>?_;exact aN (h.find y (t.mem_iff.1 hy))
 have O:(l.map fun r=>aC l r.key)=l:=by
  conv=>rhs;rw [← List.map_id l]
  exact List.map_congr_left fun r hr=>aN (fU e hr)
 rw [← J,I,O]
theorem J7.len(h:J7 l eI left L) (e:dw l lf eI) (hn:(eI.map (·.1)).Nodup):L.length+left.length≤l.length:=by
 have h1:=h.perm.length_eq;have t:=e.len hn
 simp at h1
 omega
end
end Go.Rc

namespace Go.Rc
open Go
section
variable {w0 w:World}{M Z:Nat→Prop}{l:List As}
theorem St.g16{t B A2 C D F G I J O Q S V W X Y e:As}(h:St w0 M Z w (t::B::A2::C::D::F::G::I::J::O::Q::S::V::W::X::Y::e::l)):e.ok Z w:=h.ok _ (by simp)
end
section
variable {α:Type}{R:RR α}{P:Program}{E k n c b i:Nat}{a:Option Addr}{xs:List α}{Z:Nat→Prop}{w:World}
variable {N:Nat}{kv:KV}{K:KV→World→Prop}{ty:TypeId}{pos:String}{af:Array Edge}{g:Option (Nat × Bool)}{T:TypeId}
end
section
variable {p:Rec→Bool}{xs xs1:List Rec}{i j:Nat}{x:Rec}
end
theorem uB.kr{aa:List aH}{x:bZ}(h:uB aa x):KR aa x.ah:=fun r hr=>by
 obtain⟨h1,e,t,_⟩:=h.2.2.2.2.2.1 r hr;exact⟨h1,e,t⟩
theorem uB.r4{aa:List aH}{x:bZ}(h:uB aa x):∀r∈x.ah,r.reads.length≤4000:=fun r hr=>by
 obtain⟨_,_,_,e⟩:=h.2.2.2.2.2.1 r hr
 grind [ft]
section
variable {aa:List aH}{x:bZ}{s:ES}
end
section
variable {aa:List aH}{x y:bZ}{s:ES}{kp:List (List Key)}{l:List Key}
end
end Go.Rc

namespace Go.Rc
open Go
section
variable {aa:List aH}{x y:bZ}{a8:List Key}{k:Key}{r:Rec}
end
end Go.Rc

namespace Go.Rc
open Go
section
variable {val:Key→ByteArray}{x:bZ}{i:Nat}{k:Key}{o:List Key}
end
end Go.Rc
namespace Go.Rc
open Go
end Go.Rc

namespace Go.Rc
open Go
section
variable {aa:List aH}{H:Int→List ct}{x b b':bZ}{p q l l':List bp}{f g:bp}{a8 rk goals:List Key}{k y:Key}{val:Key→ByteArray}{er:Int}
theorem x3{turn:List ByteArray→yB}{gM:Key→ByteArray}(h:∀k,(gM k).size≤1000):∀n,∀s∈(dW turn gM n).2,s.size≤1000
 | 0,s,e=>by simp [dW] at e
 | n+1,s,e=>by
  simp only [dW,List.mem_append,List.mem_singleton] at e
  rcases e with e | rfl
  ·
   exact x3 h n s e
  exact h _
theorem ed.ready(hR:aq aa) (D:LC aa x) (hk:∀k∈goals,ep aa k) (h:ed aa (valOf aa x.ab) goals x b l a8):BK aa x.ab x.ad b∧KR aa b.ah∧l.length≤1000∧a8.length≤100000∧b.ah.length<4000∧(∀r∈b.ah,r.reads.length≤4000)∧(∀r∈b.ah,r.av≤x.ad)∧a8.Nodup∧pf b.ah∧∀f∈l,fw aa f∧(∃i:Nat,i<aa.length∧f.key=aM aa (i:Int))∧∀s∈f.ae,s.size≤1000:=by
 obtain⟨⟨H,t⟩,F,O⟩:=h.inv hR D hk;have W:=hR.1;have B:=(D.lb.of F).BW;have hlen:=t.bi.len
 have X:a8.length≤b.ah.length:=by
  have:=eL t.wy.jP (S:=b.ah.map (·.key)) fun y hy=>by
   obtain⟨r,hr,_⟩:=aL.1 (t.wy.JL y hy);obtain⟨g1,g2⟩:=aI hr
   grind
  simpa using this
 refine⟨F,B.kr,by have:=t.EH;omega,by omega,by omega,B.r4,fun r hr=>by rw [← F.rv];exact B.2.2.2.2.2.2.2.2 r hr,t.wy.jP,B.2.2.2.2.2.2.1,fun f G=>⟨O f G,t.fb G,fun s C=>?_⟩⟩;obtain⟨p1,q1,Q⟩:=List.append_of_mem G;have I:=t.fr p1 f q1 Q;obtain⟨i,hi,V⟩:=I.key
 cases J:f.running with
 | false=>
  rw [(I.Bu J).2.1] at C
  cases C
 | true=>
  obtain⟨n,_,_,e⟩:=(I.run J).2.2.2.1 i hi V;rw [e] at C;exact x3 (D.lb.small hR) n s C
theorem ed.done(hR:aq aa) (D:LC aa x) (hk:∀k∈goals,ep aa k) (h:ed aa (valOf aa x.ab) goals x b [] a8):LC aa b∧b.ab=x.ab∧b.ad=x.ad∧Wy aa x ⟨b,[],a8,0⟩∧∀r∈b.ah,r.av=b.ad→r.value=valOf aa x.ab r.key:=by
 obtain⟨⟨H,B⟩,C,O⟩:=h.inv hR D hk;have hi:b.ab=x.ab:=C.fT.aD;have F:TO aa x ⟨aa,b,[],[],a8⟩:=⟨H,B⟩;have G:=D.task (t:=⟨aa,b,[],[],a8⟩) C F
 have e:eJ ([]:List bp) b.ah=b.ah:=by simp [eJ]
 have I:LC aa b:=by
  have:=G
  rw [show(⟨aa,b,[],[],a8⟩:qg).stack=[] from rfl,show(⟨aa,b,[],[],a8⟩:qg).base=b from rfl,e] at this;exact this
 refine⟨I,hi,C.rv,B.wy,fun r hr J=>?_⟩
 have:=(B.bi.c.vr r hr)
 rw [J,B.bi.c.now,hi] at this;exact this.1
theorem ed.taken(h:ed aa val goals x b [] a8) (e:k∈goals):ed aa val goals x b ((if cN b [] k=true then [((⟨k,false,0,[],[]⟩:bp),(⟨none,0,0,none,0,0⟩:eD))] else []).map Prod.fst) a8:=by
 split
 ·
  exact .take h e ‹_›
 exact h
theorem HL:aw k=true∨ay b k=true∨∃g q,(if cN b [] k=true then [((⟨k,false,0,[],[]⟩:bp),(⟨none,0,0,none,0,0⟩:eD))] else []).map Prod.fst=g::q∧g.key=k:=by
 by_cases hn:cN b [] k=true
 ·
  simp_all
 grind [iq,gj]
theorem MR{L:List (bp × eD)}(h:0<L.length):∃e f A,L=e++[(f,A)]:=by
 rcases List.eq_nil_or_concat L with rfl | ⟨e,y,rfl⟩
 ·
  simp at h
 grind
theorem MS{i:Nat}(hi:i<goals.length) (h:∀y∈goals.take i,aw y=true∨ay b y=true) (hb:aw goals[i]=true∨ay b goals[i]=true∨∃g q,([]:List (bp × eD)).map Prod.fst=g::q∧g.key=goals[i]):∀y∈goals.take (i+1),aw y=true∨ay b y=true:=by grind [List.take_succ_eq_append_getElem]
end
section
variable {EK ES:Nat}{w0 w:World}{M Z:Nat→Prop}{l:List As}{k:Key}{c:Bool}
theorem St.Ra(h:St w0 M Z w l):St w0 M Z w (As.many (xZ EK ES (if c=true then [((⟨k,false,0,[],[]⟩:bp),(⟨none,0,0,none,0,0⟩:eD))] else []))::l):=by
 have h0:St w0 M Z w (As.many (xZ EK ES [])::l):=h.OM
 split
 ·
  exact h0.JZ (L:=[]) rfl rfl
 exact h0
end
end Go.Rc

namespace Go.Rc
open Go
def r3:aH:=⟨false,[],1,3⟩
abbrev K0:Key:=⟨31,itoa ((0:Nat):Int)⟩
abbrev v3:ByteArray:=itoa 3
theorem Rb:∀y∈[r3],Mu y:=fun y hy=>by simp at hy;subst hy;exact⟨rfl,rfl,rfl,by decide,by decide⟩
theorem Wb:aM [r3] ((0:Nat):Int)=K0:=Mu.key (by simp) (by omega) (Rb _ (by simp))
theorem MT:jB ⟨0,[],[]⟩:=⟨fun i y h=>by simp at h,fun i r h=>by simp at h,by decide,by decide,by simp,by simp,fun i x h=>by simp at h⟩
abbrev s1:ES:=⟨⟨0,[],[QK 0 v3]⟩,[],[K0],0⟩
end Go.Rc
namespace Go.Rc
open Go
abbrev v4:ByteArray:=⟨#[52]⟩
end Go.Rc

namespace Go.Rc
open Go
section
variable {P:Program}{kv:KV}{w:World}{T U ty:TypeId}{x y:Operand}
end
end Go.Rc
namespace Go.Rc
open Go
end Go.Rc

namespace Go.Rc
open Go
theorem uM{v:ByteArray}:∀k∈[K0],∃i:Nat,i < [r3].length∧k=aM [r3] (i:Int)∧(aA (⟨0,[],[QK 0 v]⟩:bZ).ah k).isSome=true:=fun k hk=>⟨0,by simp,by rw [List.mem_singleton.1 hk];exact Wb.symm,by grind [aA,QK]⟩
end Go.Rc

namespace Go.Rc
open Go
abbrev q0:aH:=⟨false,[⟨true,false,0,0⟩],1,0⟩
abbrev q1:aH:=⟨false,[⟨false,false,0,0⟩],1,0⟩
abbrev Q2:List aH:=[q0,q1]
abbrev K1:Key:=⟨31,itoa ((1:Nat):Int)⟩
abbrev C0:Key:=cF ((0:Nat):Int)
theorem Wc:C0=⟨30,⟨#[48]⟩⟩:=by simp [cF,itoa,Lib.itoa,Lib.decDigits]
theorem J8:K0=⟨31,⟨#[48]⟩⟩:=by simp [itoa,Lib.itoa,Lib.decDigits]
theorem OW:K1=⟨31,⟨#[49]⟩⟩:=by simp [itoa,Lib.itoa,Lib.decDigits]
theorem Wd:aq Q2:=by
 refine⟨by simp,fun i r h=>?_⟩
 have hi:i=0∨i=1:=by have:=(List.getElem?_eq_some_iff.1 h).1;simp at this;omega
 rcases hi with rfl | rfl
 ·
  simp at h;subst h
  refine⟨by simp,fun k x e=>?_,rfl⟩
  have hk:k=0:=by have:=(List.getElem?_eq_some_iff.1 e).1;simp at this;omega
  subst hk;simp at e;subst e;decide
 simp at h;subst h
 refine⟨by simp,fun k x e=>?_,rfl⟩
 have hk:k=0:=by have:=(List.getElem?_eq_some_iff.1 e).1;simp at this;omega
 subst hk;simp at e;subst e;decide
theorem GL:aM Q2 ((0:Nat):Int)=K0:=by
 unfold aM
 rw [if_neg (by simp)]
 simp [aF]
theorem y8:number K0=((0:Nat):Int):=by rw [← GL];exact cj (by simp) (by omega)
theorem t0a:cx Q2 K0 []=⟨false,⟨#[]⟩,C0⟩:=by
 rw [jc (i:=0) y8 (by simp) (by rw [y8];exact GL) (by simp)]
 rfl
theorem t0b(v:ByteArray):cx Q2 K0 [v]=⟨true,itoa (dq 1 0 [cD v]),eS⟩:=by
 rw [j9 (i:=0) y8 (by simp) (by rw [y8];exact GL) (by simp)]
 rfl
abbrev z0:ByteArray:=⟨#[48]⟩
abbrev z5:ByteArray:=⟨#[53]⟩
theorem it5:itoa ((5:Nat):Int)=z5:=by simp [itoa,Lib.itoa,Lib.decDigits]
theorem fv(v:ByteArray) (n:Nat) (h:cD v=n) (hn:n<1000):itoa (dq 1 0 [cD v])=itoa n:=by
 rw [h];simp [dq,pU,Nat.mod_eq_of_lt hn]
theorem vs5:cD z5=5:=by decide
theorem vsE:cD ⟨#[]⟩=0:=by decide
theorem We{aD:List ct}{n:Nat}(h:cD (cellOf aD C0)=n) (hn:n<1000):valOf Q2 aD K0=itoa n:=by
 have e:=fE (aD:=aD) Wd (i:=0) (by simp);rw [show cL Q2 0=1 from rfl,GL] at e;simp only [dW,List.nil_append] at e;rw [t0a,t0b,nn (by omega),fv _ n h hn] at e
 injection e with _ e2 _
 exact e2.symm
abbrev HM(i:Nat) (a:Key):Rec:=⟨⟨31,itoa (i:Int)⟩,z0,[a],0,0,2,false⟩
theorem Wf:aw C0=true:=bD (n:=0) (by omega)
theorem HN:aw K0=false:=rfl
theorem J9:aw K1=false:=rfl
theorem acC:(K0 == K1)=false:=by rw [J8,OW];decide
section
variable {aa:List aH}{val:Key→ByteArray}{k c:Key}{z u:ByteArray}{s s':ES}{rs:List Key}{an:List ByteArray}{f:Nat}
end
end Go.Rc

namespace Go.Rc
open Go
section
variable {val:Key→ByteArray}{x:bZ}{k a:Key}{r:Rec}
theorem B6(hc:az k=false) (hi:aw k=false) (e:aA x.ah k=some r) (hd:r.bq=false) (hr:r.reads=[a]) (t:a≠k) (B:r.av≠x.ad) (C:r.av<aV val x a):MH val x k=(2,a):=by
 have hu:ay x k=false:=by unfold ay;rw [e,aN e];simp [B]
 have D:bR x.ah (aB x.ah x.ad k)=[⟨k,a⟩]:=by
  rw [gR hc]
  simp [bR,cT,aN e,hr,t]
 unfold MH
 rw [hi,hu,e,D]
 have F:JS val x ⟨k,a⟩=true:=by unfold JS;rw [aN e];exact decide_eq_true C
 simp [hd,F]
end
abbrev iQ:List ct:=[⟨C0,z5,1⟩]
abbrev yQ:bZ:=⟨1,iQ,[HM 0 C0,HM 1 K0]⟩
theorem Wg:C0≠K0:=by rw [Wc,J8];decide
theorem Wh:K0≠K1:=by rw [J8,OW];decide
theorem fC:bA iQ C0=⟨C0,z5,1⟩:=by unfold bA;rw [List.find?_cons];simp
theorem v0:valOf Q2 iQ K0=z5:=by rw [We (n:=5) (by unfold cellOf;rw [fC];exact vs5) (by omega),it5]
theorem f0:aA yQ.ah K0=some (HM 0 C0):=by simp [aA]
theorem f1:aA yQ.ah K1=some (HM 1 K0):=by simp only [aA,List.find?_cons];rw [show((HM 0 C0).key == K1)=false from acC,show((HM 1 K0).key == K1)=true from beq_self_eq_true K1]
theorem cC:aV (valOf Q2 iQ) yQ C0=1:=by unfold aV;rw [if_pos Wf,fC]
theorem cK:aV (valOf Q2 iQ) yQ K0=1:=by
 unfold aV
 rw [if_neg (by rw [HN];simp),if_neg];rw [aN f0,v0]
 simp
theorem acD:MH (valOf Q2 iQ) yQ K1=(2,K0):=B6 rfl rfl f1 rfl rfl Wh (by decide) (by rw [cK];decide)
theorem acE:MH (valOf Q2 iQ) yQ K0=(2,C0):=B6 rfl rfl f0 rfl rfl Wg (by decide) (by rw [cC];decide)
theorem smQ:∀c∈[(⟨C0,z5⟩:Change)],c.small:=fun c hc=>by
 rw [List.mem_singleton.1 hc];exact⟨⟨0,by omega,by omega,rfl⟩,by decide⟩
end Go.Rc

namespace Go.Rc
open Go
section
variable {P:Program}{T:TypeId}
theorem MU{B C:TypeId}{f0 f1:Field}(hu:P.underlying T=some (.struct #[f0,f1])) (F:f0.type=B) (G:f1.type=C) (I:f0.offset=0) (J:f1.offset=1) (S:f0.name≠ "_") (V:f1.name≠ "_")
  (h0:P.underlying B=some (.int .i64)) (h1:P.underlying C=some .string) (a0:∀w,(isAgg B).run P w=.ok false w) (a1:∀w,(isAgg C).run P w=.ok false w)
  (O:P.stoodInHeld T=false) (n:Nat) (a b:Int) (s t:ByteArray) (w:World):(Op.equalIn (n+2) T (.agg #[.int .i64 a,.string s]) (.agg #[.int .i64 b,.string t])).run P w=.ok (decide (a=b) && decide (s=t)) w:=by
 subst F G
 have D:P.fieldsOf T=#[f0,f1]:=by simp [Program.fieldsOf,hu]
 rw [run_equalIn_struct (P:=P) w (n+1) T _ _ (by rw [D];exact hu) O,D]
 have e:(s.toList == t.toList)=decide (s=t):=by
  by_cases e:s=t
  ·
   simp [e]
  grind [ByteArray.ext,Array.toList_inj,ByteArray.toList_eq]
 have e2:(a == b)=decide (a=b):=by by_cases h:a=b <;> simp [h]
 have r0:=run_equalIn_int (P:=P) w n f0.type .i64 .i64 a b h0;have r1:=run_equalIn_string (P:=P) w n f1.type s t h1;rw [e2] at r0;rw [e] at r1;simp only [Op.eqFields,I,J,part,Sem.run_bind,a0,a1,Result.andThen_ok]
 by_cases Q:a=b
 ·
  subst Q
  by_cases W:s=t
  ·
   simp_all
  simp_all
 simp_all
variable {kv:KV}{w:World}{ty:TypeId}
end
end Go.Rc

namespace Go.Rc
open Go
section
variable {aa:List aH}{H:Int→List ct}{x b b':bZ}{p q l l':List bp}{f g:bp}{a8 rk goals:List Key}{k y a:Key}{val:Key→ByteArray}{er:Int}
theorem fV.pop(h:fV (p++[f]) b a) (hu:∀y,ay b y=true→ay b' y=true) (e:ay b' f.key=true):fV p b' a:=by
 rcases h with h | ⟨h1,t⟩ | h
 ·
  exact .inl h
 ·
  rw [fH,kL,Bool.or_eq_true,decide_eq_true_eq] at h1
  rcases h1 with h1 | rfl
  ·
   exact .inr (.inl ⟨h1,t⟩)
  exact .inr (.inr e)
 exact .inr (.inr (hu _ h))
theorem fV.up(h:fV l b a) (hu:∀y,ay b y=true→ay b' y=true) (e:∀y,gj l y=true→gj l' y=true):fV l' b' a:=
 h.imp id (Or.imp (fun⟨h1,t⟩=>⟨e _ h1,t⟩) (hu _))
theorem FS.there(e:FS aa val b p f b' l' rk er) (h:fV (p++[f]) b a):fV l' b' a:=by
 have hu:∀y,ay b y=true→ay b' y=true:=fun y hy=>e.ML hy
 have same:∀{z:bp},z.key=f.key→∀y,gj (p++[f]) y=true→gj (p++[z]) y=true:=fun {z} t y hy=>by grind [fH,kL]
 have more:∀{z:bp},∀y,gj (p++[f]) y=true→gj (p++[f]++[z]) y=true:=fun {z} y hy=>by rw [fH,hy];rfl
 cases e with
 | put=>exact h.pop hu (jh (r:=bs b f.key (aG aa f.key f.ae).value f.reads) rfl)
 | up _ wG=>exact h.pop hu wG
 | mark _ hl=>
  obtain⟨r,h1,_⟩:=hl;exact h.pop hu (gX (by rw [h1];rfl) fx)
 | push=>exact h.up hu more
 | qi=>exact h.up hu more
 | stay=>exact h
 | full=>exact h
 | QJ=>exact h
 | ME=>exact h
 | read=>exact h.up hu (same rfl)
 | start=>exact h.up hu (same rfl)
 | pass=>exact h.up hu (same rfl)
 | fail=>exact h.up hu (same rfl)
theorem pw{G:List Key}{d:Bool}{rev:Int}{l:List Rec}:(aC (l.map (aX rev G d)) y).reads=(aC l y).reads∧(aC (l.map (aX rev G d)) y).value=(aC l y).value:=by
 unfold aC
 rw [bV]
 cases aA l y with
 | none=>exact⟨rfl,rfl⟩
 | some r=>grind [aX]
theorem FS.reads(t:FS aa val b p f b' l' rk er) (B:f.running=true→ay b f.key=false) (hy:ay b y=true):(aC b'.ah y).reads=(aC b.ah y).reads:=by
 cases t with
 | put hr=>
  have h1:=B hr
  have C:¬y=(bs b f.key (aG aa f.key f.ae).value f.reads).key:=fun e=>by
   have e:y=f.key:=e;rw [e,h1] at hy;cases hy
  unfold aC
  rw [ck,if_neg C]
 | mark=>exact pw.1
 | fail=>
  split
  ·
   exact pw.1
  rfl
 | _=>rfl
theorem ed.thr(hR:aq aa) (Q:LC aa x) (hk:∀k∈goals,ep aa k) (h:ed aa (valOf aa x.ab) goals x b l a8):∀y,ay x y=false→ay b y=true→∀a∈(aC b.ah y).reads,fV l b a:=by
 induction h with
 | start=>grind
 | take h1 X hn F=>exact fun y B J a t=>(F y B J a t).mono fun k h=>by cases h
 | @step b b' p l' f a8 rk h1 G Y F=>
  intro y S C a t;obtain⟨⟨H,B⟩,J,h4⟩:=h1.inv hR Q hk;have O:=B.top.run
  by_cases hu:ay b y=true
  ·
   rw [G.reads (fun hr=>(O hr).2.1) hu] at t;exact G.there (F y S hu a t)
  have hu:ay b y=false:=by simpa using hu
  cases G with
  | put hr hd=>
   by_cases e:y=f.key
   ·
    subst e
    have e2:aC (dK b.ah (bs b f.key (aG aa f.key f.ae).value f.reads)) f.key=bs b f.key (aG aa f.key f.ae).value f.reads:=by
     refine aN ?_;rw [ck];exact if_pos rfl
    rw [show({b with ah:=dK b.ah (bs b f.key (aG aa f.key f.ae).value f.reads)}:bZ).ah=dK b.ah (bs b f.key (aG aa f.key f.ae).value f.reads) from rfl,e2] at t;exact(FS.put (aa:=aa) (val:=valOf aa x.ab) (b:=b) (p:=p) hr hd).there ((O hr).2.2.2.2 a t)
   exfalso
   obtain⟨r,g1,g2⟩:=aL.1 C;have g1:aA (dK b.ah (bs b f.key (aG aa f.key f.ae).value f.reads)) y=some r:=g1;rw [ck,if_neg (show ¬y=(bs b f.key (aG aa f.key f.ae).value f.reads).key from e)] at g1
   grind [aL]
  | mark hr hl hn=>
   obtain⟨r,g1,g2,g3⟩:=id hl;have hm:=FS.mark (aa:=aa) (val:=valOf aa x.ab) (p:=p) hr hl hn;have t:a∈(aC (b.ah.map (aX b.ad (aB b.ah b.ad f.key) false)) y).reads:=t;rw [pw.1] at t
   by_cases hy:y∈aB b.ah b.ad f.key
   ·
    by_cases I:a∈aB b.ah b.ad f.key
    ·
     obtain⟨q,V⟩:=GI g1 a I;exact .inr (.inr (gX (by rw [V];rfl) I))
    have hc:(⟨y,a⟩:oa)∈bR b.ah (aB b.ah b.ad f.key):=dr.2 ⟨hy,t,I⟩;obtain⟨j,hj,e⟩:=List.getElem_of_mem hc;exact hm.there ((B.top.Bu hr).2.2.2 hl j ⟨y,a⟩ (by omega) (by grind)).2.1
   exfalso
   obtain⟨r2,e1,e2⟩:=aL.1 C;have e1:aA (b.ah.map (aX b.ad (aB b.ah b.ad f.key) false)) y=some r2:=e1;rw [bV] at e1
   cases D:aA b.ah y with
   | none=>rw [D] at e1;cases e1
   | some r3=>
    rw [D] at e1;simp only [Option.map_some,Option.some.injEq] at e1;have W:=(aI D).2
    have:r2=r3:=by
     rw [← e1]
     unfold aX
     grind
    rw [aL.2 ⟨r3,D,by rw [← this];exact e2⟩] at hu
    cases hu
  | fail c hr hl hc W h6 h7=>grind [lL]
  | _=>rw [hu] at C;cases C
theorem ed.mem(hR:aq aa) (e:LC aa x) (hk:∀k∈goals,ep aa k) (h:ed aa (valOf aa x.ab) goals x b [] a8):y∈a8↔DD (valOf aa x.ab) x y∧ay b y=true:=by
 obtain⟨_,_,_,hw,_⟩:=h.done hR e hk;exact⟨fun hy=>⟨hw.a8 y hy,hw.JL y hy⟩,fun⟨h1,t⟩=>hw.runs h1 t⟩
theorem ed.reads(hR:aq aa) (e:LC aa x) (hk:∀k∈goals,ep aa k) (h:ed aa (valOf aa x.ab) goals x b [] a8) (h1:ay x y=false) (t:ay b y=true) (G:a∈iO aa x.ab y):aw a=true∨ay b a=true:=by
 obtain⟨⟨H,B⟩,C,_⟩:=h.inv hR e hk;obtain⟨r,hr,D⟩:=aL.1 t;obtain⟨g1,g2⟩:=aI hr;have F:=(B.bi.c.vr r g1).2;rw [D,B.bi.c.now,show b.ab=x.ab from C.fT.aD,g2] at F
 rcases h.thr hR e hk y h1 t a (by grind [aN]) with h | ⟨h,_⟩ | h
 ·
  exact .inl h
 ·
  cases h
 exact .inr h
end
end Go.Rc

namespace Go.Rc
open Go
abbrev h0:aH:=⟨false,[⟨true,false,0,0⟩],2,0⟩
abbrev h1:aH:=⟨false,[⟨false,false,0,0⟩,⟨true,false,1,0⟩],1,0⟩
abbrev H2:List aH:=[h0,h1]
abbrev C1:Key:=cF ((1:Nat):Int)
abbrev z4:ByteArray:=⟨#[52]⟩
abbrev z2:ByteArray:=⟨#[50]⟩
theorem jT:aq H2:=by
 refine⟨by simp,fun i r h=>?_⟩
 have hi:i=0∨i=1:=by grind
 rcases hi with rfl | rfl
 ·
  simp at h;subst h
  refine⟨by simp,fun k x e=>?_,rfl⟩
  have hk:k=0:=by grind
  subst hk;simp at e;subst e;decide
 simp at h;subst h
 refine⟨by simp,fun k x e=>?_,rfl⟩
 have hk:k=0∨k=1:=by grind
 rcases hk with rfl | rfl <;> simp at e <;> subst e <;> decide
theorem qm:aM H2 ((0:Nat):Int)=K0:=by
 unfold aM
 rw [if_neg (by simp)]
 simp [aF]
theorem qn:aM H2 ((1:Nat):Int)=K1:=by
 unfold aM
 rw [if_neg (by simp)]
 simp [aF]
theorem y9:number K0=((0:Nat):Int):=by rw [← qm];exact cj (by simp) (by omega)
theorem rI:number K1=((1:Nat):Int):=by rw [← qn];exact cj (by simp) (by omega)
theorem EL:ep H2 K1:=by rw [← qn];exact .fb (by simp) (by omega)
theorem g0a:cx H2 K0 []=⟨false,⟨#[]⟩,C0⟩:=by
 rw [jc (i:=0) y9 (by simp) (by rw [y9];exact qm) (by simp)]
 rfl
theorem g0b(v:ByteArray):cx H2 K0 [v]=⟨true,itoa (dq 2 0 [cD v]),eS⟩:=by
 rw [j9 (i:=0) y9 (by simp) (by rw [y9];exact qm) (by simp)]
 rfl
theorem g1a:cx H2 K1 []=⟨false,⟨#[]⟩,K0⟩:=by
 rw [jc (i:=1) rI (by simp) (by rw [rI];exact qn) (by simp)];rw [← qm];rfl
theorem g1b(v:ByteArray):cx H2 K1 [v]=⟨false,⟨#[]⟩,C1⟩:=by
 rw [jc (i:=1) rI (by simp) (by rw [rI];exact qn) (by simp)]
 rfl
theorem g1c(u v:ByteArray):cx H2 K1 [u,v]=⟨true,itoa (dq 1 0 [cD u,cD v]),eS⟩:=by
 rw [j9 (i:=1) rI (by simp) (by rw [rI];exact qn) (by simp)]
 rfl
theorem it2:itoa ((2:Nat):Int)=z2:=by simp [itoa,Lib.itoa,Lib.decDigits]
theorem vs4:cD z4=4:=by decide
theorem vs2:cD z2=2:=by decide
theorem acG{aD:List ct}:iO H2 aD K0=[C0]:=by
 have h:=fF (aD:=aD) jT (i:=0) (by simp);rw [qm] at h;rw [h]
 unfold cH
 rw [show cL H2 0=1 from rfl,qm]
 grind [dW,g0a]
theorem Re{aD:List ct}:iO H2 aD K1=[K0,C1]:=by
 have h:=fF (aD:=aD) jT (i:=1) (by simp);rw [qn] at h;rw [h]
 unfold cH
 rw [show cL H2 1=2 from rfl,qn]
 grind [dW,g1a,g1b]
theorem OY{aD:List ct}{n:Nat}(h:cD (cellOf aD C0)=n) (hn:n<1000):valOf H2 aD K0=itoa ((n / 2:Nat):Int):=by
 have e:=fE (aD:=aD) jT (i:=0) (by simp);rw [show cL H2 0=1 from rfl,qm] at e
 grind [dW,g0a,g0b,nn,dq,pU]
theorem Wi{aD:List ct}{n m:Nat}(h:cD (valOf H2 aD K0)=n) (t:cD (cellOf aD C1)=m) (hn:n+m<1000):valOf H2 aD K1=itoa ((n+m:Nat):Int):=by
 have e:=fE (aD:=aD) jT (i:=1) (by simp);rw [show cL H2 1=2 from rfl,qn] at e;simp only [dW,List.nil_append] at e;rw [g1a,List.singleton_append,g1b] at e;rw [g1c,h,nn (by omega),t] at e
 grind [dq,pU]
abbrev iA:List ct:=[⟨C0,z4,1⟩]
abbrev iB:List ct:=[⟨C0,z5,2⟩]
theorem fA0:bA iA C0=⟨C0,z4,1⟩:=by grind [bA]
theorem fB0:bA iB C0=⟨C0,z5,2⟩:=by grind [bA]
theorem acH:(C0 == C1)=false:=by simp [cF,itoa,Lib.itoa,Lib.decDigits]
theorem fB1:bA iB C1=⟨C1,⟨#[]⟩,0⟩:=by grind [bA,acH]
theorem vA0:valOf H2 iA K0=z2:=by rw [OY (n:=4) (by grind [cellOf,fA0,vs4]) (by omega)];exact it2
theorem vB0:valOf H2 iB K0=z2:=by rw [OY (n:=5) (by grind [cellOf,fB0,vs5]) (by omega)];exact it2
theorem vB1:valOf H2 iB K1=z2:=by rw [Wi (n:=2) (m:=0) (by rw [vB0];exact vs2) (by grind [cellOf,fB1,vsE]) (by omega)];exact it2
theorem acI:aw C1=true:=bD (n:=1) (by omega)
theorem Ka{x:bZ}(e:LC H2 x) {y:Key}(h:ay x y=true):y=K0∨y=K1:=by
 obtain⟨r,h1,_⟩:=aL.1 h;obtain⟨g1,g2⟩:=aI h1;obtain⟨k1,k2,_⟩:=e.lb.BW.kr r g1;rw [g2] at k1 k2
 cases k1 with
 | cell t=>grind [bD]
 | @fb i hi _=>grind [qm,qn]
section
variable {x b y b2:bZ}{a8 Kb rs:List Key}
theorem MV(e:LC H2 x) (hn:x.ah=[]) (h:ed H2 (valOf H2 x.ab) [K1] x b [] a8) (hu:ay b K1=true):a8.length=2∧ay b K0=true:=by
 have hk:∀k∈[K1],ep H2 k:=fun k hk=>by grind [EL]
 have t:∀y,aA x.ah y=none:=fun y=>by rw [hn];rfl
 have B:∀y,ay x y=false:=fun y=>by unfold ay;rw [t y];rfl
 obtain⟨hb,_,_,hw,_⟩:=h.done jT e hk
 have h0:ay b K0=true:=by
  rcases h.reads jT e hk (B K1) hu (a:=K0) (by rw [Re];simp) with h | h
  ·
   rw [HN] at h;cases h
  exact h
 refine⟨?_,h0⟩
 have C:a8.Perm [K0,K1]:=(List.perm_ext_iff_of_nodup hw.jP (by have:=Wh;simp [this])).2 fun y=>by
  rw [h.mem jT e hk];simp only [List.mem_cons,List.not_mem_nil,or_false]
  constructor
  ·
   grind [Ka]
  rintro(rfl | rfl)
  ·
   exact⟨⟨HN,B _,.inl (t _)⟩,h0⟩
  exact⟨⟨J9,B _,.inl (t _)⟩,hu⟩
 exact C.length_eq
theorem MW(hb:LC H2 b) (hr:b.ad=1) (h0:ay b K0=true) (h1:ay b K1=true) (W:∀r∈b.ah,r.av=b.ad→r.value=valOf H2 iA r.key) (hy:LC H2 y) (t:y=⟨2,iB,b.ah⟩) (h:ed H2 (valOf H2 y.ab) [K1] y b2 [] a8) (hu:ay b2 K1=true) (J:rs.Perm a8):rs=[K0]∧gu b2 K1=true∧i6 b2 K1=z2:=by
 have hk:∀k∈[K1],ep H2 k:=fun k hk=>by grind [EL]
 obtain⟨X,_,Y,hw,O⟩:=h.done jT hy hk;obtain⟨q0,f0,v0⟩:=aL.1 h0;obtain⟨q1,f1,v1⟩:=aL.1 h1;obtain⟨m0,k0⟩:=aI f0;obtain⟨m1,k1⟩:=aI f1;obtain⟨Hh,B⟩:=hb.bh
 have r0:q0.reads=[C0]:=by rw [(B.c.vr q0 m0).2,k0];exact acG
 have r1:q1.reads=[K0,C1]:=by rw [(B.c.vr q1 m1).2,k1];exact Re
 have C:aA y.ah K0=some q0:=by rw [t];exact f0
 have D:aA y.ah K1=some q1:=by rw [t];exact f1
 have yr:y.ad=2:=by rw [t]
 have F:y.ab=iB:=by rw [t]
 have w0:q0.av=1:=by rw [v0,hr]
 have w1:q1.av=1:=by rw [v1,hr]
 have Q:ay y K0=false:=by grind [ay]
 have n1:ay y K1=false:=by grind [ay]
 have u0:ay b2 K0=true:=by
  rcases h.reads jT hy hk n1 hu (a:=K0) (by rw [Re];simp) with h | h
  ·
   rw [HN] at h;cases h
  exact h
 have acE:DD (valOf H2 y.ab) y K0:=by
  refine⟨HN,Q,.inr (.inr ⟨K0,C0,fx,by rw [aN C,r0];simp,?_,?_⟩)⟩
  ·
   rw [gR rfl];simpa using Wg
  rw [aN C,w0]
  unfold aV
  rw [if_pos Wf,F,fB0]
  decide
 have acD:¬DD (valOf H2 y.ab) y K1:=by
  rintro⟨_,_,h | h | ⟨m,a,hm,G,_,e⟩⟩
  ·
   rw [D] at h;cases h
  ·
   rw [aN D] at h
   have:=B.dv q1 m1 h
   omega
  rw [gR rfl,List.mem_singleton] at hm;subst hm;rw [aN D,r1] at G;rw [aN D,w1] at e;simp only [List.mem_cons,List.not_mem_nil,or_false] at G
  rcases G with rfl | rfl
  ·
   have S:valOf H2 y.ab K0=q0.value:=by grind [vB0,vA0]
   have oE:=(B.c.Er q0 m0).2
   unfold aV at e
   rw [if_neg (by rw [HN];simp),C,aN C,S] at e
   simp at e
   omega
  unfold aV at e
  rw [if_pos acI,F,fB1] at e
  simp at e
 have V:a8.Perm [K0]:=(List.perm_ext_iff_of_nodup hw.jP (by simp)).2 fun z=>by
  rw [h.mem jT hy hk,List.mem_singleton]
  grind [Ka]
 have I:gu b2 K1=true:=by unfold gu;rw [J9];exact hu
 refine⟨List.perm_singleton.1 (J.trans V),I,?_⟩;obtain⟨r,fr,vr⟩:=aL.1 hu;obtain⟨g1,g2⟩:=aI fr
 unfold i6
 rw [if_neg (by rw [J9];simp),if_pos I,aN fr,O r g1 vr,g2,F];exact vB1
theorem smA:∀c∈[(⟨C0,z4⟩:Change)],c.small:=fun c hc=>by
 rw [List.mem_singleton.1 hc];exact⟨⟨0,by omega,by omega,rfl⟩,by decide⟩
theorem aoA(h:AO ⟨0,[],[]⟩ [⟨C0,z4⟩] y):y=⟨1,iA,[]⟩:=h.one _ rfl (by decide) (by decide)
theorem aoB(hi:b.ab=iA) (hr:b.ad=1) (h:AO b [⟨C0,z5⟩] y):y=⟨2,iB,b.ah⟩:=by
 have h1:=h.one _ rfl (by rw [hi,fA0];decide) (by rw [hr];decide)
 grind [fS,iy]
end
end Go.Rc

namespace Go.Rc
open Go
section
variable {P:Program}{T:TypeId}
structure IpT (P:Program) (T:TypeId):Prop where
 eq:∀(a c:Int) (s t:ByteArray) (w:World),(Op.equalIn 10000 T (.agg #[.int .i64 a,.string s,.string t,.int .i64 c]) (.agg #[.int .i64 a,.string s,.string t,.int .i64 c])).run P w=.ok true w
 guard:P.eqGuardType P.depth T=false
theorem Rf{K e B:TypeId}{g0 g1 g2:Field}(hk:∀(a b:Int) (s t:ByteArray) (w:World),(Op.equalIn 9999 K (.agg #[.int .i64 a,.string s]) (.agg #[.int .i64 b,.string t])).run P w=.ok (decide (a=b) && decide (s=t)) w)
  (hu:P.underlying T=some (.struct #[g0,g1,g2])) (D:g0.type=K) (F:g1.type=e) (G:g2.type=B) (I:g0.offset=0) (J:g1.offset=2) (O:g2.offset=3) (W:g0.name≠ "_") (X:g1.name≠ "_") (Y:g2.name≠ "_")
  (h1:P.underlying e=some .string) (Q:P.underlying B=some (.int .i64)) (a0:∀w,(isAgg K).run P w=.ok true w) (z0:∀w,(sizeOf K).run P w=.ok 2 w) (a1:∀w,(isAgg e).run P w=.ok false w) (a2:∀w,(isAgg B).run P w=.ok false w)
  (S:P.stoodInHeld T=false) (V:P.eqGuardType P.depth T=false):IpT P T:=by
 refine⟨fun a c s t w=>?_,V⟩;subst D F G
 have C:P.fieldsOf T=#[g0,g1,g2]:=by simp [Program.fieldsOf,hu]
 rw [show(10000:Nat)=9999+1 from rfl,run_equalIn_struct (P:=P) w 9999 T _ _ (by rw [C];exact hu) S,C];have r0:=hk a a s s w;have r1:=run_equalIn_string (P:=P) w 9998 g1.type t t h1;have r2:=run_equalIn_int (P:=P) w 9998 g2.type .i64 .i64 c c Q;rw [show(9998+1:Nat)=9999 from rfl] at r1 r2;simp only [Op.eqFields,I,J,O,part,Sem.run_bind,a0,a1,a2,z0,Result.andThen_ok]
 simp_all [asAgg]
variable {kv:KV}{w:World}{ty:TypeId}
theorem PV.acK(hT:IpT P T) {U:TypeId}{x y:Operand}{p:ct}(e:ev kv x=some (.agg p.cells.toArray)) (hy:ev kv y=some (.agg p.cells.toArray)) :
  PV P (.binOp .neq T x y U) ty kv w (.bool false):=by
 refine⟨rfl,by simp [known,opers,e,hy],fun _ _ _ _=>?_⟩;simp only [execOp,aK e,aK hy,ct.cells];simp only [Sem.run_bind,run_eqGuard_agg w .neq T _ _ _ _ hT.guard,run_neq_struct,hT.eq,Result.andThen_ok]
 rfl
end
end Go.Rc

namespace Go.Rc
open Go
end Go.Rc

namespace Go.Rc
open Go
section
variable {aa:List aH}{x:bZ}{s:ES}{k:Key}
end
end Go.Rc

namespace Go.Rc
open Go
section
variable {aa:List aH}{val:Key→ByteArray}{x:bZ}{k m:Key}
end
end Go.Rc

namespace Go.Rc
open Go
section
variable {rl:List aH}{b c:bZ}{l:List Change}{r:Rec}{a:Key}
end
end Go.Rc

namespace Go.Rc
open Go
section
variable {rl:List aH}{val:Key→ByteArray}{b:bZ}{a y:Key}{l:List Key}{i q:Nat}
end
end Go.Rc

namespace Go.Rc
open Go
section
variable {aa:List aH}{b c b2:bZ}{l:List Change}{goals Kb:List Key}{y a k:Key}{r:Rec}{i:Nat}
section
variable (hR:aq aa) (hb:LC aa b) (wG:∀i:Nat,i<aa.length→ay b (aM aa (i:Int))=true) (hrc:c.ah=b.ah) (hc:LC aa c) (hk:∀k∈goals,ep aa k) (h:ed aa (valOf aa c.ab) goals c b2 [] Kb) (Eu:∀i:Nat,i<aa.length→ay b2 (aM aa (i:Int))=true)
include hR hb wG hrc hc hk h Eu
end
end
end Go.Rc

namespace Go.Rc
open Go
section
variable {aa:List aH}{b c b2:bZ}{l:List Change}{goals Kb:List Key}{i:Nat}
theorem Kc(h1:c.ad=b.ad) (e:c.ab=b.ab) (t:c.ah=b.ah):c=b:=by
 cases b;cases c
 grind
end
end Go.Rc

namespace Go.Rc
open Go
section
variable {aa:List aH}{b c d b2:bZ}{goals Kb:List Key}{l:List Change}{K:Key}{u v:ByteArray}{i:Nat}{y:Key}
section
variable (hR:aq aa) (hb:LC aa b) (wG:∀i:Nat,i<aa.length→ay b (aM aa (i:Int))=true) (hrc:d.ah=b.ah) (hd:LC aa d) (hk:∀k∈goals,ep aa k) (h:ed aa (valOf aa d.ab) goals d b2 [] Kb) (Eu:∀i:Nat,i<aa.length→ay b2 (aM aa (i:Int))=true) (acM:d.ad=b.ad+2) (x4:∀k,cellOf d.ab k=cellOf b.ab k) (acN:∀k,k≠K→bA d.ab k=bA b.ab k)
include hR hb wG hrc hd hk h acM x4 acN
include Eu
end
end
end Go.Rc

namespace Go.Rc
open Go
inductive Nd (aa:List aH) (x:bZ) (goals:List Key):Key→Prop where
 | goal {k:Key}:k∈goals→Nd aa x goals k
 | read {y a:Key}:Nd aa x goals y→ay x y=false→a∈iO aa x.ab y→Nd aa x goals a
section
variable {aa:List aH}{aD mM:List ct}{H:Int→List ct}{x b b':bZ}{l l' p:List bp}{f:bp}{a8 goals zc:List Key}{k y a:Key}{i q:Nat}{on:Key→Bool}
theorem iE(hR:aq aa) (hi:i<aa.length) (hr:aF aa i=true):cH aa aD i=aa[i].asks.map (bQ aa):=by
 unfold cH
 rw [xB hR hi hr _ _ (by rw [dQ hi];exact Nat.le_refl _),dQ hi,List.take_length]
theorem HO(q:Nat) (h:∀j,j<q→valOf aa aD (kq aa aD i j)=valOf aa mM (kq aa aD i j)):tr aa aD i q=tr aa mM i q:=by
 induction q with
 | zero=>unfold tr;simp only [dW]
 | succ q e=>grind [kq,Hz]
theorem gx(hR:aq aa) (hi:i<aa.length):iO aa aD (aM aa (i:Int))=cH aa aD i:=fF hR hi
theorem Nd.leads(hR:aq aa) (t:Bi aa H on b) (J:∀y,ay x y=true→ay b y=true) (hk:Nd aa x goals k) (C:bT b.ah b.ad k=true) (hl:bM b.ah b.ad k y):Nd aa x goals y:=by
 have step:∀m a,Nd aa x goals m→bT b.ah b.ad m=true→Ld b.ah b.ad m a→Nd aa x goals a:=fun m a hm D hd=>by
  obtain⟨r,h1,B,O,Q⟩:=bE.1 D;obtain⟨g1,g2⟩:=aI h1;obtain⟨i,hi,e⟩:=t.kr r g1;have S:=hR.len;have em:m=aM aa (i:Int):=g2.symm.trans e;subst em
  have hr:aF aa i=true:=by grind [bf]
  have hn:ay x (aM aa (i:Int))=false:=by grind [aL]
  refine .read hm hn ?_;have F:=hd.1;rw [aN h1,(t.c.vr r g1).2,g2,gx hR hi,iE hR hi hr] at F
  grind [gx,iE]
 have G:∀{m:Key},bM b.ah b.ad k m→bT b.ah b.ad m=true:=fun h=>h.gz
 induction hl with
 | one h1=>exact step _ _ hk C h1
 | step h1 B I=>exact step _ _ I (G h1) B
theorem Nd.group(hR:aq aa) (e:Bi aa H on b) (t:∀y,ay x y=true→ay b y=true) (hk:Nd aa x goals k) (B:y∈aB b.ah b.ad k):Nd aa x goals y:=by
 rcases cm.1 B with rfl | ⟨C,hm⟩
 ·
  exact hk
 exact hk.leads hR e t C hm.1
theorem ed.need(hR:aq aa) (hx:LC aa x) (hk:∀k∈goals,ep aa k) (h:ed aa (valOf aa x.ab) goals x b l a8):(∀f∈l,Nd aa x goals f.key)∧∀y,ay x y=false→ay b y=true→Nd aa x goals y:=by
 induction h with
 | start=>grind
 | take h1 C hn J=>exact⟨fun f F=>by rw [List.mem_singleton.1 F];exact .goal C,J.2⟩
 | @step b b' p l' f a8 rk h1 hs Bb J=>
  obtain⟨W,B⟩:=J;obtain⟨⟨H,t⟩,h3,h4⟩:=h1.inv hR hx hk;have Ho:=hR.len;have X:∀y,ay x y=true→ay b y=true:=fun y hy=>h1.ML hy;have G:Nd aa x goals f.key:=W f (by simp);have O:ay x f.key=false:=(t.nr f (by simp)).2;obtain⟨i,hi,D⟩:=t.top.key;have Q:∀g∈p,Nd aa x goals g.key:=fun g C=>W g (List.mem_append_left _ C)
  have same:∀{z:bp},z.key=f.key→∀g∈p++[z],Nd aa x goals g.key:=fun {z} hz g C=>by grind
  have more:∀{z:bp},Nd aa x goals z.key→∀g∈p++[f]++[z],Nd aa x goals g.key:=fun {z} hz g C=>by grind
  cases hs with
  | put hr hd=>
   refine⟨Q,fun y hy hu=>?_⟩
   by_cases e:y=f.key
   ·
    rw [e];exact G
   obtain⟨r,g1,g2⟩:=aL.1 hu;have g1:aA (dK b.ah (bs b f.key (aG aa f.key f.ae).value f.reads)) y=some r:=g1;rw [ck,if_neg (show ¬y=(bs b f.key (aG aa f.key f.ae).value f.reads).key from e)] at g1
   grind [aL]
  | push hr hd hl=>
   refine⟨more (.read G O ?_),B⟩;obtain⟨n,hn,e1,e2⟩:=(t.top.run hr).2.2.2.1 i hi D
   have e2:f.ae=tr aa x.ab i n:=by rw [e2,D];rfl
   have hlen:f.ae.length=n:=by rw [e2];exact nB _ _
   rw [D,dX hi (by omega)] at hd
   have hnN:n<cL aa i:=by grind [gD]
   show(aG aa f.key f.ae).ask∈_
   rw [D,dX hi (by omega),gx hR hi,e2];exact List.mem_of_getElem? (fG hnN)
  | qi c hr hl hc B2=>
   refine⟨more ?_,B⟩
   show Nd aa x goals c.read
   obtain⟨hm,Y,hnG⟩:=dr.1 (List.mem_of_getElem? hc);obtain⟨r0,g1,g2,g3⟩:=id hl;have Wj:=G.group hR t.bi X hm
   rcases cm.1 hm with e | ⟨ho,hmu⟩
   ·
    cases JO:az f.key with
    | true=>
     have I:aF aa i=true:=by grind [bf]
     rw [e,aN g1,(t.bi.c.vr r0 (aI g1).1).2,(aI g1).2,D,gx hR hi,iE hR hi I] at Y;refine .read G O ?_
     grind [gx,iE]
    | false=>
     have I:aF aa i=false:=by grind [bf]
     have acO:r0.reads=cH aa (H r0.av) i:=by rw [(t.bi.c.vr r0 (aI g1).1).2,(aI g1).2,D,gx hR hi]
     have am4:∀a∈r0.reads,a≠f.key:=fun a S e9=>by
      rw [acO] at S
      rcases(oh hR hi S).1 with⟨n,hn,h9⟩ | ⟨m,m1,m2,_,m3,_⟩
      ·
       grind [di,bD]
      grind [cj]
     have oE:bR b.ah (aB b.ah b.ad f.key)=r0.reads.map fun a=>(⟨f.key,a⟩:oa):=by grind [gR,bR,cT,aN,List.filter_eq_self]
     have hK:=(t.top.Bu hr).2.2.2 hl;rw [oE] at hc hK;rw [List.getElem?_map] at hc;obtain⟨a,S,rfl⟩:=Option.map_eq_some_iff.1 hc
     have hq:f.at_.toNat<cL aa i:=by grind [pg]
     have haq:a=kq aa (H r0.av) i f.at_.toNat:=by grind [fG]
     have II:=HO (aa:=aa) (aD:=H r0.av) (mM:=x.ab) (i:=i) f.at_.toNat fun j V=>by grind [fG,aN]
     refine .read G O ?_
     show a∈_
     rw [haq,D,gx hR hi]
     have h8:kq aa (H r0.av) i f.at_.toNat=kq aa x.ab i f.at_.toNat:=by unfold kq;rw [II]
     rw [h8];exact List.mem_of_getElem? (fG hq)
   obtain⟨r,w1,w2,w3,w4⟩:=bE.1 hmu.gz;obtain⟨m1,m2⟩:=aI w1;obtain⟨j,V,e⟩:=t.bi.kr r m1;have em:c.dC=aM aa (j:Int):=m2.symm.trans e
   have I:aF aa j=true:=by grind [bf]
   have hn:ay x c.dC=false:=by grind [aL]
   rw [aN w1,(t.bi.c.vr r m1).2,m2,em,gx hR V,iE hR V I] at Y;refine .read Wj hn ?_
   grind [gx,iE]
  | mark hr hl hn=>
   refine⟨Q,fun y hy hu=>?_⟩
   by_cases C:y∈aB b.ah b.ad f.key
   ·
    exact G.group hR t.bi X C
   obtain⟨r2,e1,e2⟩:=aL.1 hu;have e1:aA (b.ah.map (aX b.ad (aB b.ah b.ad f.key) false)) y=some r2:=e1;rw [bV] at e1
   cases F:aA b.ah y with
   | none=>rw [F] at e1;cases e1
   | some r3=>
    rw [F] at e1;simp only [Option.map_some,Option.some.injEq] at e1;have h5:=(aI F).2
    have h6:r2=r3:=by
     rw [← e1]
     unfold aX
     grind
    exact B y hy (aL.2 ⟨r3,F,by rw [← h6];exact e2⟩)
  | fail c hr hl hc h5 h6 h7=>
   refine⟨same rfl,fun y hy hu=>B y hy ?_⟩
   grind [lL]
  | stay=>exact absurd rfl Bb
  | read=>exact⟨same rfl,B⟩
  | up=>exact⟨Q,B⟩
  | start=>exact⟨same rfl,B⟩
  | pass=>exact⟨same rfl,B⟩
theorem Nd.up(hR:aq aa) (t:LC aa x) (hk:∀k∈goals,ep aa k) (h:ed aa (valOf aa x.ab) goals x b [] a8) (hu:∀k∈goals,aw k=true∨ay b k=true) (hn:Nd aa x goals y):aw y=true∨ay b y=true:=by
 induction hn with
 | goal B=>exact hu _ B
 | @read y a _ h1 C D=>
  rcases D with e | e
  ·
   grind [yT]
  exact h.reads hR t hk h1 e C
theorem ed.runs(hR:aq aa) (e:LC aa x) (hk:∀k∈goals,ep aa k) (h:ed aa (valOf aa x.ab) goals x b [] a8) (hu:∀k∈goals,aw k=true∨ay b k=true):y∈a8↔DD (valOf aa x.ab) x y∧Nd aa x goals y:=by
 rw [h.mem hR e hk]
 constructor
 ·
  exact fun⟨h1,t⟩=>⟨h1,(h.need hR e hk).2 y h1.2.1 t⟩
 exact fun⟨h1,t⟩=>⟨h1,(t.up hR e hk h hu).resolve_left (by rw [h1.1];simp)⟩
end
end Go.Rc

namespace Go.Rc
open Go
section
variable {aa:List aH}{H:Int→List ct}{x b b':bZ}{l l' p:List bp}{f:bp}{a8 rk goals zc:List Key}{k y a:Key}{val:Key→ByteArray}{er:Int}{r:Rec}
theorem uV{G:List Key}{d:Bool}{rev:Int}{l:List Rec}(h:y∉G):aA (l.map (aX rev G d)) y=aA l y:=by
 rw [bV]
 cases e:aA l y with
 | none=>rfl
 | some r=>
  have t:=(aI e).2;simp only [Option.map_some,Option.some.injEq]
  unfold aX
  grind
theorem sJ(hu:ay b y=true) (hl:Live b.ah b.ad k):y∉aB b.ah b.ad k:=fun e=>by
 obtain⟨r,h1,t⟩:=aL.1 hu
 rcases cm.1 e with rfl | ⟨_,hm⟩
 ·
  obtain⟨q,g1,_,g3⟩:=hl
  grind
 obtain⟨q,g1,_,g3,_⟩:=bE.1 hm.gz
 grind
theorem FS.stays(t:FS aa val b p f b' l' rk er) (B:f.running=true→ay b f.key=false) (hy:ay b y=true):aA b'.ah y=aA b.ah y:=by
 cases t with
 | put hr=>
  have h1:=B hr
  have C:¬y=(bs b f.key (aG aa f.key f.ae).value f.reads).key:=fun e=>by
   have e:y=f.key:=e;rw [e,h1] at hy;cases hy
  show aA (dK b.ah _) y=_
  rw [ck,if_neg C]
 | mark hr hl=>exact uV (sJ hy hl)
 | fail c hr hl=>
  split
  ·
   exact uV (sJ hy hl)
  rfl
 | _=>rfl
theorem ed.more(hR:aq aa) (D:LC aa x) (hk:∀k∈goals,ep aa k) (h:ed aa (valOf aa x.ab) goals x b l a8):(∀y∈a8,(aC b.ah y).cost=1+((aC b.ah y).reads.length:Int))∧∀y,(aC b.ah y).bq=true→(aC x.ah y).bq=true∨Nd aa x goals y:=by
 induction h with
 | start=>grind
 | take h1 F hn t=>exact t
 | @step b b' p l' f a8 rk h1 G V t=>
  obtain⟨J,B⟩:=t;obtain⟨⟨H,C⟩,W,X⟩:=h1.inv hR D hk;have O:∀y,ay x y=true→ay b y=true:=fun y hy=>h1.ML hy;have I:Nd aa x goals f.key:=(h1.need hR D hk).1 f (by simp);have Q:∀y,ay b y=true→aA b'.ah y=aA b.ah y:=fun y hy=>G.stays (fun hr=>(C.top.run hr).2.1) hy
  have hold:∀y∈a8,(aC b'.ah y).cost=1+((aC b'.ah y).reads.length:Int):=fun y hy=>by
   have e:aC b'.ah y=aC b.ah y:=by unfold aC;rw [Q y (C.wy.JL y hy)]
   rw [e];exact J y hy
  cases G with
  | put hr hd=>
   have e2:aA (dK b.ah (bs b f.key (aG aa f.key f.ae).value f.reads)) f.key=some (bs b f.key (aG aa f.key f.ae).value f.reads):=by
    rw [ck];exact if_pos rfl
   refine⟨fun y hy=>?_,fun y hy=>?_⟩
   ·
    rcases List.mem_append.1 hy with hy | hy
    ·
     exact hold y hy
    rw [List.mem_singleton] at hy;subst hy
    show(aC (dK b.ah _) f.key).cost=_
    rw [aN e2]
    rfl
   by_cases e:y=f.key
   ·
    exact .inr (e ▸ I)
   refine B y ?_
   have e3:aA (dK b.ah (bs b f.key (aG aa f.key f.ae).value f.reads)) y=aA b.ah y:=by
    rw [ck,if_neg (show ¬y=(bs b f.key (aG aa f.key f.ae).value f.reads).key from e)]
   grind [aC]
  | mark hr hl hn=>
   rw [List.append_nil];refine⟨hold,fun y hy=>B y ?_⟩;have hy:(aC (b.ah.map (aX b.ad (aB b.ah b.ad f.key) false)) y).bq=true:=hy
   unfold aC at hy ⊢
   rw [bV] at hy
   cases S:aA b.ah y with
   | none=>rw [S] at hy;exact hy
   | some r=>grind [aX]
  | fail c hr hl hc Y h6 h7=>
   rw [List.append_nil];refine⟨hold,fun y hy=>?_⟩
   by_cases F:y∈aB b.ah b.ad f.key
   ·
    exact .inr (I.group hR C.bi O F)
   refine B y ?_
   split at hy
   ·
    have hy:(aC (b.ah.map (aX b.ad (aB b.ah b.ad f.key) true)) y).bq=true:=hy
    grind [aC,uV]
   exact hy
  | stay=>grind
  | push=>grind
  | read=>grind
  | up=>grind
  | start=>grind
  | qi=>grind
  | pass=>grind
open Classical in
noncomputable def Wk(aa:List aH) (x:bZ) (goals:List Key) (k:Key):Option Rec:=
 if Nd aa x goals k∧aw k=false∧ay x k=false then
  if DD (valOf aa x.ab) x k then some ⟨k,valOf aa x.ab k,iO aa x.ab k,if (aA x.ah k).isSome∧(aC x.ah k).value=valOf aa x.ab k then (aC x.ah k).changed else x.ad,x.ad,1+((iO aa x.ab k).length:Int),false⟩
  else (aA x.ah k).map fun r=>{r with av:=x.ad}
 else aA x.ah k
theorem ed.fin(hR:aq aa) (t:LC aa x) (hk:∀k∈goals,ep aa k) (h:ed aa (valOf aa x.ab) goals x b [] a8) (hu:∀k∈goals,aw k=true∨ay b k=true) (k:Key):aA b.ah k=Wk aa x goals k:=by
 obtain⟨hb,eK,O,hw,Q⟩:=h.done hR t hk;obtain⟨Hh,F⟩:=hb.bh;obtain⟨S,V⟩:=h.more hR t hk;have W:=(h.need hR t hk).2;have J:=fun y=>h.mem (y:=y) hR t hk;have C:=hw.ev.pt k;simp only at C
 unfold Wk
 by_cases G:Nd aa x goals k∧aw k=false∧ay x k=false
 ·
  rw [if_pos G];obtain⟨n1,n2,n3⟩:=G;have B:ay b k=true:=(n1.up hR t hk h hu).resolve_left (by rw [n2];simp);obtain⟨r,f1,f2⟩:=aL.1 B;obtain⟨m1,m2⟩:=aI f1
  by_cases D:DD (valOf aa x.ab) x k
  ·
   rw [if_pos D,f1];have I:k∈a8:=(J k).2 ⟨D,B⟩;have hc:=S k I;rw [aN f1] at hc
   have yW:r.reads=iO aa x.ab k:=by
    have:=(F.c.vr r m1).2
    rw [f2,F.c.now,eK,m2] at this;exact this
   have X:r.value=valOf aa x.ab k:=by rw [Q r m1 f2,m2]
   have hd:r.bq=false:=by
    cases e:r.bq with
    | false=>rfl
    | true=>have:=F.dv r m1 e;omega
   have am6:r.changed=if (aA x.ah k).isSome∧(aC x.ah k).value=valOf aa x.ab k then (aC x.ah k).changed else x.ad:=by
    rcases C with e | ⟨_,q,e1,_,e2,e3 | e3⟩ | ⟨_,_,r',e3,_,_,_,e6,e7⟩
    ·
     grind [aL]
    ·
     rw [f1] at e3;cases e3;rw [e1,aN e1,if_pos ⟨rfl,X⟩]
    ·
     grind
    rw [f1] at e3;cases e3
    cases hf:aA x.ah k with
    | none=>grind
    | some q=>grind [aN]
   obtain⟨rk',rv,rr,rc,rve,rco,rdi⟩:=r
   grind
  rw [if_neg D,f1];have I:k∉a8:=fun hm=>D ((J k).1 hm).1
  rcases C with e | ⟨_,q,e1,_,e2,e3 | e3⟩ | ⟨⟨e1,_⟩,_⟩
  ·
   grind [aL]
  ·
   grind
  ·
   grind
  exact absurd e1 I
 rw [if_neg G]
 have Y:ay x k=false→ay b k=false:=fun h0=>by
  cases B:ay b k with
  | false=>rfl
  | true=>
   have hn:=W k h0 B
   cases hi:aw k with
   | false=>grind
   | true=>
    obtain⟨r,f1,_⟩:=aL.1 B
    have:=hb.lb.BW.kr.aD hi
    rw [this] at f1;cases f1
 rcases C with e | ⟨_,q,e1,e0,e2,e3 | e3⟩ | ⟨⟨e1,_⟩,e2,r',e3,e4,_⟩
 ·
  exact e
 ·
  exfalso
  have h0:ay x k=false:=by grind [aL]
  have:=Y h0
  rw [aL.2 ⟨_,e3,O.symm⟩] at this
  cases this
 ·
  exfalso
  have hdy:=V k (by rw [aN e3])
  rcases hdy with hd | hd
  ·
   grind [aN]
  have hik:aw k=false:=by
   cases hi:aw k with
   | false=>rfl
   | true=>rw [hb.lb.BW.kr.aD hi] at e3;cases e3
  grind [aL]
 exfalso
 have h0:=(hw.a8 k e1).2.1
 grind
end
end Go.Rc

namespace Go.Rc
open Go
section
variable {aa:List aH}{x y z b b':bZ}{l:List bp}{a8 JJ r1 r2 goals zc all rs:List Key}{k:Key}{val:Key→ByteArray}
theorem ed.trans(h1:ed aa val goals x y [] r1) (t:ed aa val zc y z l r2) (B:∀k∈zc,k∈goals):ed aa val goals x z l (r1++r2):=by
 induction t with
 | start=>grind
 | take h hk hn e=>exact .take e (B _ hk) hn
 | step h C D e=>rw [← List.append_assoc];exact .step e C D
theorem ed.same(hR:aq aa) (e:LC aa x) (hk:∀k∈goals,ep aa k) (h:ed aa (valOf aa x.ab) goals x b [] a8) (t:ed aa (valOf aa x.ab) goals x b' [] JJ) (hu:∀k∈goals,aw k=true∨ay b k=true) (D:∀k∈goals,aw k=true∨ay b' k=true):b'=b∧JJ.Perm a8:=by
 obtain⟨hb,hi,hr,hw,_⟩:=h.done hR e hk;obtain⟨F,G,I,J,_⟩:=t.done hR e hk
 have S:∀k,aA b'.ah k=aA b.ah k:=fun k=>by rw [h.fin hR e hk hu k,t.fin hR e hk D k]
 obtain⟨H,B⟩:=hb.bh;obtain⟨V,C⟩:=F.bh
 have W:∀r,r∈b'.ah↔r∈b.ah:=fun r=>by
  constructor
  ·
   intro hm
   have:=fU C.st hm
   grind [aI]
  intro hm
  have:=fU B.st hm
  grind [aI]
 have O:b'.ah.map (·.key)=b.ah.map (·.key):=by
  refine rC ?_ ?_ fun y=>?_
  ·
   show HB _
   unfold HB
   rw [List.pairwise_map];exact C.st
  ·
   show HB _
   unfold HB
   rw [List.pairwise_map];exact B.st
  grind
 have Q:b'.ah=b.ah:=by
  have e1:∀c:bZ,pf c.ah→(c.ah.map (·.key)).map (aC c.ah)=c.ah:=fun c hc=>by
   rw [List.map_map]
   conv=>rhs;rw [← List.map_id c.ah]
   exact List.map_congr_left fun r hr=>aN (fU hc hr)
  rw [← e1 b' C.st,← e1 b B.st,O]
  grind [List.map_congr_left,aC]
 refine⟨Kc (I.trans hr.symm) (G.trans hi.symm) Q,(List.perm_ext_iff_of_nodup J.jP hw.jP).2 fun y=>?_⟩;rw [t.runs hR e hk D,h.runs hR e hk hu]
theorem EM(h:all.Perm a8) (e:rs.Perm a8) (t:wE rs):all.length=rs.length∧jR all=rs:=
 ⟨(h.trans e.symm).length_eq,rC (BZ _) t fun y=>by rw [od,h.mem_iff,e.mem_iff]⟩
end
end Go.Rc

namespace Go.Rc
open Go
theorem Rg{α:Type}{l:List α}{m:Nat}(h:m<l.length):(l.drop m).take 1=[l[m]]:=by
 rw [List.drop_eq_getElem_cons h]
 rfl
section
variable {aa:List aH}{x y z:bZ}{goals a8 r2 all rs:List Key}{m:Nat}
theorem EN(hm:m<goals.length) (hi:y.ab=x.ab) (h1:ed aa (valOf aa x.ab) goals x y [] a8) (e:ed aa (valOf aa y.ab) [goals[m]] y z [] r2):ed aa (valOf aa x.ab) goals x z [] (a8++r2):=by
 rw [hi] at e
 exact h1.trans e fun k hk=>by rw [List.mem_singleton.1 hk];exact List.getElem_mem hm
theorem Ke(hm:m<goals.length) (h1:∀j,m+1≤j→∀k,goals[j]?=some k→aw k=true∨ay y k=true) (t:∀k,ay y k=true→ay z k=true) (B:∀k∈[goals[m]],aw k=true∨ay z k=true):∀j,m≤j→∀k,goals[j]?=some k→aw k=true∨ay z k=true:=fun j C k hk=>by
 by_cases e:j=m
 ·
  subst e
  have:=(List.getElem?_eq_some_iff.1 hk).2
  exact B k (by rw [this];simp)
 exact(h1 j (by omega) k hk).imp id (t k)
theorem HP(h1:all.Perm a8) (e:rs.Perm r2):(all++rs).Perm (a8++r2):=h1.append e
end
end Go.Rc

namespace Go.Rc
open Go
section
variable {α:Type}{A A2:Nat→Prop}{w w':World}{k n c:Nat}{a:Option Addr}{R:α→List Value→Prop}{xs ys:List α}
variable {P:Program}{N:Nat}{kv:KV}{K:KV→World→Prop}
variable {d:Tmp}{ty:TypeId}{pos:String}{af:Array Edge}{g:Option (Nat × Bool)}{T E:TypeId}
theorem B7(hT:wm P T E k) {i j:Nat}(hi:i≤j) (t:j≤c) (e:∀x,a=some x→x.spot=none):(Instr.sliceAt T (.slice a n c) (some (.int .i64 (i:Int))) (some (.int .i64 (j:Int))) none).run P w=.ok (.slice (kf a i k c) (j - i) (c - i)) w:=by
 simp only [Instr.sliceAt,Instr.slice,Sem.run_bind,run_underlying hT.Gc,Result.andThen_ok,Instr.sliceBounds,Sem.run_pure,Option.isSome_none,Bool.false_eq_true,if_false];rw [run_sliceBound (P:=P) _ _ _ _ _ (by omega) (by omega)];simp only [Result.andThen_ok,Int.toNat_natCast];rw [run_sliceBound (P:=P) _ _ _ _ _ (by omega) (by omega)];simp only [Result.andThen_ok,Int.toNat_natCast,hT.size w];rw [← Bk e]
theorem PV.MX(hT:wm P T E k) {x y z:Operand}{i j:Nat}(h:SR A w k R a n c xs) (e:ev kv x=some (.slice a n c)) (hy:ev kv y=some (.int .i64 (i:Int))) (t:ev kv z=some (.int .i64 (j:Int))) (hi:i≤j) (C:j≤n):PV P (.slice T x (some y) (some z) none) ty kv w (.slice (kf a i k c) (j - i) (c - i)):=by
 obtain⟨_,rows,_,_,B,_⟩:=h;refine⟨rfl,by simp [known,opers,e,hy,t],fun _ _ _ _=>?_⟩
 have:=B.Vp
 simp only [execOp,aK e,aK hy,aK t,Option.map_none,Option.map_some,Sem.run_bind,B7 hT hi (show j≤c by omega) B.spot,Result.andThen_ok];rfl
end
end Go.Rc

namespace Go.Rc
open Go
section
variable {H:Type}{enc:TypeId × Value→H}{P:Program}{w:World}
theorem sK{e:TypeId}:∀{l:List (DataW H)}{d:DataW H},d∈l→∀n∈d.weights P e,n∈DataW.weightsAll P e l
 | [],_,hd,_,_=>by cases hd
 | x::r,d,hd,n,hn=>by
  simp only [DataW.weightsAll,List.mem_append]
  rcases List.mem_cons.1 hd with rfl | hd
  ·
   exact .inl hn
  exact .inr (sK hd n hn)
def Kf(P:Program) (t:TypeId) (d:DataW H):Prop:=∀n∈d.weights P t,n≤reachBytes
theorem Kf.len{t e:TypeId}{xs ys:List (DataW H)}(h:Kf P t (.slice xs ys)) (ht:P.underlying t=some (.slice e)) (hb:1≤P.bytesOf e):xs.length≤140737488355328:=by
 have h1:=h ((xs.length+ys.length)*P.bytesOf e) (by simp only [DataW.weights,ht];exact List.mem_cons_self)
 unfold reachBytes at h1
 have B:xs.length*1≤(xs.length+ys.length)*P.bytesOf e:=Nat.mul_le_mul (by omega) hb
 omega
theorem Kf.elem{t e:TypeId}{xs ys:List (DataW H)}(h:Kf P t (.slice xs ys)) (ht:P.underlying t=some (.slice e)) {d:DataW H}(hd:d∈xs):Kf P e d:=fun n hn=>
 h n (by simp only [DataW.weights,ht,List.mem_cons,List.mem_append];exact .inr (.inl (sK hd n hn)))
theorem Kf.each{e:List TypeId}{ds:List (DataW H)}(h:(DataW.weightsEach P e ds).all (·≤reachBytes)=true) {j:Nat}{t:TypeId}{d:DataW H}(ht:e[j]?=some t) (hd:ds[j]?=some d):Kf P t d:=fun n hn=>by
 have:=List.all_eq_true.1 h n (DataW.weights_mem_each ht hd n hn)
 simpa using this
theorem MY{α:Type} [Inhabited α] {R:α→List Value→Prop}{t e:TypeId}{k fuel n c:Nat}{a:Option Addr}{d:DataW H}{p:List MemPlace}(ht:P.underlying t=some (.slice e)) (hk:P.cellsOf e=k) (B2:1≤k) (hb:1≤P.bytesOf e)
  (hR:∀(m:Nat) (cs:List Value) (d:DataW H) (p:List MemPlace),DataW.trod enc P w 0 (fun _=>true) true m e cs=some (d,p)→cs.length=k→Kf P e d→∃x:α,R x cs)
  (h:DataW.trod enc P w 0 (fun _=>true) true fuel t [.slice a n c]=some (d,p)) (hl:Kf P t d):∃xs:List α,LR (fun b=>b<w.heap.size) w k R a n xs:=by
 rcases Deep.open_slice ht h with⟨hc,_⟩ | ⟨F,len,cap,m,fu,D,Pl,hc,_,hle,_,hm,B,S⟩
 ·
  simp only [List.cons.injEq,Value.slice.injEq,and_true] at hc;obtain⟨rfl,rfl,rfl⟩:=hc;exact⟨[],⟨rfl,by omega,fun B=>by simp at B⟩⟩
 simp only [List.cons.injEq,Value.slice.injEq,and_true] at hc;obtain⟨rfl,rfl,rfl⟩:=hc;simp only [Prod.mk.injEq] at B;obtain⟨rfl,_⟩:=B;simp only [if_true] at hm
 have hn:n≤140737488355328:=by simpa using hl.len ht hb
 have each:∀i,i<n→∃q:α × List Value,w.cells? 0 (F.add (i*k)) k=some q.2∧R q.1 q.2:=fun i hi=>by
  obtain⟨V,h1,W⟩:=S i (by omega);rw [hk] at h1;obtain⟨x,B⟩:=hR _ _ _ _ W (World.cells?_some h1).2.1 (hl.elem ht (List.mem_map.2 ⟨i,by simpa using hi,rfl⟩));exact⟨(x,V),h1,B⟩
 obtain⟨q,G⟩:=Deep.choose_lt each;refine⟨(List.range n).map fun i=>(q i).1,⟨by simp,hn,fun {i x} B=>?_⟩⟩
 obtain⟨hi,rfl⟩:i<n∧(q i).1=x:=by
  rw [List.getElem?_map] at B;obtain⟨j,C,X⟩:=Option.map_eq_some_iff.1 B;rw [List.getElem?_eq_some_iff] at C;obtain⟨I,J⟩:=C
  simp at I J
  subst J;exact⟨I,X⟩
 have O:F.spot=none:=by
  obtain⟨_,UK,Y⟩:=World.cells?_some (G 0 (by omega)).1;have h0:=Y 0 (by omega);rw [List.getElem?_eq_getElem (by omega)] at h0
  have:=World.cell?_spot h0
  simpa [Addr.add] using this
 obtain⟨b,o,s⟩:=F;simp only at O;subst O;obtain⟨_,Ha,x4⟩:=World.cells?_some (G i hi).1
 have hr:w.rangeAt b (o+i*k) (q i).2:=fun j v Q=>by
  have C:j<k:=by have:=(List.getElem?_eq_some_iff.1 Q).1;omega
  have:=x4 j C
  rw [WideShapes.add_plain,WideShapes.add_plain] at this;rw [this,Q]
 refine⟨b,o,(q i).2,rfl,Ha,(G i hi).2,hr,?_,?_⟩ <;>
  exact World.block_lt_of_cell? w ⟨b,_,none⟩ (hr 0 _ (List.getElem?_eq_getElem (by omega)))
end
def uW(P:Program) (w:World) (n:String):Prop:=∃(nm:String) (d:DataW Unit) (g t:Nat) (ms:Array (String × TypeId)),Lib.VarReads P w n (.iface nm d)∧P.globalNamed n=some g∧(P.globals[g]?).map (·.type)=some t∧P.underlying t=some (.interface ms)
theorem Rh{P:Program}{w:World}{g t e:Nat}(J:Lib.VarReads P w "internal/strconv.uint64pow10" (Lib.tabData .u64 Lib.pow10Tab)) (F:P.globalNamed "internal/strconv.uint64pow10" = some g) (O:(P.globals[g]?).map (·.type)=some t) (ht:P.underlying t=some (.array 20 e)) (he:P.underlying e=some (.int .u64))
  (Q:P.cellsOf e=1) (S:P.cellsOf t=20) (V:uW P w "strconv.ErrSyntax") (W:uW P w "strconv.ErrRange"):lD P (fun b=>b<w.heap.size) w:=by
 obtain⟨g',t',cs,fuel,p,X,Y,B,hd⟩:=J;obtain rfl:=Option.some.inj (F.symm.trans X);obtain rfl:=Option.some.inj (O.symm.trans Y);have hc:=Lib.cells_of_tab ht he Q S hd
 have hT:Lib.TabIs P w "internal/strconv.uint64pow10" .u64 Lib.pow10Tab:=by
  unfold Lib.TabIs
  rw [B,← hc]
 have G:g<w.heap.size:=by
  unfold World.var? at B
  simp only [F,Option.bind_some] at B
  split at B
  ·
   rename_i D
   exact(Array.getElem?_eq_some_iff.1 D).1
  cases B
 refine⟨⟨g,G,G,fun w' e=>?_⟩,fun n hn g2 UQ=>?_⟩
 ·
  unfold Lib.TabIs World.var? at hT ⊢
  simp only [F,Option.bind_some] at hT ⊢;rw [e];exact hT
 have hE:uW P w n:=by
  rcases hn with rfl | rfl
  ·
   exact V
  exact W
 obtain⟨nm,d,g3,t3,ms,⟨g4,t4,cs4,ajH,p4,e1,e2,C,hd4⟩,e3,e4,e5⟩:=hE;obtain rfl:=Option.some.inj (e1.symm.trans UQ);obtain rfl:=Option.some.inj (e1.symm.trans e3);obtain rfl:=Option.some.inj (e2.symm.trans e4);obtain⟨_,u,v,hcs,_,_⟩:=iface_of_trod e5 hd4
 unfold World.var? at C
 simp only [e1,Option.bind_some] at C
 split at C
 ·
  rename_i c0 x0 y0 D
  obtain rfl:=Option.some.inj C;have I:=(Array.getElem?_eq_some_iff.1 D).1;refine⟨I,I,.iface u v,.inr ⟨u,v,rfl⟩,fun w' e=>?_⟩;obtain rfl:c0=#[.iface u v]:=Array.toList_inj.1 hcs
  unfold World.cell?
  simp only [e,D]
  first | done | rfl
 cases C
theorem aT.Ri{w w':World}(h:aT [] w w') (B:Nat) (e:B≤w.heap.size):RowKit.Below B w w':=⟨h.os,h.tape,h.output,h.size,fun k hk=>h.block k (by omega) (by simp)⟩
end Go.Rc

namespace Go.Rc
open Go
def Rj(m f:Nat):Bool:=Nat.beq (Nat.land (Nat.shiftRight m f) 1) 1
def EO(look:FuncId→Option Func) (P:Program):Nat→List FuncId→Nat→List FuncId→List FuncId
 | 0,_,_,seen=>seen.reverse
 | _,[],_,seen=>seen.reverse
 | n+1,f::todo,mask,seen=>
  match Rj mask f with
  | true=>EO look P n todo mask seen
  | false=>EO look P n ((look f).elim [] P.leadsTo++todo) (Nat.lor mask (Nat.shiftLeft 1 f)) (f::seen)
theorem MZ(m f:Nat):Rj m f=m.testBit f:=by
 unfold Rj
 show Nat.beq ((m >>> f) &&& 1) 1=m.testBit f
 rw [Nat.testBit,Nat.and_comm];have h:=Nat.and_one_is_mod (m >>> f);rw [Nat.and_comm]
 have t:(1 &&& m >>> f)=(m >>> f) % 2:=by rw [Nat.and_comm];exact h
 rw [Nat.and_comm,t]
 rcases Nat.mod_two_eq_zero_or_one (m >>> f) with e | e <;> rw [e] <;> rfl
theorem zd{look:FuncId→Option Func}(P:Program) (hl:∀g,P.funcs[g]?=look g):∀(n:Nat) (todo:List FuncId) (mask:Nat) (seen:List FuncId),(∀x:Nat,mask.testBit x=seen.contains x)→EO look P n todo mask seen=P.closureVia n todo seen
 | 0,_,_,_,_=>by unfold EO Program.closureVia;rfl
 | n+1,[],_,_,_=>by unfold EO Program.closureVia;rfl
 | n+1,f::todo,mask,seen,h=>by
  unfold EO Program.closureVia
  rw [MZ,h f]
  cases hc:seen.contains f with
  | true=>simp only [if_true];exact zd P hl n todo mask seen h
  | false=>
   simp only [Bool.false_eq_true,if_false];rw [hl f];refine zd P hl n _ _ _ fun x=>?_
   show(mask ||| (1 <<< f)).testBit x=(f::seen).contains x
   rw [Nat.testBit_or,h x,Nat.shiftLeft_eq,Nat.one_mul,Nat.testBit_two_pow,List.contains_cons,Bool.or_comm]
   grind
theorem ze{look:FuncId→Option Func}(P:Program) (hl:∀g,P.funcs[g]?=look g) (f:FuncId):P.closure f=EO look P (1+(P.funcs.toList.map fun g=>(P.leadsTo g).length+1).sum) [f] 0 []:=by grind [Program.closure,zd]
end Go.Rc

namespace Go.Rc
open Go
def zh(P:Program):Nat→List TypeId→List TypeId
 | 0,s=>s
 | d+1,s=>match decide (P.grow s=s) with
  | true=>s
  | false=>zh P d (P.grow s)
theorem x5{P:Program}{s:List TypeId}(h:P.grow s=s):∀n,P.grown n s=s
 | 0=>rfl
 | n+1=>by
  show P.grown n (P.grow s)=s
  rw [h];exact x5 h n
theorem x7(P:Program):∀(n:Nat) (s:List TypeId),P.grown n s=zh P n s
 | 0,_=>rfl
 | n+1,s=>by
  show P.grown n (P.grow s)=match decide (P.grow s=s) with | true=>s | false=>zh P n (P.grow s)
  by_cases h:P.grow s=s
  ·
   grind [x5]
  rw [decide_eq_false h];exact x7 P n _
def oI(P:Program) (t:TypeId):List TypeId:=zh P P.types.size [t]
theorem l8(P:Program) (t:TypeId):P.book t=oI P t:=x7 P _ _
def Kg(P:Program) (t:TypeId):Bool:=(oI P t).all fun u=>P.fineRow u && (P.partsOf u).all ((oI P t).contains ·)
theorem tO(P:Program) (t:TypeId):P.readableRec t=Kg P t:=by grind [Program.readableRec,Kg,l8]
def Kh(P:Program) (t:TypeId):Bool:=(oI P t).any fun u=>(P.partsOf u).any fun v=>(oI P v).contains u
theorem B8(P:Program) (t:TypeId):P.loopsFrom t=Kh P t:=by grind [Program.loopsFrom,Kh,l8]
def OZ(P:Program) (t:TypeId):Bool:=(oI P t).any fun u=>match P.underlying u with | some (.map _ _)=>true | _=>false
theorem Na(P:Program) (t:TypeId):P.mapsRec t=OZ P t:=by grind [Program.mapsRec,OZ,l8]
def GM(P:Program) (t:TypeId):Bool:=(oI P t).any fun u=>match P.underlying u with | some (.interface _)=>true | _=>false
theorem x8(P:Program) (t:TypeId):P.ifacesRec t=GM P t:=by grind [Program.ifacesRec,GM,l8]
def tP(P:Program) (t:TypeId):Bool:=(oI P t).any fun u=>match P.underlying u with | some (.func ..) | some (.chan ..) | some .unsafePointer=>true | _=>false
theorem rJ(P:Program) (t:TypeId):P.veiledRec t=tP P t:=by grind [Program.veiledRec,tP,l8]
def O0(P:Program) (t:TypeId):Bool:=
 (oI P t).any fun u=>match P.underlying u with
  | some (.map k _)=>(match P.underlying k with | some (.array _ _) | some (.struct _)=>true | _=>false)
  | _=>false
theorem Nb(P:Program) (t:TypeId):P.wideKeysFrom t=O0 P t:=by grind [Program.wideKeysFrom,O0,l8]
def px(P:Program) (t:TypeId):Bool:=!tP P t || (let L:=P.libraryStructs;(oI P t).all fun u=>!(P.libraryStructIn L u && tP P u))
theorem qo(P:Program) (t:TypeId):P.veiledOwn t=px P t:=by grind [Program.veiledOwn,px,l8,rJ]
def B9(P:Program) (n:String):Bool:=
 match P.globalNamed n with
 | some g=>((P.globals[g]?).map (·.type)).any fun t=>Kg P t && px P t
 | none=>false
theorem EP(P:Program) (n:String):P.varReadable n=B9 P n:=by grind [Program.varReadable,B9,tO,qo]
end Go.Rc

namespace Go.Rc
open Go
def blocks{α:Type _}:Nat→List α→List (List α)
 | 0,_=>[]
 | n+1,l=>l.take 32::blocks n (l.drop 32)
def pick{α:Type _}(b:List (List α)) (t:Nat):Option α:=(b[t / 32]?).bind (·[t % 32]?)
theorem kM{α:Type _}:∀(n:Nat) (l:List α) (t:Nat),l.length≤n*32→pick (blocks n l) t=l[t]?
 | 0,l,t,h=>by grind [pick,blocks]
 | n+1,l,t,h=>by
  by_cases ht:t<32
  ·
   grind [pick,blocks]
  have h1:t / 32=(t - 32) / 32+1:=by omega
  have e:t % 32=(t - 32) % 32:=by omega
  have B:=kM n (l.drop 32) (t - 32) (by simp;omega)
  grind [pick,blocks]
def rootOf(b:List (List TypeInfo)) (t:TypeId):Option TypeDesc:=
 (pick b t).bind fun i=>match i.desc with
  | .named _ u=>(pick b u).map (·.desc)
  | d=>some d
def wide(b:List (List TypeInfo)) (t:TypeId):Nat:=((pick b t).map (·.size)).getD 0
theorem rK{P:Program}{n:Nat}(hn:P.types.size≤n*32) {t:TypeId}{i:TypeInfo}(h:pick (blocks n P.types.toList) t=some i):P.info? t=some i:=by
 rw [kM n _ t (by simpa using hn),Array.getElem?_toList] at h;have ht:t<P.types.size:=(Array.getElem?_eq_some_iff.1 h).1
 unfold Tables.info?
 rw [if_pos ht,h]
theorem Nc{P:Program}{n:Nat}(hn:P.types.size≤n*32) {t:TypeId}(h:t<P.types.size):∃i,pick (blocks n P.types.toList) t=some i:=by
 rw [kM n _ t (by simpa using hn),Array.getElem?_toList]
 simp_all
theorem rL{P:Program}{n:Nat}(hn:P.types.size≤n*32) {t:TypeId}{d:TypeDesc}(h:rootOf (blocks n P.types.toList) t=some d):P.underlying t=some d:=by
 unfold rootOf at h
 unfold Program.underlying
 cases B:pick (blocks n P.types.toList) t with
 | none=>rw [B] at h;cases h
 | some i=>
  rw [B] at h;rw [rK hn B];obtain⟨e,_⟩:=i
  grind [pick,rK]
theorem qp{P:Program}{n:Nat}(hn:P.types.size≤n*32) {t:TypeId}(h:t<P.types.size):wide (blocks n P.types.toList) t=P.cellsOf t:=by grind [Nc,wide,Program.cellsOf,rK]
def stands(b:List (List TypeInfo)) (N:Nat) (t:TypeId):Bool:=Nat.ble (t+1) N && kindOk (rootOf b t)
theorem oi{b:List (List TypeInfo)}{N:Nat}{t:TypeId}(h:stands b N t=true):t<N:=by
 simp only [stands,Bool.and_eq_true] at h;exact Nat.le_of_ble_eq_true h.1
theorem oj{P:Program}{n:Nat}(hn:P.types.size≤n*32) {t:TypeId}(h:stands (blocks n P.types.toList) P.types.size t=true):isVar P t=true:=by
 have hl:=oi h;simp only [stands,Bool.and_eq_true] at h
 unfold isVar
 cases hr:rootOf (blocks n P.types.toList) t with
 | none=>rw [hr] at h;cases h.2
 | some d=>grind [rL]
def qq(b:List (List TypeInfo)) (N:Nat):Nat→List Field→Bool
 | _,[]=>true
 | o,f::r=>stands b N f.type && Nat.beq f.offset o && qq b N (o+wide b f.type) r
def sumOf(b:List (List TypeInfo)):List Field→Nat
 | []=>0
 | f::r=>wide b f.type+sumOf b r
def Rk(b:List (List TypeInfo)) (N:Nat) (t:TypeId):Bool:=
 match rootOf b t with
 | none=>false
 | some (.struct fs)=>qq b N 0 fs.toList && Nat.beq (wide b t) (sumOf b fs.toList)
 | some (.array k e)=>stands b N e && Nat.beq (wide b t) (k*wide b e)
 | some (.pointer e)=>stands b N e && Nat.beq (wide b t) 1
 | some (.slice e)=>stands b N e && Nat.beq (wide b t) 1
 | some (.tuple _)=>true
 | some .invalid=>true
 | some (.named _ _)=>true
 | _=>Nat.beq (wide b t) 1
def ED(b:List (List TypeInfo)) (N:Nat) (t:TypeId):Bool:=
 match rootOf b t with
 | none=>false
 | some (.map _ e)=>Nat.ble (e+1) N
 | _=>true
theorem qt{P:Program}{n:Nat}(hn:P.types.size≤n*32):∀(fs:List Field) (o:Nat),qq (blocks n P.types.toList) P.types.size o fs=true→
  (∀f∈fs,isVar P f.type=true)∧(∀j f,fs[j]?=some f→f.offset=o+((fs.take j).map fun f=>P.cellsOf f.type).sum)∧sumOf (blocks n P.types.toList) fs=(fs.map fun f=>P.cellsOf f.type).sum
 | [],_,_=>⟨by simp,by simp,rfl⟩
 | g::r,o,h=>by
  simp only [qq,Bool.and_eq_true] at h;obtain⟨⟨h1,t⟩,e⟩:=h;rw [qp hn (oi h1)] at e;obtain⟨B,i2,i3⟩:=qt hn r _ e;refine⟨fun f C=>?_,fun j f D=>?_,?_⟩
  ·
   grind [oj]
  ·
   cases j with
   | zero=>simp_all
   | succ j=>grind
  grind [sumOf,qp,oi]
theorem HQ{P:Program}{n:Nat}(hn:P.types.size≤n*32) {t:TypeId}(ht:t<P.types.size) (h:Rk (blocks n P.types.toList) P.types.size t=true):rowFine P t=true:=by
 unfold Rk at h
 rw [qp hn ht] at h
 unfold rowFine
 rw [Bool.or_eq_true]
 cases hr:rootOf (blocks n P.types.toList) t with
 | none=>rw [hr] at h;cases h
 | some d=>
  have hu:=rL hn hr;rw [hr] at h
  cases d with
  | struct fs=>
   right
   simp only [hu];simp only [Bool.and_eq_true] at h;obtain⟨h1,C,B⟩:=qt hn fs.toList 0 h.1;simp only [Bool.and_eq_true,List.all_eq_true,beq_iff_eq];refine⟨⟨h1,(Nat.eq_of_beq_eq_true h.2).trans B⟩,fun j D=>?_⟩
   grind
  | array k e=>
   right
   simp only [hu];simp only [Bool.and_eq_true] at h ⊢;rw [qp hn (oi h.1)] at h;exact⟨oj hn h.1,by simp_all⟩
  | pointer e=>
   right
   simp only [hu];simp only [Bool.and_eq_true] at h ⊢;exact⟨oj hn h.1,by simp_all⟩
  | slice e=>
   right
   simp only [hu];simp only [Bool.and_eq_true] at h ⊢;exact⟨oj hn h.1,by simp_all⟩
  | tuple e=>left;simp [isVar,hu,kindOk]
  | invalid=>left;simp [isVar,hu,kindOk]
  | named a e=>left;simp [isVar,hu,kindOk]
  | _=>
   right
   simp only [hu];rw [beq_iff_eq];exact Nat.eq_of_beq_eq_true h
def Ca(f:Nat→Bool):Nat→Bool
 | 0=>true
 | n+1=>f n && Ca f n
theorem nE{f g:Nat→Bool}:∀(n:Nat),Ca f n=true→(∀t,t<n→f t=true→g t=true)→(List.range n).all g=true
 | 0,_,_=>by simp
 | n+1,h,e=>by
  simp only [Ca,Bool.and_eq_true] at h;rw [List.range_succ,List.all_append,nE n h.2 fun t ht=>e t (by omega)]
  simp [e n (by omega) h.1]
theorem HR{P:Program}{N n:Nat}(e:P.types.size=N) (hn:Nat.ble N (n*32)=true) (h:Ca (Rk (blocks n P.types.toList) N) N=true):(List.range P.types.size).all (rowFine P)=true:=by
 subst e
 exact nE _ h fun t hl ht=>HQ (Nat.le_of_ble_eq_true hn) hl ht
theorem ET{P:Program}{N n:Nat}(e:P.types.size=N) (hn:Nat.ble N (n*32)=true) (h:Ca (ED (blocks n P.types.toList) N) N=true):mapsRowed P=true:=by
 subst e
 unfold mapsRowed
 refine nE _ h fun t hl ht=>?_
 unfold ED at ht
 cases hr:rootOf (blocks n P.types.toList) t with
 | none=>rw [hr] at ht;cases ht
 | some d=>
  have hu:=rL (Nat.le_of_ble_eq_true hn) hr
  grind [Nat.le_of_ble_eq_true]
theorem EU{P:Program}{N:Nat}(e:P.types.size=N) (h:P.globals.toList.all (fun g=>Nat.ble (g.type+1) N)=true):P.globals.all (fun g=>decide (g.type<P.types.size))=true:=by grind [Nat.le_of_ble_eq_true]
theorem HS{P:Program}{N:Nat}(e:P.types.size=N) (h:P.funcs.toList.all (fun f=>f.params.toList.all fun t=>Nat.ble (t+1) N)=true):P.funcs.all (fun f=>f.params.all fun t=>decide (t<P.types.size))=true:=by grind [Nat.le_of_ble_eq_true]
theorem Ki{P:Program}(h1:(List.range P.types.size).all (rowFine P)=true) (e:P.globals.all (fun g=>decide (g.type<P.types.size))=true) (B:P.funcs.all (fun f=>f.params.all fun t=>decide (t<P.types.size))=true):laidOutB P=true:=by grind [laidOutB]
theorem both{a b:Bool}(e:a=true) (hb:b=true):(a && b)=true:=by rw [e,hb];rfl
end Go.Rc

namespace Go.Rc
open Go
theorem EV{P:Program}{N n:Nat}(e:P.funcs.size=N) (hn:Nat.ble N (n*32)=true) (g:FuncId):P.funcs[g]?=pick (blocks n P.funcs.toList) g:=by
 subst e;rw [kM n _ g (by simpa using Nat.le_of_ble_eq_true hn),Array.getElem?_toList]
def Kj(name:String):Nat→List Func→List Nat
 | _,[]=>[]
 | k,f::r=>match f.name == name with
  | true=>k::Kj name (k+1) r
  | false=>Kj name (k+1) r
theorem GN(name:String):∀(l:List Func) (k:Nat),Kj name k l=((List.range l.length).filter fun i=>(l[i]?).any (·.name == name)).map (· + k)
 | [],_=>rfl
 | f::r,k=>by
  have h:=GN name r (k+1);rw [List.length_cons,List.range_succ_eq_map,List.filter_cons,List.filter_map,List.getElem?_cons_zero]
  have e:((fun i=>((f::r)[i]?).any (·.name == name))∘Nat.succ)=fun i=>(r[i]?).any (·.name == name):=by
   funext i
   simp
  rw [e]
  have m:∀q:List Nat,(q.map Nat.succ).map (· + k)=q.map (· + (k+1)):=by
   intro q;rw [List.map_map]
   congr 1
   funext x
   show x.succ+k=x+(k+1)
   omega
  unfold Kj
  cases hb:f.name == name with
  | true=>simp only [Option.any_some,hb,if_true,List.map_cons,Nat.zero_add,m,h]
  | false=>simp only [Option.any_some,hb,Bool.false_eq_true,if_false,m,h]
theorem nF(P:Program) (name:String):P.funcNamed name=match Kj name 0 P.funcs.toList with | [i]=>some i | _=>none:=by
 unfold Program.funcNamed
 rw [GN];simp only [Nat.add_zero,List.map_id',Array.length_toList,Array.getElem?_toList]
 generalize (List.range P.funcs.size).filter (fun i=>(P.funcs[i]?).any (·.name == name))=q
 rcases q with _ | ⟨a,_ | ⟨b,r⟩⟩ <;> rfl
theorem nG(P:Program) (word:String):P.worded word=P.funcs.toList.any fun fn=>fn.body.isNone && fn.name == word:=by
 unfold Program.worded
 rw [Array.any_toList]
theorem uX(P:Program):P.laysLater=P.funcs.toList.any fun fn=>fn.body.isNone && (fn.name == "runtime.SetFinalizer" || fn.name == "runtime.AddCleanup" || fn.origin == "runtime.AddCleanup"):=by
 unfold Program.laysLater
 rw [Array.any_toList]
theorem tu(P:Program):P.stopsHeard=P.funcs.toList.all fun fn=>(Stop.rowOf fn).isNone || !fn.norace:=by
 unfold Program.stopsHeard
 rw [Array.all_toList]
def qu:List (String × DataW Unit)→List (String × DataW Unit)→Bool
 | [],[]=>true
 | (n,a)::r,(m,b)::s=>n == m && DataW.same a b && qu r s
 | _,_=>false
theorem sL:∀(l m:List (String × DataW Unit)),qu l m=true→l=m
 | [],[],_=>rfl
 | (n,a)::r,(k,b)::s,h=>by
  simp only [qu,Bool.and_eq_true,beq_iff_eq] at h;rw [h.1.1,DataW.same_eq a b h.1.2,sL r s h.2]
 | [],_::_,h=>by cases h
 | _::_,[],h=>by cases h
theorem Nf{P:Program}{n fuel M:Nat}{laid:List (String × DataW Unit)}{os:Os}{tape:Tape}{g:FuncId}(B:varsId P=g) (he:funcsListed laid=[])
  (h:(match runN P n (Machine.entering P (World.unlaid P os) tape g ⟨#[],#[],[]⟩) with
   | .ended (.done _) w=>(DataW.laidRun P w.memory fuel ((laid.filter fun x=>x.2.handleName?.isNone).map (·.1))).any fun x=>nodupBits M x.2 0 && laidRowsB P w.memory x.2 && (laid.filter fun x=>x.2.handleName?.isSome && x.2.funcsIn?.isNone).all (handleAtB P w.memory) && qu x.1 (laid.filter fun x=>x.2.handleName?.isNone)
   | _=>false)=true):doorLeaves P n fuel M laid os tape=some (laid.filter fun x=>x.2.handleName?.isNone,(funcsListed laid).map (·.2.funcsOut)):=by
 unfold doorLeaves
 rw [B]
 split at h
 ·
  rename_i v w hr
  rw [hr]
  simp only
  cases t:DataW.laidRun P w.memory fuel ((laid.filter fun x=>x.2.handleName?.isNone).map (·.1)) with
  | none=>rw [t] at h;cases h
  | some x=>
   rw [t] at h;simp only [Option.any_some,Bool.and_eq_true] at h;obtain⟨⟨⟨h1,C⟩,D⟩,F⟩:=h;have e:=sL _ _ F;rw [he];simp only [Option.bind_some,h1,C,D,Bool.and_self,if_true,List.map_nil,funcsRun,Option.map_some,← e]
 cases h
end Go.Rc

namespace Go.Rc
open Go
theorem x9:∀l:List Int,(l.map fun z=>[Value.int .i64 z]).flatten=l.map (Value.int .i64)
 | []=>rfl
 | x::r=>by rw [List.map_cons,List.map_cons,List.flatten_cons,x9 r];rfl
theorem Ng{H:Type}{enc:TypeId × Value→H}{P:Program}{w:World}{r:Reach}{base:Nat}{t e:TypeId}{fuel n c:Nat}{a:Option Addr}{d:DataW H}{p:List MemPlace}(ht:P.underlying t=some (.slice e)) (k1:P.cellsOf e=1) (b1:1≤P.bytesOf e) (he:P.underlying e=some (.int .i64))
  (G:Value.okWide P w r base t (.slice a n c)) (h:DataW.trod enc P w 0 (fun _=>true) true fuel t [.slice a n c]=some (d,p)) (hl:Kf P t d):∃l:List Int,Rd RR.int 1 (fun b=>b<w.heap.size) w a n c l:=by
 obtain⟨l,B⟩:=MY (R:=fun(z:Int) r=>r=[Value.int .i64 z]) ht k1 (Nat.le_refl _) b1 (fun m cs d p hm W _=>by
  obtain⟨z,rfl,_,_⟩:=DataW.trod_int he hm;exact⟨z,rfl⟩) h hl
 refine⟨l,B.len,l.map fun z=>[Value.int .i64 z],by simp,fun r hr=>?_,?_,fun i x r O hr=>?_⟩
 ·
  obtain⟨z,_,rfl⟩:=List.mem_map.1 hr
  rfl
 ·
  rw [x9];refine⟨by simp [B.len],B.le,fun u hu=>?_,?_⟩
  ·
   obtain⟨z,_,rfl⟩:=List.mem_map.1 hu
   rfl
  rcases Deep.open_slice ht h with⟨hc,_⟩ | ⟨q,len,cap,m,X,D,Y,hc,_,hle,Q,_⟩
  ·
   simp only [List.cons.injEq,Value.slice.injEq,and_true] at hc;exact .inl hc
  simp only [List.cons.injEq,Value.slice.injEq,and_true] at hc;obtain⟨rfl,rfl,rfl⟩:=hc
  have C:q.spot=none∧q.block<w.heap.size:=by
   simp only [Value.okWide,ht,Cell.okWide,Cell.ok] at G;obtain⟨_,_,_,S,row,cells,F,_⟩:=G;refine⟨S,?_⟩
   unfold World.shape? at F
   split at F
   ·
    rename_i V
    exact(Array.getElem?_eq_some_iff.1 V).1
   cases F
  obtain⟨b,o,s⟩:=q;obtain⟨I,hb⟩:=C;simp only at I hb;subst I;refine .inr ⟨b,o,rfl,hle,Q,hb,hb,fun j v J=>?_⟩;rw [List.getElem?_map] at J;obtain⟨z,C,rfl⟩:=Option.map_eq_some_iff.1 J;obtain⟨b',o',r',e1,_,rfl,hr,_⟩:=B.at_ C;simp only [Option.some.injEq,Addr.mk.injEq,and_true] at e1;obtain⟨rfl,rfl⟩:=e1
  have:=hr 0 _ rfl
  simpa using this
 rw [List.getElem?_map,O] at hr;exact(Option.some.inj hr).symm
end Go.Rc

