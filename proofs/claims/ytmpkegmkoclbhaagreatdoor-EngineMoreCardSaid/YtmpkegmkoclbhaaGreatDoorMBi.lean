/- Base of the proof: frames, memory, ownership, and the plain meaning of rule systems. Conditions: as each lemma says. -/
import Derived.Test.YtmpkegmkoclbhaaGreatDoorMBh
import Derived.Test.YtmpkegmkoclbhaaGreatDoorMBf
import Derived.Test.YtmpkegmkoclbhaaGreatDoorMBg
import Derived.Test.YtmpkegmkoclbhaaGreatDoorMBe
import Derived.Deep.Slices
import Derived.SizedLaws
import Derived.Lib.LaidU8
import Derived.Lib.LaidTab
import Derived.LaidLaws
import GoSem.ClaimFn
import Derived.JoinedOf
import Derived.LaidOnce
import Derived.TwinInFollowed
import Derived.WideShapes
set_option linter.all false
namespace Go.Rc
open Go
def Rec.y9(x:Rec × RL):List Value:=x.1.row x.2.a x.2.n x.2.c
def RR.EH:RR (Rec × RL):=RR.flat Rec.y9
theorem Rec.Rg(x:Rec × RL):∀u∈Rec.y9 x,u.oneCell'=true:=by simp [Rec.y9,Rec.row,Value.oneCell']
def rK(L:List (Rec × RL)):FZ:=
 ⟨fun Z w=>∀y∈L,Rd RR.key 2 Z w y.2.a y.2.n y.2.c y.1.reads∧y.1.reads.length≤4000,fun hZ h y hy=>⟨(h y hy).1.mono hZ,(h y hy).2⟩,fun h1 h2 h y hy=>⟨(h y hy).1.st h1 h2,(h y hy).2⟩⟩
section
variable {L L':List (Rec × RL)}{r:Rec}{q:RL}{Z:Nat→Prop}{w:World}{l:List Rec}{lf:Key→RL}{eH left:List (Key × Value)}{p:Key × Value}{j:Nat}
theorem rK.nil:(rK []).p Z w:=fun y hy=>by cases hy
theorem rK.snoc(h:(rK L).p Z w) (hk:Rd RR.key 2 Z w q.a q.n q.c r.reads) (e:r.reads.length≤4000):(rK (L++[(r,q)])).p Z w:=fun y hy=>by
 rcases List.mem_append.1 hy with hy | hy
 ·
  exact h y hy
 grind
theorem rK.ei{E n c:Nat}{a:Option Addr}(h:Ow RR.EH E 8 Z w a n c L) (t:(rK L).p Z w):Ow RR.ei E 8 Z w a n c (L.map Prod.fst):=by
 obtain⟨hn,rows,hl,hk,h1,B⟩:=h;refine⟨by rw [hn,List.length_map],rows,by rw [hl,List.length_map],hk,h1,fun i x r e C=>?_⟩;rw [List.getElem?_map] at e;obtain⟨y,hy,rfl⟩:=Option.map_eq_some_iff.1 e;have hr:r=Rec.y9 y:=B i y r hy C;obtain⟨D,F⟩:=t y (List.mem_of_getElem? hy);exact⟨_,_,_,hr,D,F⟩
theorem uV{α:Type}:∀(l:List α) (j:Nat) (h:j<l.length),(l[j]::l.eraseIdx j).Perm l
 | x::r,0,_=>List.Perm.refl _
 | x::r,j+1,h=>by
  have h1:=uV r j (by simpa using h);simp only [List.getElem_cons_succ,List.eraseIdx_cons_succ];exact(List.Perm.swap _ _ _).trans (h1.cons x)
structure J3 (l:List Rec) (eH left:List (Key × Value)) (L:List (Rec × RL)):Prop where
 perm:((L.map fun y=>y.1.key)++left.map (·.1)).Perm (eH.map (·.1))
 find:∀y∈L,aA l y.1.key=some y.1
theorem J3.start:J3 l eH eH []:=⟨List.Perm.refl _,fun y hy=>by cases hy⟩
theorem J3.next(h:J3 l eH left L) (t:left[j]?=some p) (e:aA l p.1=some r):J3 l eH (left.eraseIdx j) (L++[(r,q)]):=by
 have hk:r.key=p.1:=(aJ e).2;refine⟨List.Perm.trans ?_ h.perm,fun y hy=>?_⟩
 ·
  grind [uV]
 rcases List.mem_append.1 hy with hy | hy
 ·
  exact h.find y hy
 grind
theorem dw.key(h:dw l lf eH) {k:Key}:k∈eH.map (·.1)↔∃r,aA l k=some r:=by
 have h1:=h k
 constructor
 ·
  intro hk
  cases e:aA l k with
  | some r=>exact⟨r,rfl⟩
  | none=>grind [lD]
 rintro⟨r,hr⟩;refine Classical.byContradiction fun hk=>?_
 grind [lD]
theorem J3.done(h:J3 l eH [] L) (C:dw l lf eH) (hn:(eH.map (·.1)).Nodup) (e:pT l) (t:L'.Perm L) (Q:L'.Pairwise fun x y=>¬bC y.1.key x.1.key<0):L'.map Prod.fst=l:=by
 have h1:(L.map fun y=>y.1.key).Perm (eH.map (·.1)):=by simpa using h.perm
 have B:(L'.map fun y=>y.1.key).Perm (eH.map (·.1)):=(t.map _).trans h1;have D:wF (L'.map fun y=>y.1.key):=yV (List.Perm.refl _) (B.nodup_iff.2 hn) (by grind)
 have F:wF (l.map (·.key)):=by
  unfold wF
  rw [List.pairwise_map];exact e
 have S:(L'.map fun y=>y.1.key)=l.map (·.key):=uH D F fun x=>by
  rw [B.mem_iff,C.key]
  constructor
  ·
   rintro⟨r,hr⟩;obtain⟨g1,g2⟩:=aJ hr
   grind
  intro G;obtain⟨r,hr,rfl⟩:=List.mem_map.1 G;exact⟨r,ib e hr⟩
 have I:(L'.map Prod.fst).map (fun r=>aD l r.key)=l.map fun r=>aD l r.key:=by
  have e1:(L'.map Prod.fst).map (fun r=>aD l r.key)=(L'.map fun y=>y.1.key).map (aD l):=by rw [List.map_map,List.map_map];rfl
  simp_all
 have J:(L'.map Prod.fst).map (fun r=>aD l r.key)=L'.map Prod.fst:=by
  rw [List.map_map];refine List.map_congr_left fun y hy=>?_;exact aQ (h.find y (t.mem_iff.1 hy))
 have O:(l.map fun r=>aD l r.key)=l:=by
  conv=>rhs;rw [← List.map_id l]
  exact List.map_congr_left fun r hr=>aQ (ib e hr)
 rw [← J,I,O]
theorem J3.len(h:J3 l eH left L) (e:dw l lf eH) (hn:(eH.map (·.1)).Nodup):L.length+left.length≤l.length:=by
 have h1:=h.perm.length_eq;have t:=e.len hn
 simp at h1
 omega
end
end Go.Rc

namespace Go.Rc
open Go
section
variable {w0 w:World}{M Z:Nat→Prop}{l:List As}
theorem St.g16{t B A2 C D F G I J O Q S V W X Y e:As}(h:St w0 M Z w (t::B::A2::C::D::F::G::I::J::O::Q::S::V::W::X::Y::e::l)):e.ok Z w:=h.ok _ (by simp)
theorem St.g19{t B A2 C D F G I J O Q S V W X Y A16 A17 A18 e:As}(h:St w0 M Z w (t::B::A2::C::D::F::G::I::J::O::Q::S::V::W::X::Y::A16::A17::A18::e::l)):e.ok Z w:=h.ok _ (by simp)
end
section
variable {α:Type}{R:RR α}{P:Program}{E k n c b i:Nat}{a:Option Addr}{xs:List α}{Z:Nat→Prop}{w:World}
variable {N:Nat}{kv:KV}{K:KV→World→Prop}{ty:TypeId}{pos:String}{af:Array Edge}{g:Option (Nat × Bool)}{T:TypeId}
end
section
variable {p:Rec→Bool}{xs xs1:List Rec}{i j:Nat}{x:Rec}
end
theorem uB.kr{aa:List aG}{x:cm}(h:uB aa x):KR aa x.ah:=fun r hr=>by
 obtain⟨h1,e,t,_⟩:=h.2.2.2.2.2.1 r hr;exact⟨h1,e,t⟩
theorem uB.r4{aa:List aG}{x:cm}(h:uB aa x):∀r∈x.ah,r.reads.length≤4000:=fun r hr=>by
 obtain⟨_,_,_,e⟩:=h.2.2.2.2.2.1 r hr
 grind [fm]
section
variable {aa:List aG}{x:cm}{s:ES}
end
section
variable {aa:List aG}{x y:cm}{s:ES}{kp:List (List Key)}{l:List Key}
end
end Go.Rc

namespace Go.Rc
open Go
section
variable {aa:List aG}{x y:cm}{bj:List Key}{k:Key}{r:Rec}
end
end Go.Rc

namespace Go.Rc
open Go
section
variable {val:Key→ByteArray}{x:cm}{i:Nat}{k:Key}{o:List Key}
end
end Go.Rc
namespace Go.Rc
open Go
end Go.Rc

namespace Go.Rc
open Go
section
variable {aa:List aG}{H:Int→List cv}{x b b':cm}{p q l l':List br}{f g:br}{bj rk goals:List Key}{k y:Key}{val:Key→ByteArray}{er:Int}
theorem x8{turn:List ByteArray→yE}{gL:Key→ByteArray}(h:∀k,(gL k).size≤1000):∀n,∀s∈(dT turn gL n).2,s.size≤1000
 | 0,s,e=>by simp [dT] at e
 | n+1,s,e=>by
  simp only [dT,List.mem_append,List.mem_singleton] at e
  rcases e with e | rfl
  ·
   exact x8 h n s e
  exact h _
theorem ft.ready(hR:aq aa) (D:LC aa x) (hk:∀k∈goals,dX aa k) (h:ft aa (valOf aa x.ab) goals x b l bj):BK aa x.ab x.ad b∧KR aa b.ah∧l.length≤1000∧bj.length≤100000∧b.ah.length<4000∧(∀r∈b.ah,r.reads.length≤4000)∧(∀r∈b.ah,r.av≤x.ad)∧bj.Nodup∧pT b.ah∧∀f∈l,fo aa f∧(∃i:Nat,i<aa.length∧f.key=aL aa (i:Int))∧∀s∈f.ae,s.size≤1000:=by
 obtain⟨⟨H,t⟩,F,O⟩:=h.inv hR D hk;have W:=hR.1;have B:=(D.lb.of F).JE;have hlen:=t.bi.len
 have X:bj.length≤b.ah.length:=by
  have:=eK t.wy.j5 (S:=b.ah.map (·.key)) fun y hy=>by
   obtain⟨r,hr,_⟩:=aR.1 (t.wy.Lz y hy);obtain⟨g1,g2⟩:=aJ hr
   grind
  simpa using this
 refine⟨F,B.kr,by have:=t.EG;omega,by omega,by omega,B.r4,fun r hr=>by rw [← F.rv];exact B.2.2.2.2.2.2.2.2 r hr,t.wy.j5,B.2.2.2.2.2.2.1,fun f G=>⟨O f G,t.eX G,fun s C=>?_⟩⟩;obtain⟨p1,q1,Q⟩:=List.append_of_mem G;have I:=t.fr p1 f q1 Q;obtain⟨i,hi,V⟩:=I.key
 cases J:f.running with
 | false=>
  rw [(I.Bz J).2.1] at C
  cases C
 | true=>
  obtain⟨n,_,_,e⟩:=(I.run J).2.2.2.1 i hi V;rw [e] at C;exact x8 (D.lb.small hR) n s C
theorem ft.done(hR:aq aa) (D:LC aa x) (hk:∀k∈goals,dX aa k) (h:ft aa (valOf aa x.ab) goals x b [] bj):LC aa b∧b.ab=x.ab∧b.ad=x.ad∧Wy aa x ⟨b,[],bj,0⟩∧∀r∈b.ah,r.av=b.ad→r.value=valOf aa x.ab r.key:=by
 obtain⟨⟨H,B⟩,C,O⟩:=h.inv hR D hk;have hi:b.ab=x.ab:=C.fH.aC;have F:TO aa x ⟨aa,b,[],[],bj⟩:=⟨H,B⟩;have G:=D.task (t:=⟨aa,b,[],[],bj⟩) C F
 have e:eI ([]:List br) b.ah=b.ah:=by simp [eI]
 have I:LC aa b:=by
  have:=G
  rw [show(⟨aa,b,[],[],bj⟩:qo).stack=[] from rfl,show(⟨aa,b,[],[],bj⟩:qo).base=b from rfl,e] at this;exact this
 refine⟨I,hi,C.rv,B.wy,fun r hr J=>?_⟩
 have:=(B.bi.c.vr r hr)
 rw [J,B.bi.c.now,hi] at this;exact this.1
theorem ft.taken(h:ft aa val goals x b [] bj) (e:k∈goals):ft aa val goals x b ((if cM b [] k=true then [((⟨k,false,0,[],[]⟩:br),(⟨none,0,0,none,0,0⟩:eB))] else []).map Prod.fst) bj:=by
 split
 ·
  exact .take h e ‹_›
 exact h
theorem HI:ay k=true∨az b k=true∨∃g q,(if cM b [] k=true then [((⟨k,false,0,[],[]⟩:br),(⟨none,0,0,none,0,0⟩:eB))] else []).map Prod.fst=g::q∧g.key=k:=by
 by_cases hn:cM b [] k=true
 ·
  simp_all
 grind [gS,gi]
theorem MK{L:List (br × eB)}(h:0<L.length):∃e f A,L=e++[(f,A)]:=by
 rcases List.eq_nil_or_concat L with rfl | ⟨e,y,rfl⟩
 ·
  simp at h
 grind
theorem ML{i:Nat}(hi:i<goals.length) (h:∀y∈goals.take i,ay y=true∨az b y=true) (hb:ay goals[i]=true∨az b goals[i]=true∨∃g q,([]:List (br × eB)).map Prod.fst=g::q∧g.key=goals[i]):∀y∈goals.take (i+1),ay y=true∨az b y=true:=by grind [List.take_succ_eq_append_getElem]
end
section
variable {EK ES:Nat}{w0 w:World}{M Z:Nat→Prop}{l:List As}{k:Key}{c:Bool}
theorem St.Rh(h:St w0 M Z w l):St w0 M Z w (As.many (x5 EK ES (if c=true then [((⟨k,false,0,[],[]⟩:br),(⟨none,0,0,none,0,0⟩:eB))] else []))::l):=by
 have h0:St w0 M Z w (As.many (x5 EK ES [])::l):=h.OJ
 split
 ·
  exact h0.JV (L:=[]) rfl rfl
 exact h0
end
end Go.Rc

namespace Go.Rc
open Go
def r3:aG:=⟨false,[],1,3⟩
abbrev K0:Key:=⟨31,itoa ((0:Nat):Int)⟩
abbrev v3:ByteArray:=itoa 3
theorem Ri:∀y∈[r3],Mo y:=fun y hy=>by simp at hy;subst hy;exact⟨rfl,rfl,rfl,by decide,by decide⟩
theorem Wl:aL [r3] ((0:Nat):Int)=K0:=Mo.key (by simp) (by omega) (Ri _ (by simp))
theorem MM:jz ⟨0,[],[]⟩:=⟨fun i y h=>by simp at h,fun i r h=>by simp at h,by decide,by decide,by simp,by simp,fun i x h=>by simp at h⟩
abbrev s1:ES:=⟨⟨0,[],[QN 0 v3]⟩,[],[K0],0⟩
end Go.Rc
namespace Go.Rc
open Go
abbrev v4:ByteArray:=⟨#[52]⟩
end Go.Rc

namespace Go.Rc
open Go
section
variable {P:Program}{kv:KV}{w:World}{T U ty:TypeId}{x y:Operand}
end
end Go.Rc
namespace Go.Rc
open Go
end Go.Rc

namespace Go.Rc
open Go
theorem uN{v:ByteArray}:∀k∈[K0],∃i:Nat,i < [r3].length∧k=aL [r3] (i:Int)∧(aA (⟨0,[],[QN 0 v]⟩:cm).ah k).isSome=true:=fun k hk=>⟨0,by simp,by rw [List.mem_singleton.1 hk];exact Wl.symm,by grind [aA,QN]⟩
end Go.Rc

namespace Go.Rc
open Go
abbrev q0:aG:=⟨false,[⟨true,false,0,0⟩],1,0⟩
abbrev q1:aG:=⟨false,[⟨false,false,0,0⟩],1,0⟩
abbrev Q2:List aG:=[q0,q1]
abbrev K1:Key:=⟨31,itoa ((1:Nat):Int)⟩
abbrev C0:Key:=bZ ((0:Nat):Int)
theorem Wm:C0=⟨30,⟨#[48]⟩⟩:=by simp [bZ,itoa,Lib.itoa,Lib.decDigits]
theorem J4:K0=⟨31,⟨#[48]⟩⟩:=by simp [itoa,Lib.itoa,Lib.decDigits]
theorem OU:K1=⟨31,⟨#[49]⟩⟩:=by simp [itoa,Lib.itoa,Lib.decDigits]
theorem Wn:aq Q2:=by
 refine⟨by simp,fun i r h=>?_⟩
 have hi:i=0∨i=1:=by have:=(List.getElem?_eq_some_iff.1 h).1;simp at this;omega
 rcases hi with rfl | rfl
 ·
  simp at h;subst h
  refine⟨by simp,fun k x e=>?_,rfl⟩
  have hk:k=0:=by have:=(List.getElem?_eq_some_iff.1 e).1;simp at this;omega
  subst hk;simp at e;subst e;decide
 simp at h;subst h
 refine⟨by simp,fun k x e=>?_,rfl⟩
 have hk:k=0:=by have:=(List.getElem?_eq_some_iff.1 e).1;simp at this;omega
 subst hk;simp at e;subst e;decide
theorem GI:aL Q2 ((0:Nat):Int)=K0:=by
 unfold aL
 rw [if_neg (by simp)]
 simp [aF]
theorem zc:number K0=((0:Nat):Int):=by rw [← GI];exact ck (by simp) (by omega)
theorem t0a:cx Q2 K0 []=⟨false,⟨#[]⟩,C0⟩:=by
 rw [jb (i:=0) zc (by simp) (by rw [zc];exact GI) (by simp)]
 rfl
theorem t0b(v:ByteArray):cx Q2 K0 [v]=⟨true,itoa (dp 1 0 [cD v]),eR⟩:=by
 rw [j9 (i:=0) zc (by simp) (by rw [zc];exact GI) (by simp)]
 rfl
abbrev z0:ByteArray:=⟨#[48]⟩
abbrev z5:ByteArray:=⟨#[53]⟩
theorem it5:itoa ((5:Nat):Int)=z5:=by simp [itoa,Lib.itoa,Lib.decDigits]
theorem fv(v:ByteArray) (n:Nat) (h:cD v=n) (hn:n<1000):itoa (dp 1 0 [cD v])=itoa n:=by
 rw [h];simp [dp,qc,Nat.mod_eq_of_lt hn]
theorem vs5:cD z5=5:=by decide
theorem vsE:cD ⟨#[]⟩=0:=by decide
theorem Wo{aC:List cv}{n:Nat}(h:cD (cellOf aC C0)=n) (hn:n<1000):valOf Q2 aC K0=itoa n:=by
 have e:=fF (aC:=aC) Wn (i:=0) (by simp);rw [show cJ Q2 0=1 from rfl,GI] at e;simp only [dT,List.nil_append] at e;rw [t0a,t0b,nq (by omega),fv _ n h hn] at e
 injection e with _ e2 _
 exact e2.symm
abbrev HJ(i:Nat) (a:Key):Rec:=⟨⟨31,itoa (i:Int)⟩,z0,[a],0,0,2,false⟩
theorem Wp:ay C0=true:=bp (n:=0) (by omega)
theorem HK:ay K0=false:=rfl
theorem J5:ay K1=false:=rfl
theorem ac1:(K0 == K1)=false:=by rw [J4,OU];decide
section
variable {aa:List aG}{val:Key→ByteArray}{k c:Key}{z u:ByteArray}{s s':ES}{rs:List Key}{an:List ByteArray}{f:Nat}
end
end Go.Rc

namespace Go.Rc
open Go
section
variable {val:Key→ByteArray}{x:cm}{k a:Key}{r:Rec}
theorem B9(hc:ax k=false) (hi:ay k=false) (e:aA x.ah k=some r) (hd:r.bA=false) (hr:r.reads=[a]) (t:a≠k) (B:r.av≠x.ad) (C:r.av<aV val x a):MB val x k=(2,a):=by
 have hu:az x k=false:=by unfold az;rw [e,aQ e];simp [B]
 have D:bR x.ah (aB x.ah x.ad k)=[⟨k,a⟩]:=by
  rw [gR hc]
  simp [bR,cT,aQ e,hr,t]
 unfold MB
 rw [hi,hu,e,D]
 have F:JO val x ⟨k,a⟩=true:=by unfold JO;rw [aQ e];exact decide_eq_true C
 simp [hd,F]
end
abbrev iQ:List cv:=[⟨C0,z5,1⟩]
abbrev yQ:cm:=⟨1,iQ,[HJ 0 C0,HJ 1 K0]⟩
theorem Wq:C0≠K0:=by rw [Wm,J4];decide
theorem Wr:K0≠K1:=by rw [J4,OU];decide
theorem fC:bz iQ C0=⟨C0,z5,1⟩:=by unfold bz;rw [List.find?_cons];simp
theorem v0:valOf Q2 iQ K0=z5:=by rw [Wo (n:=5) (by unfold cellOf;rw [fC];exact vs5) (by omega),it5]
theorem f0:aA yQ.ah K0=some (HJ 0 C0):=by simp [aA]
theorem f1:aA yQ.ah K1=some (HJ 1 K0):=by simp only [aA,List.find?_cons];rw [show((HJ 0 C0).key == K1)=false from ac1,show((HJ 1 K0).key == K1)=true from beq_self_eq_true K1]
theorem cC:aV (valOf Q2 iQ) yQ C0=1:=by unfold aV;rw [if_pos Wp,fC]
theorem cK:aV (valOf Q2 iQ) yQ K0=1:=by
 unfold aV
 rw [if_neg (by rw [HK];simp),if_neg];rw [aQ f0,v0]
 simp
theorem ac2:MB (valOf Q2 iQ) yQ K1=(2,K0):=B9 rfl rfl f1 rfl rfl Wr (by decide) (by rw [cK];decide)
theorem ac3:MB (valOf Q2 iQ) yQ K0=(2,C0):=B9 rfl rfl f0 rfl rfl Wq (by decide) (by rw [cC];decide)
theorem smQ:∀c∈[(⟨C0,z5⟩:Change)],c.small:=fun c hc=>by
 rw [List.mem_singleton.1 hc];exact⟨⟨0,by omega,by omega,rfl⟩,by decide⟩
end Go.Rc

namespace Go.Rc
open Go
section
variable {P:Program}{T:TypeId}
theorem MN{B C:TypeId}{f0 f1:Field}(hu:P.underlying T=some (.struct #[f0,f1])) (F:f0.type=B) (G:f1.type=C) (I:f0.offset=0) (J:f1.offset=1) (S:f0.name≠ "_") (V:f1.name≠ "_")
  (h0:P.underlying B=some (.int .i64)) (h1:P.underlying C=some .string) (a0:∀w,(isAgg B).run P w=.ok false w) (a1:∀w,(isAgg C).run P w=.ok false w)
  (O:P.stoodInHeld T=false) (n:Nat) (a b:Int) (s t:ByteArray) (w:World):(Op.equalIn (n+2) T (.agg #[.int .i64 a,.string s]) (.agg #[.int .i64 b,.string t])).run P w=.ok (decide (a=b) && decide (s=t)) w:=by
 subst F G
 have D:P.fieldsOf T=#[f0,f1]:=by simp [Program.fieldsOf,hu]
 rw [run_equalIn_struct (P:=P) w (n+1) T _ _ (by rw [D];exact hu) O,D]
 have e:(s.toList == t.toList)=decide (s=t):=by
  by_cases e:s=t
  ·
   simp [e]
  grind [ByteArray.ext,Array.toList_inj,ByteArray.toList_eq]
 have e2:(a == b)=decide (a=b):=by by_cases h:a=b <;> simp [h]
 have r0:=run_equalIn_int (P:=P) w n f0.type .i64 .i64 a b h0;have r1:=run_equalIn_string (P:=P) w n f1.type s t h1;rw [e2] at r0;rw [e] at r1;simp only [Op.eqFields,I,J,part,Sem.run_bind,a0,a1,Result.andThen_ok]
 by_cases Q:a=b
 ·
  subst Q
  by_cases W:s=t
  ·
   simp_all
  simp_all
 simp_all
variable {kv:KV}{w:World}{ty:TypeId}
end
end Go.Rc

namespace Go.Rc
open Go
section
variable {aa:List aG}{H:Int→List cv}{x b b':cm}{p q l l':List br}{f g:br}{bj rk goals:List Key}{k y a:Key}{val:Key→ByteArray}{er:Int}
theorem fV.pop(h:fV (p++[f]) b a) (hu:∀y,az b y=true→az b' y=true) (e:az b' f.key=true):fV p b' a:=by
 rcases h with h | ⟨h1,t⟩ | h
 ·
  exact .inl h
 ·
  rw [fJ,kK,Bool.or_eq_true,decide_eq_true_eq] at h1
  rcases h1 with h1 | rfl
  ·
   exact .inr (.inl ⟨h1,t⟩)
  exact .inr (.inr e)
 exact .inr (.inr (hu _ h))
theorem fV.up(h:fV l b a) (hu:∀y,az b y=true→az b' y=true) (e:∀y,gi l y=true→gi l' y=true):fV l' b' a:=
 h.imp id (Or.imp (fun⟨h1,t⟩=>⟨e _ h1,t⟩) (hu _))
theorem FS.there(e:FS aa val b p f b' l' rk er) (h:fV (p++[f]) b a):fV l' b' a:=by
 have hu:∀y,az b y=true→az b' y=true:=fun y hy=>e.Q9 hy
 have same:∀{z:br},z.key=f.key→∀y,gi (p++[f]) y=true→gi (p++[z]) y=true:=fun {z} t y hy=>by grind [fJ,kK]
 have more:∀{z:br},∀y,gi (p++[f]) y=true→gi (p++[f]++[z]) y=true:=fun {z} y hy=>by rw [fJ,hy];rfl
 cases e with
 | put=>exact h.pop hu (jg (r:=bF b f.key (aH aa f.key f.ae).value f.reads) rfl)
 | up _ wH=>exact h.pop hu wH
 | mark _ hl=>
  obtain⟨r,h1,_⟩:=hl;exact h.pop hu (gZ (by rw [h1];rfl) fq)
 | push=>exact h.up hu more
 | sK=>exact h.up hu more
 | stay=>exact h
 | full=>exact h
 | QM=>exact h
 | My=>exact h
 | read=>exact h.up hu (same rfl)
 | start=>exact h.up hu (same rfl)
 | pass=>exact h.up hu (same rfl)
 | fail=>exact h.up hu (same rfl)
theorem pD{G:List Key}{d:Bool}{rev:Int}{l:List Rec}:(aD (l.map (a7 rev G d)) y).reads=(aD l y).reads∧(aD (l.map (a7 rev G d)) y).value=(aD l y).value:=by
 unfold aD
 rw [bY]
 cases aA l y with
 | none=>exact⟨rfl,rfl⟩
 | some r=>grind [a7]
theorem FS.reads(t:FS aa val b p f b' l' rk er) (B:f.running=true→az b f.key=false) (hy:az b y=true):(aD b'.ah y).reads=(aD b.ah y).reads:=by
 cases t with
 | put hr=>
  have h1:=B hr
  have C:¬y=(bF b f.key (aH aa f.key f.ae).value f.reads).key:=fun e=>by
   have e:y=f.key:=e;rw [e,h1] at hy;cases hy
  unfold aD
  rw [cN,if_neg C]
 | mark=>exact pD.1
 | fail=>
  split
  ·
   exact pD.1
  rfl
 | _=>rfl
theorem ft.thr(hR:aq aa) (Q:LC aa x) (hk:∀k∈goals,dX aa k) (h:ft aa (valOf aa x.ab) goals x b l bj):∀y,az x y=false→az b y=true→∀a∈(aD b.ah y).reads,fV l b a:=by
 induction h with
 | start=>grind
 | take h1 X hn F=>exact fun y B J a t=>(F y B J a t).mono fun k h=>by cases h
 | @step b b' p l' f bj rk h1 G Y F=>
  intro y S C a t;obtain⟨⟨H,B⟩,J,h4⟩:=h1.inv hR Q hk;have O:=B.top.run
  by_cases hu:az b y=true
  ·
   rw [G.reads (fun hr=>(O hr).2.1) hu] at t;exact G.there (F y S hu a t)
  have hu:az b y=false:=by simpa using hu
  cases G with
  | put hr hd=>
   by_cases e:y=f.key
   ·
    subst e
    have e2:aD (eh b.ah (bF b f.key (aH aa f.key f.ae).value f.reads)) f.key=bF b f.key (aH aa f.key f.ae).value f.reads:=by
     refine aQ ?_;rw [cN];exact if_pos rfl
    rw [show({b with ah:=eh b.ah (bF b f.key (aH aa f.key f.ae).value f.reads)}:cm).ah=eh b.ah (bF b f.key (aH aa f.key f.ae).value f.reads) from rfl,e2] at t;exact(FS.put (aa:=aa) (val:=valOf aa x.ab) (b:=b) (p:=p) hr hd).there ((O hr).2.2.2.2 a t)
   exfalso
   obtain⟨r,g1,g2⟩:=aR.1 C;have g1:aA (eh b.ah (bF b f.key (aH aa f.key f.ae).value f.reads)) y=some r:=g1;rw [cN,if_neg (show ¬y=(bF b f.key (aH aa f.key f.ae).value f.reads).key from e)] at g1
   grind [aR]
  | mark hr hl hn=>
   obtain⟨r,g1,g2,g3⟩:=id hl;have hm:=FS.mark (aa:=aa) (val:=valOf aa x.ab) (p:=p) hr hl hn;have t:a∈(aD (b.ah.map (a7 b.ad (aB b.ah b.ad f.key) false)) y).reads:=t;rw [pD.1] at t
   by_cases hy:y∈aB b.ah b.ad f.key
   ·
    by_cases I:a∈aB b.ah b.ad f.key
    ·
     obtain⟨q,V⟩:=GF g1 a I;exact .inr (.inr (gZ (by rw [V];rfl) I))
    have hc:(⟨y,a⟩:ob)∈bR b.ah (aB b.ah b.ad f.key):=dr.2 ⟨hy,t,I⟩;obtain⟨j,hj,e⟩:=List.getElem_of_mem hc;exact hm.there ((B.top.Bz hr).2.2.2 hl j ⟨y,a⟩ (by omega) (by grind)).2.1
   exfalso
   obtain⟨r2,e1,e2⟩:=aR.1 C;have e1:aA (b.ah.map (a7 b.ad (aB b.ah b.ad f.key) false)) y=some r2:=e1;rw [bY] at e1
   cases D:aA b.ah y with
   | none=>rw [D] at e1;cases e1
   | some r3=>
    rw [D] at e1;simp only [Option.map_some,Option.some.injEq] at e1;have W:=(aJ D).2
    have:r2=r3:=by
     rw [← e1]
     unfold a7
     grind
    rw [aR.2 ⟨r3,D,by rw [← this];exact e2⟩] at hu
    cases hu
  | fail c hr hl hc W h6 h7=>grind [lM]
  | _=>rw [hu] at C;cases C
theorem ft.mem(hR:aq aa) (e:LC aa x) (hk:∀k∈goals,dX aa k) (h:ft aa (valOf aa x.ab) goals x b [] bj):y∈bj↔Gz (valOf aa x.ab) x y∧az b y=true:=by
 obtain⟨_,_,_,hw,_⟩:=h.done hR e hk;exact⟨fun hy=>⟨hw.bj y hy,hw.Lz y hy⟩,fun⟨h1,t⟩=>hw.runs h1 t⟩
theorem ft.reads(hR:aq aa) (e:LC aa x) (hk:∀k∈goals,dX aa k) (h:ft aa (valOf aa x.ab) goals x b [] bj) (h1:az x y=false) (t:az b y=true) (G:a∈kh aa x.ab y):ay a=true∨az b a=true:=by
 obtain⟨⟨H,B⟩,C,_⟩:=h.inv hR e hk;obtain⟨r,hr,D⟩:=aR.1 t;obtain⟨g1,g2⟩:=aJ hr;have F:=(B.bi.c.vr r g1).2;rw [D,B.bi.c.now,show b.ab=x.ab from C.fH.aC,g2] at F
 rcases h.thr hR e hk y h1 t a (by grind [aQ]) with h | ⟨h,_⟩ | h
 ·
  exact .inl h
 ·
  cases h
 exact .inr h
end
end Go.Rc

namespace Go.Rc
open Go
abbrev h0:aG:=⟨false,[⟨true,false,0,0⟩],2,0⟩
abbrev h1:aG:=⟨false,[⟨false,false,0,0⟩,⟨true,false,1,0⟩],1,0⟩
abbrev H2:List aG:=[h0,h1]
abbrev C1:Key:=bZ ((1:Nat):Int)
abbrev z4:ByteArray:=⟨#[52]⟩
abbrev z2:ByteArray:=⟨#[50]⟩
theorem jR:aq H2:=by
 refine⟨by simp,fun i r h=>?_⟩
 have hi:i=0∨i=1:=by grind
 rcases hi with rfl | rfl
 ·
  simp at h;subst h
  refine⟨by simp,fun k x e=>?_,rfl⟩
  have hk:k=0:=by grind
  subst hk;simp at e;subst e;decide
 simp at h;subst h
 refine⟨by simp,fun k x e=>?_,rfl⟩
 have hk:k=0∨k=1:=by grind
 rcases hk with rfl | rfl <;> simp at e <;> subst e <;> decide
theorem qv:aL H2 ((0:Nat):Int)=K0:=by
 unfold aL
 rw [if_neg (by simp)]
 simp [aF]
theorem qw:aL H2 ((1:Nat):Int)=K1:=by
 unfold aL
 rw [if_neg (by simp)]
 simp [aF]
theorem zd:number K0=((0:Nat):Int):=by rw [← qv];exact ck (by simp) (by omega)
theorem rL:number K1=((1:Nat):Int):=by rw [← qw];exact ck (by simp) (by omega)
theorem EJ:dX H2 K1:=by rw [← qw];exact .eX (by simp) (by omega)
theorem g0a:cx H2 K0 []=⟨false,⟨#[]⟩,C0⟩:=by
 rw [jb (i:=0) zd (by simp) (by rw [zd];exact qv) (by simp)]
 rfl
theorem g0b(v:ByteArray):cx H2 K0 [v]=⟨true,itoa (dp 2 0 [cD v]),eR⟩:=by
 rw [j9 (i:=0) zd (by simp) (by rw [zd];exact qv) (by simp)]
 rfl
theorem g1a:cx H2 K1 []=⟨false,⟨#[]⟩,K0⟩:=by
 rw [jb (i:=1) rL (by simp) (by rw [rL];exact qw) (by simp)];rw [← qv];rfl
theorem g1b(v:ByteArray):cx H2 K1 [v]=⟨false,⟨#[]⟩,C1⟩:=by
 rw [jb (i:=1) rL (by simp) (by rw [rL];exact qw) (by simp)]
 rfl
theorem g1c(u v:ByteArray):cx H2 K1 [u,v]=⟨true,itoa (dp 1 0 [cD u,cD v]),eR⟩:=by
 rw [j9 (i:=1) rL (by simp) (by rw [rL];exact qw) (by simp)]
 rfl
theorem it2:itoa ((2:Nat):Int)=z2:=by simp [itoa,Lib.itoa,Lib.decDigits]
theorem vs4:cD z4=4:=by decide
theorem vs2:cD z2=2:=by decide
theorem ac5{aC:List cv}:kh H2 aC K0=[C0]:=by
 have h:=fG (aC:=aC) jR (i:=0) (by simp);rw [qv] at h;rw [h]
 unfold cG
 rw [show cJ H2 0=1 from rfl,qv]
 grind [dT,g0a]
theorem Rj{aC:List cv}:kh H2 aC K1=[K0,C1]:=by
 have h:=fG (aC:=aC) jR (i:=1) (by simp);rw [qw] at h;rw [h]
 unfold cG
 rw [show cJ H2 1=2 from rfl,qw]
 grind [dT,g1a,g1b]
theorem OV{aC:List cv}{n:Nat}(h:cD (cellOf aC C0)=n) (hn:n<1000):valOf H2 aC K0=itoa ((n / 2:Nat):Int):=by
 have e:=fF (aC:=aC) jR (i:=0) (by simp);rw [show cJ H2 0=1 from rfl,qv] at e
 grind [dT,g0a,g0b,nq,dp,qc]
theorem Ws{aC:List cv}{n m:Nat}(h:cD (valOf H2 aC K0)=n) (t:cD (cellOf aC C1)=m) (hn:n+m<1000):valOf H2 aC K1=itoa ((n+m:Nat):Int):=by
 have e:=fF (aC:=aC) jR (i:=1) (by simp);rw [show cJ H2 1=2 from rfl,qw] at e;simp only [dT,List.nil_append] at e;rw [g1a,List.singleton_append,g1b] at e;rw [g1c,h,nq (by omega),t] at e
 grind [dp,qc]
abbrev iA:List cv:=[⟨C0,z4,1⟩]
abbrev iB:List cv:=[⟨C0,z5,2⟩]
theorem fA0:bz iA C0=⟨C0,z4,1⟩:=by grind [bz]
theorem fB0:bz iB C0=⟨C0,z5,2⟩:=by grind [bz]
theorem ac6:(C0 == C1)=false:=by simp [bZ,itoa,Lib.itoa,Lib.decDigits]
theorem fB1:bz iB C1=⟨C1,⟨#[]⟩,0⟩:=by grind [bz,ac6]
theorem vA0:valOf H2 iA K0=z2:=by rw [OV (n:=4) (by grind [cellOf,fA0,vs4]) (by omega)];exact it2
theorem vB0:valOf H2 iB K0=z2:=by rw [OV (n:=5) (by grind [cellOf,fB0,vs5]) (by omega)];exact it2
theorem vB1:valOf H2 iB K1=z2:=by rw [Ws (n:=2) (m:=0) (by rw [vB0];exact vs2) (by grind [cellOf,fB1,vsE]) (by omega)];exact it2
theorem ac7:ay C1=true:=bp (n:=1) (by omega)
theorem J6{x:cm}(e:LC H2 x) {y:Key}(h:az x y=true):y=K0∨y=K1:=by
 obtain⟨r,h1,_⟩:=aR.1 h;obtain⟨g1,g2⟩:=aJ h1;obtain⟨k1,k2,_⟩:=e.lb.JE.kr r g1;rw [g2] at k1 k2
 cases k1 with
 | cell t=>grind [bp]
 | @eX i hi _=>grind [qv,qw]
section
variable {x b y b2:cm}{bj ze rs:List Key}
theorem MO(e:LC H2 x) (hn:x.ah=[]) (h:ft H2 (valOf H2 x.ab) [K1] x b [] bj) (hu:az b K1=true):bj.length=2∧az b K0=true:=by
 have hk:∀k∈[K1],dX H2 k:=fun k hk=>by grind [EJ]
 have t:∀y,aA x.ah y=none:=fun y=>by rw [hn];rfl
 have B:∀y,az x y=false:=fun y=>by unfold az;rw [t y];rfl
 obtain⟨hb,_,_,hw,_⟩:=h.done jR e hk
 have h0:az b K0=true:=by
  rcases h.reads jR e hk (B K1) hu (a:=K0) (by rw [Rj];simp) with h | h
  ·
   rw [HK] at h;cases h
  exact h
 refine⟨?_,h0⟩
 have C:bj.Perm [K0,K1]:=(List.perm_ext_iff_of_nodup hw.j5 (by have:=Wr;simp [this])).2 fun y=>by
  rw [h.mem jR e hk];simp only [List.mem_cons,List.not_mem_nil,or_false]
  constructor
  ·
   grind [J6]
  rintro(rfl | rfl)
  ·
   exact⟨⟨HK,B _,.inl (t _)⟩,h0⟩
  exact⟨⟨J5,B _,.inl (t _)⟩,hu⟩
 exact C.length_eq
theorem MP(hb:LC H2 b) (hr:b.ad=1) (h0:az b K0=true) (h1:az b K1=true) (W:∀r∈b.ah,r.av=b.ad→r.value=valOf H2 iA r.key) (hy:LC H2 y) (t:y=⟨2,iB,b.ah⟩) (h:ft H2 (valOf H2 y.ab) [K1] y b2 [] bj) (hu:az b2 K1=true) (J:rs.Perm bj):rs=[K0]∧gq b2 K1=true∧i1 b2 K1=z2:=by
 have hk:∀k∈[K1],dX H2 k:=fun k hk=>by grind [EJ]
 obtain⟨X,_,Y,hw,O⟩:=h.done jR hy hk;obtain⟨q0,f0,v0⟩:=aR.1 h0;obtain⟨q1,f1,v1⟩:=aR.1 h1;obtain⟨m0,k0⟩:=aJ f0;obtain⟨m1,k1⟩:=aJ f1;obtain⟨Hh,B⟩:=hb.bh
 have r0:q0.reads=[C0]:=by rw [(B.c.vr q0 m0).2,k0];exact ac5
 have r1:q1.reads=[K0,C1]:=by rw [(B.c.vr q1 m1).2,k1];exact Rj
 have C:aA y.ah K0=some q0:=by rw [t];exact f0
 have D:aA y.ah K1=some q1:=by rw [t];exact f1
 have yr:y.ad=2:=by rw [t]
 have F:y.ab=iB:=by rw [t]
 have w0:q0.av=1:=by rw [v0,hr]
 have w1:q1.av=1:=by rw [v1,hr]
 have Q:az y K0=false:=by grind [az]
 have n1:az y K1=false:=by grind [az]
 have u0:az b2 K0=true:=by
  rcases h.reads jR hy hk n1 hu (a:=K0) (by rw [Rj];simp) with h | h
  ·
   rw [HK] at h;cases h
  exact h
 have ac3:Gz (valOf H2 y.ab) y K0:=by
  refine⟨HK,Q,.inr (.inr ⟨K0,C0,fq,by rw [aQ C,r0];simp,?_,?_⟩)⟩
  ·
   rw [gR rfl];simpa using Wq
  rw [aQ C,w0]
  unfold aV
  rw [if_pos Wp,F,fB0]
  decide
 have ac2:¬Gz (valOf H2 y.ab) y K1:=by
  rintro⟨_,_,h | h | ⟨m,a,hm,G,_,e⟩⟩
  ·
   rw [D] at h;cases h
  ·
   rw [aQ D] at h
   have:=B.dv q1 m1 h
   omega
  rw [gR rfl,List.mem_singleton] at hm;subst hm;rw [aQ D,r1] at G;rw [aQ D,w1] at e;simp only [List.mem_cons,List.not_mem_nil,or_false] at G
  rcases G with rfl | rfl
  ·
   have S:valOf H2 y.ab K0=q0.value:=by grind [vB0,vA0]
   have oL:=(B.c.Ep q0 m0).2
   unfold aV at e
   rw [if_neg (by rw [HK];simp),C,aQ C,S] at e
   simp at e
   omega
  unfold aV at e
  rw [if_pos ac7,F,fB1] at e
  simp at e
 have V:bj.Perm [K0]:=(List.perm_ext_iff_of_nodup hw.j5 (by simp)).2 fun z=>by
  rw [h.mem jR hy hk,List.mem_singleton]
  grind [J6]
 have I:gq b2 K1=true:=by unfold gq;rw [J5];exact hu
 refine⟨List.perm_singleton.1 (J.trans V),I,?_⟩;obtain⟨r,fr,vr⟩:=aR.1 hu;obtain⟨g1,g2⟩:=aJ fr
 unfold i1
 rw [if_neg (by rw [J5];simp),if_pos I,aQ fr,O r g1 vr,g2,F];exact vB1
theorem smA:∀c∈[(⟨C0,z4⟩:Change)],c.small:=fun c hc=>by
 rw [List.mem_singleton.1 hc];exact⟨⟨0,by omega,by omega,rfl⟩,by decide⟩
theorem aoA(h:AO ⟨0,[],[]⟩ [⟨C0,z4⟩] y):y=⟨1,iA,[]⟩:=h.one _ rfl (by decide) (by decide)
theorem aoB(hi:b.ab=iA) (hr:b.ad=1) (h:AO b [⟨C0,z5⟩] y):y=⟨2,iB,b.ah⟩:=by
 have h1:=h.one _ rfl (by rw [hi,fA0];decide) (by rw [hr];decide)
 grind [fU,iw]
end
end Go.Rc

namespace Go.Rc
open Go
section
variable {P:Program}{T:TypeId}
structure IpT (P:Program) (T:TypeId):Prop where
 eq:∀(a c:Int) (s t:ByteArray) (w:World),(Op.equalIn 10000 T (.agg #[.int .i64 a,.string s,.string t,.int .i64 c]) (.agg #[.int .i64 a,.string s,.string t,.int .i64 c])).run P w=.ok true w
 guard:P.eqGuardType P.depth T=false
theorem Rk{K e B:TypeId}{g0 g1 g2:Field}(hk:∀(a b:Int) (s t:ByteArray) (w:World),(Op.equalIn 9999 K (.agg #[.int .i64 a,.string s]) (.agg #[.int .i64 b,.string t])).run P w=.ok (decide (a=b) && decide (s=t)) w)
  (hu:P.underlying T=some (.struct #[g0,g1,g2])) (D:g0.type=K) (F:g1.type=e) (G:g2.type=B) (I:g0.offset=0) (J:g1.offset=2) (O:g2.offset=3) (W:g0.name≠ "_") (X:g1.name≠ "_") (Y:g2.name≠ "_")
  (h1:P.underlying e=some .string) (Q:P.underlying B=some (.int .i64)) (a0:∀w,(isAgg K).run P w=.ok true w) (z0:∀w,(sizeOf K).run P w=.ok 2 w) (a1:∀w,(isAgg e).run P w=.ok false w) (a2:∀w,(isAgg B).run P w=.ok false w)
  (S:P.stoodInHeld T=false) (V:P.eqGuardType P.depth T=false):IpT P T:=by
 refine⟨fun a c s t w=>?_,V⟩;subst D F G
 have C:P.fieldsOf T=#[g0,g1,g2]:=by simp [Program.fieldsOf,hu]
 rw [show(10000:Nat)=9999+1 from rfl,run_equalIn_struct (P:=P) w 9999 T _ _ (by rw [C];exact hu) S,C];have r0:=hk a a s s w;have r1:=run_equalIn_string (P:=P) w 9998 g1.type t t h1;have r2:=run_equalIn_int (P:=P) w 9998 g2.type .i64 .i64 c c Q;rw [show(9998+1:Nat)=9999 from rfl] at r1 r2;simp only [Op.eqFields,I,J,O,part,Sem.run_bind,a0,a1,a2,z0,Result.andThen_ok]
 simp_all [asAgg]
variable {kv:KV}{w:World}{ty:TypeId}
theorem PV.ac9(hT:IpT P T) {U:TypeId}{x y:Operand}{p:cv}(e:ev kv x=some (.agg p.cells.toArray)) (hy:ev kv y=some (.agg p.cells.toArray)) :
  PV P (.binOp .neq T x y U) ty kv w (.bool false):=by
 refine⟨rfl,by simp [known,opers,e,hy],fun _ _ _ _=>?_⟩;simp only [execOp,aK e,aK hy,cv.cells];simp only [Sem.run_bind,run_eqGuard_agg w .neq T _ _ _ _ hT.guard,run_neq_struct,hT.eq,Result.andThen_ok]
 rfl
end
end Go.Rc

namespace Go.Rc
open Go
end Go.Rc

namespace Go.Rc
open Go
section
variable {aa:List aG}{x:cm}{s:ES}{k:Key}
end
end Go.Rc

namespace Go.Rc
open Go
section
variable {aa:List aG}{val:Key→ByteArray}{x:cm}{k m:Key}
end
end Go.Rc

namespace Go.Rc
open Go
section
variable {rl:List aG}{b c:cm}{l:List Change}{r:Rec}{a:Key}
end
end Go.Rc

namespace Go.Rc
open Go
section
variable {rl:List aG}{val:Key→ByteArray}{b:cm}{a y:Key}{l:List Key}{i q:Nat}
end
end Go.Rc

namespace Go.Rc
open Go
section
variable {aa:List aG}{b c b2:cm}{l:List Change}{goals ze:List Key}{y a k:Key}{r:Rec}{i:Nat}
section
variable (hR:aq aa) (hb:LC aa b) (wH:∀i:Nat,i<aa.length→az b (aL aa (i:Int))=true) (hrc:c.ah=b.ah) (hc:LC aa c) (hk:∀k∈goals,dX aa k) (h:ft aa (valOf aa c.ab) goals c b2 [] ze) (Et:∀i:Nat,i<aa.length→az b2 (aL aa (i:Int))=true)
include hR hb wH hrc hc hk h Et
end
end
end Go.Rc

namespace Go.Rc
open Go
section
variable {aa:List aG}{b c b2:cm}{l:List Change}{goals ze:List Key}{i:Nat}
end
end Go.Rc

namespace Go.Rc
open Go
section
variable {aa:List aG}{b c d b2:cm}{goals ze:List Key}{l:List Change}{K:Key}{u v:ByteArray}{i:Nat}{y:Key}
section
variable (hR:aq aa) (hb:LC aa b) (wH:∀i:Nat,i<aa.length→az b (aL aa (i:Int))=true) (hrc:d.ah=b.ah) (hd:LC aa d) (hk:∀k∈goals,dX aa k) (h:ft aa (valOf aa d.ab) goals d b2 [] ze) (Et:∀i:Nat,i<aa.length→az b2 (aL aa (i:Int))=true) (adb:d.ad=b.ad+2) (x9:∀k,cellOf d.ab k=cellOf b.ab k) (ade:∀k,k≠K→bz d.ab k=bz b.ab k)
include hR hb wH hrc hd hk h adb x9 ade
include Et
end
end
end Go.Rc

namespace Go.Rc
open Go
inductive Nd (aa:List aG) (x:cm) (goals:List Key):Key→Prop where
 | goal {k:Key}:k∈goals→Nd aa x goals k
 | read {y a:Key}:Nd aa x goals y→az x y=false→a∈kh aa x.ab y→Nd aa x goals a
section
variable {aa:List aG}{aC mO:List cv}{H:Int→List cv}{x b b':cm}{l l' p:List br}{f:br}{bj goals zh:List Key}{k y a:Key}{i q:Nat}{on:Key→Bool}
theorem Nd.mono(h:Nd aa x goals k) (e:∀y∈goals,y∈zh):Nd aa x zh k:=by
 induction h with
 | goal h=>exact .goal (e _ h)
 | read _ h1 t B=>exact .read B h1 t
theorem Nd.app(h:Nd aa x (goals++zh) k):Nd aa x goals k∨Nd aa x zh k:=by
 induction h with
 | goal h=>exact(List.mem_append.1 h).imp .goal .goal
 | read _ h1 e t=>exact t.imp (fun h=>.read h h1 e) fun h=>.read h h1 e
theorem iD(hR:aq aa) (hi:i<aa.length) (hr:aF aa i=true):cG aa aC i=aa[i].asks.map (bQ aa):=by
 unfold cG
 rw [xF hR hi hr _ _ (by rw [dO hi];exact Nat.le_refl _),dO hi,List.take_length]
theorem HL(q:Nat) (h:∀j,j<q→valOf aa aC (ko aa aC i j)=valOf aa mO (ko aa aC i j)):tu aa aC i q=tu aa mO i q:=by
 induction q with
 | zero=>unfold tu;simp only [dT]
 | succ q e=>grind [ko,Hx]
theorem gw(hR:aq aa) (hi:i<aa.length):kh aa aC (aL aa (i:Int))=cG aa aC i:=fG hR hi
theorem Nd.leads(hR:aq aa) (t:Bi aa H on b) (J:∀y,az x y=true→az b y=true) (hk:Nd aa x goals k) (C:bU b.ah b.ad k=true) (hl:bM b.ah b.ad k y):Nd aa x goals y:=by
 have step:∀m a,Nd aa x goals m→bU b.ah b.ad m=true→Ld b.ah b.ad m a→Nd aa x goals a:=fun m a hm D hd=>by
  obtain⟨r,h1,B,O,Q⟩:=bK.1 D;obtain⟨g1,g2⟩:=aJ h1;obtain⟨i,hi,e⟩:=t.kr r g1;have S:=hR.len;have em:m=aL aa (i:Int):=g2.symm.trans e;subst em
  have hr:aF aa i=true:=by grind [bd]
  have hn:az x (aL aa (i:Int))=false:=by grind [aR]
  refine .read hm hn ?_;have F:=hd.1;rw [aQ h1,(t.c.vr r g1).2,g2,gw hR hi,iD hR hi hr] at F
  grind [gw,iD]
 have G:∀{m:Key},bM b.ah b.ad k m→bU b.ah b.ad m=true:=fun h=>h.gC
 induction hl with
 | one h1=>exact step _ _ hk C h1
 | step h1 B I=>exact step _ _ I (G h1) B
theorem Nd.group(hR:aq aa) (e:Bi aa H on b) (t:∀y,az x y=true→az b y=true) (hk:Nd aa x goals k) (B:y∈aB b.ah b.ad k):Nd aa x goals y:=by
 rcases cA.1 B with rfl | ⟨C,hm⟩
 ·
  exact hk
 exact hk.leads hR e t C hm.1
theorem ft.need(hR:aq aa) (hx:LC aa x) (hk:∀k∈goals,dX aa k) (h:ft aa (valOf aa x.ab) goals x b l bj):(∀f∈l,Nd aa x goals f.key)∧∀y,az x y=false→az b y=true→Nd aa x goals y:=by
 induction h with
 | start=>grind
 | take h1 C hn J=>exact⟨fun f F=>by rw [List.mem_singleton.1 F];exact .goal C,J.2⟩
 | @step b b' p l' f bj rk h1 hs Bg J=>
  obtain⟨W,B⟩:=J;obtain⟨⟨H,t⟩,h3,h4⟩:=h1.inv hR hx hk;have Hm:=hR.len;have X:∀y,az x y=true→az b y=true:=fun y hy=>h1.Q9 hy;have G:Nd aa x goals f.key:=W f (by simp);have O:az x f.key=false:=(t.nr f (by simp)).2;obtain⟨i,hi,D⟩:=t.top.key;have Q:∀g∈p,Nd aa x goals g.key:=fun g C=>W g (List.mem_append_left _ C)
  have same:∀{z:br},z.key=f.key→∀g∈p++[z],Nd aa x goals g.key:=fun {z} hz g C=>by grind
  have more:∀{z:br},Nd aa x goals z.key→∀g∈p++[f]++[z],Nd aa x goals g.key:=fun {z} hz g C=>by grind
  cases hs with
  | put hr hd=>
   refine⟨Q,fun y hy hu=>?_⟩
   by_cases e:y=f.key
   ·
    rw [e];exact G
   obtain⟨r,g1,g2⟩:=aR.1 hu;have g1:aA (eh b.ah (bF b f.key (aH aa f.key f.ae).value f.reads)) y=some r:=g1;rw [cN,if_neg (show ¬y=(bF b f.key (aH aa f.key f.ae).value f.reads).key from e)] at g1
   grind [aR]
  | push hr hd hl=>
   refine⟨more (.read G O ?_),B⟩;obtain⟨n,hn,e1,e2⟩:=(t.top.run hr).2.2.2.1 i hi D
   have e2:f.ae=tu aa x.ab i n:=by rw [e2,D];rfl
   have hlen:f.ae.length=n:=by rw [e2];exact nD _ _
   rw [D,dU hi (by omega)] at hd
   have hnN:n<cJ aa i:=by grind [gB]
   show(aH aa f.key f.ae).ask∈_
   rw [D,dU hi (by omega),gw hR hi,e2];exact List.mem_of_getElem? (fI hnN)
  | sK c hr hl hc B5=>
   refine⟨more ?_,B⟩
   show Nd aa x goals c.read
   obtain⟨hm,Y,hnG⟩:=dr.1 (List.mem_of_getElem? hc);obtain⟨r0,g1,g2,g3⟩:=id hl;have Wt:=G.group hR t.bi X hm
   rcases cA.1 hm with e | ⟨ho,hmu⟩
   ·
    cases JJ:ax f.key with
    | true=>
     have I:aF aa i=true:=by grind [bd]
     rw [e,aQ g1,(t.bi.c.vr r0 (aJ g1).1).2,(aJ g1).2,D,gw hR hi,iD hR hi I] at Y;refine .read G O ?_
     grind [gw,iD]
    | false=>
     have I:aF aa i=false:=by grind [bd]
     have adf:r0.reads=cG aa (H r0.av) i:=by rw [(t.bi.c.vr r0 (aJ g1).1).2,(aJ g1).2,D,gw hR hi]
     have ant:∀a∈r0.reads,a≠f.key:=fun a S e9=>by
      rw [adf] at S
      rcases(oi hR hi S).1 with⟨n,hn,h9⟩ | ⟨m,m1,m2,_,m3,_⟩
      ·
       grind [dj,bp]
      grind [ck]
     have oL:bR b.ah (aB b.ah b.ad f.key)=r0.reads.map fun a=>(⟨f.key,a⟩:ob):=by grind [gR,bR,cT,aQ,List.filter_eq_self]
     have hK:=(t.top.Bz hr).2.2.2 hl;rw [oL] at hc hK;rw [List.getElem?_map] at hc;obtain⟨a,S,rfl⟩:=Option.map_eq_some_iff.1 hc
     have hq:f.at_.toNat<cJ aa i:=by grind [pw]
     have haq:a=ko aa (H r0.av) i f.at_.toNat:=by grind [fI]
     have GJ:=HL (aa:=aa) (aC:=H r0.av) (mO:=x.ab) (i:=i) f.at_.toNat fun j V=>by grind [fI,aQ]
     refine .read G O ?_
     show a∈_
     rw [haq,D,gw hR hi]
     have h8:ko aa (H r0.av) i f.at_.toNat=ko aa x.ab i f.at_.toNat:=by unfold ko;rw [GJ]
     rw [h8];exact List.mem_of_getElem? (fI hq)
   obtain⟨r,w1,w2,w3,w4⟩:=bK.1 hmu.gC;obtain⟨m1,m2⟩:=aJ w1;obtain⟨j,V,e⟩:=t.bi.kr r m1;have em:c.dC=aL aa (j:Int):=m2.symm.trans e
   have I:aF aa j=true:=by grind [bd]
   have hn:az x c.dC=false:=by grind [aR]
   rw [aQ w1,(t.bi.c.vr r m1).2,m2,em,gw hR V,iD hR V I] at Y;refine .read Wt hn ?_
   grind [gw,iD]
  | mark hr hl hn=>
   refine⟨Q,fun y hy hu=>?_⟩
   by_cases C:y∈aB b.ah b.ad f.key
   ·
    exact G.group hR t.bi X C
   obtain⟨r2,e1,e2⟩:=aR.1 hu;have e1:aA (b.ah.map (a7 b.ad (aB b.ah b.ad f.key) false)) y=some r2:=e1;rw [bY] at e1
   cases F:aA b.ah y with
   | none=>rw [F] at e1;cases e1
   | some r3=>
    rw [F] at e1;simp only [Option.map_some,Option.some.injEq] at e1;have h5:=(aJ F).2
    have h6:r2=r3:=by
     rw [← e1]
     unfold a7
     grind
    exact B y hy (aR.2 ⟨r3,F,by rw [← h6];exact e2⟩)
  | fail c hr hl hc h5 h6 h7=>
   refine⟨same rfl,fun y hy hu=>B y hy ?_⟩
   grind [lM]
  | stay=>exact absurd rfl Bg
  | read=>exact⟨same rfl,B⟩
  | up=>exact⟨Q,B⟩
  | start=>exact⟨same rfl,B⟩
  | pass=>exact⟨same rfl,B⟩
theorem Nd.up(hR:aq aa) (t:LC aa x) (hk:∀k∈goals,dX aa k) (h:ft aa (valOf aa x.ab) goals x b [] bj) (hu:∀k∈goals,ay k=true∨az b k=true) (hn:Nd aa x goals y):ay y=true∨az b y=true:=by
 induction hn with
 | goal B=>exact hu _ B
 | @read y a _ h1 C D=>
  rcases D with e | e
  ·
   grind [yW]
  exact h.reads hR t hk h1 e C
theorem ft.runs(hR:aq aa) (e:LC aa x) (hk:∀k∈goals,dX aa k) (h:ft aa (valOf aa x.ab) goals x b [] bj) (hu:∀k∈goals,ay k=true∨az b k=true):y∈bj↔Gz (valOf aa x.ab) x y∧Nd aa x goals y:=by
 rw [h.mem hR e hk]
 constructor
 ·
  exact fun⟨h1,t⟩=>⟨h1,(h.need hR e hk).2 y h1.2.1 t⟩
 exact fun⟨h1,t⟩=>⟨h1,(t.up hR e hk h hu).resolve_left (by rw [h1.1];simp)⟩
end
end Go.Rc

namespace Go.Rc
open Go
theorem HM{aa:List aG}{x b1 b2 b3:cm}{g1 g2 C ze D F G e:List Key}(hR:aq aa) (t:LC aa x) (k1:∀k∈g1,dX aa k) (k2:∀k∈g2,dX aa k) (h1:ft aa (valOf aa x.ab) g1 x b1 [] C) (I:ft aa (valOf aa x.ab) g2 x b2 [] ze) (J:ft aa (valOf aa x.ab) (g1++g2) x b3 [] D)
  (u1:∀k∈g1,ay k=true∨az b1 k=true) (O:∀k∈g2,ay k=true∨az b2 k=true) (Q:∀k∈g1++g2,ay k=true∨az b3 k=true) (p1:F.Perm C) (p2:G.Perm ze) (p3:e.Perm D) (S:wF e):jP (F++G)=e:=by
 have k3:∀k∈g1++g2,dX aa k:=fun k hk=>(List.mem_append.1 hk).elim (k1 k) (k2 k);refine uH (B2 _) S fun y=>?_;rw [oe,List.mem_append,p1.mem_iff,p2.mem_iff,p3.mem_iff,h1.runs hR t k1 u1,I.runs hR t k2 O,J.runs hR t k3 Q]
 constructor
 ·
  rintro(⟨hw,hn⟩ | ⟨hw,hn⟩)
  ·
   exact⟨hw,hn.mono fun z B=>List.mem_append_left _ B⟩
  exact⟨hw,hn.mono fun z B=>List.mem_append_right _ B⟩
 rintro⟨hw,hn⟩
 exact hn.app.imp (fun h=>⟨hw,h⟩) fun h=>⟨hw,h⟩
end Go.Rc

namespace Go.Rc
open Go
section
variable {α:Type}{A A2:Nat→Prop}{w w':World}{k n c:Nat}{a:Option Addr}{R:α→List Value→Prop}{xs ys:List α}
variable {P:Program}{N:Nat}{kv:KV}{K:KV→World→Prop}
variable {d:Tmp}{ty:TypeId}{pos:String}{af:Array Edge}{g:Option (Nat × Bool)}{T E:TypeId}
theorem EL(hT:wi P T E k) {i j:Nat}(hi:i≤j) (B:j≤c) (t:∀x,a=some x→x.spot=none):(Instr.sliceAt T (.slice a n c) none (some (.int .i64 (i:Int))) (some (.int .i64 (j:Int)))).run P w=.ok (.slice a i j) w:=by
 have e:(if j=0 then a else a.map fun x=>x.add (0*k))=a:=by
  cases a with
  | none=>simp
  | some x=>obtain⟨b,o,s⟩:=x;have:=t _ rfl;grind [Addr.mW]
 simp only [Instr.sliceAt,Instr.slice,Sem.run_bind,run_underlying hT.Ba,Result.andThen_ok,Instr.sliceBounds,Sem.run_pure];rw [run_sliceBound (P:=P) _ _ _ _ _ (by omega) (by omega)];simp only [Result.andThen_ok,Int.toNat_natCast];rw [run_sliceBound (P:=P) _ _ _ _ _ (by omega) (by omega)];simp only [Result.andThen_ok,Int.toNat_natCast,Nat.sub_zero,hT.size w];rw [e]
theorem PV.slice3(hT:wi P T E k) {x y z:Operand}{i j:Nat}(h:SR A w k R a n c xs) (e:ev kv x=some (.slice a n c)) (hy:ev kv y=some (.int .i64 (i:Int))) (t:ev kv z=some (.int .i64 (j:Int))) (hi:i≤j) (C:j≤n):PV P (.slice T x none (some y) (some z)) ty kv w (.slice a i j):=by
 obtain⟨_,rows,_,_,B,_⟩:=h;refine⟨rfl,by simp [known,opers,e,hy,t],fun _ _ _ _=>?_⟩
 have:=B.Vz
 simp only [execOp,aK e,aK hy,aK t,Option.map_none,Option.map_some,Sem.run_bind,EL hT hi (show j≤c by omega) B.spot,Result.andThen_ok];rfl
theorem J7{bytes m c2:Nat}{a2:Option Addr}{us vs:List Value}(hT:AP P T E k bytes) {ty:TypeId}(e:SL A w k a n c us) (t:SL A2 w k a2 m c2 vs) (J:(n+m)*bytes≤140737488355328) (Y:n+m≤140737488355328) :
  ∃B F w',(Builtin.append_ #[T,T] ty #[.slice a n n,.slice a2 m c2]).run P w=.ok (.slice B (n+m) F) w'∧((m=0∧B=a∧F=n∧w'=w)∨(aS [] w w'∧(∀x∈aI B,w.heap.size≤x)∧OL 0 w' E k B (n+m) F (us++vs))):=by
 obtain⟨i,z,hi,G,rfl,rfl,O⟩:=hT.info;have hsz:=hT.pos;have hl:=t.len
 by_cases hm:m=0
 ·
  subst hm;have Q:vs=[]:=List.eq_nil_of_length_eq_zero (by simpa using hl);subst Q;refine⟨a,n,w,?_,.inl ⟨rfl,rfl,rfl,rfl⟩⟩
  rcases t.at_ with⟨rfl,_,rfl⟩ | ⟨b2,C,rfl,_⟩ <;> cases a <;> simp [Builtin.append_,run_underlying hT.Ba,sizeOf,typeInfo,hi,Builtin.lenOf,Builtin.firstCells,loadCells,loadCellsFrom,storeCells]
 have h1:∀u∈us++vs,u.oneCell'=true:=fun u hu=>by
  rcases List.mem_append.1 hu with h | h
  ·
   exact e.one u h
  exact t.one u h
 rcases t.at_ with⟨_,h,_⟩ | ⟨b2,C,rfl,hmc,anv,_,wo,S⟩
 ·
  exact absurd h hm
 have I:∀j u,vs[j]?=some u→w.cell? ((⟨b2,C,none⟩:Addr).add j)=some u:=fun j u hu=>by rw [Addr.mW];exact S j u hu
 have grown:∀(lV:Nat),lV<n+m→
   OL 0 (w.drew.alloc (.cells (us.toArray++vs.toArray++Builtin.zeroCells z.cells (grownCap w (n+m) lV E - (n+m))) E)) E i.size
    (some ⟨w.heap.size,0,none⟩) (n+m) (grownCap w (n+m) lV E) (us++vs)∧
   aS [] w (w.drew.alloc (.cells (us.toArray++vs.toArray++Builtin.zeroCells z.cells (grownCap w (n+m) lV E - (n+m))) E)):=by
  intro lV ho;have V:=grownCap_ge w (n+m) lV E;have W:grownCap w (n+m) lV E≤maxLen:=grownCap_le_maxLen w (n+m) lV E (by simp [maxLen];omega);refine⟨⟨h1,by rw [List.length_append,e.len,hl,Nat.add_mul],.inr ⟨w.heap.size,_,_,rfl,Nat.zero_le _,heap_alloc_new w.drew _,V,W,?_,?_⟩⟩,⟨rfl,rfl,rfl,by simp,Nat.le_succ _,fun k hk _=>heap_alloc_old w.drew _ (h:=hk)⟩⟩
  ·
   simp only [Array.size_append,List.size_toArray,size_zeroCells,O,e.len,hl,← Nat.add_mul]
   congr 1
   omega
  have X:(us++vs).length=(n+m)*i.size:=by rw [List.length_append,e.len,hl,Nat.add_mul]
  simp only [Array.toList_append];rw [← X,List.take_append_of_le_length (Nat.le_refl _),List.take_length]
 rcases e.at_ with⟨rfl,rfl,rfl⟩ | ⟨b,o,rfl,_,_,_,_,hr⟩
 ·
  have hn:us=[]:=List.eq_nil_of_length_eq_zero (by simpa using e.len);subst hn;have hr:=run_append_nil (P:=P) w T ty E i z hT.Ba hi G ⟨b2,C,none⟩ m c2 vs hl I (by omega) (by omega) (by grind);have D:=grown 0 (by omega);simp only [Nat.zero_add,List.nil_append,Array.empty_append] at D ⊢
  grind [aI]
 have holds:∀j u,us[j]?=some u→w.cell? ((⟨b,o,none⟩:Addr).add j)=some u:=fun j u hu=>by rw [Addr.mW];exact hr j u hu
 have D:=grown n (by omega);have hr:=run_append_grow (P:=P) w T ty E i z hT.Ba hi G ⟨b,o,none⟩ n n us e.len holds ⟨b2,C,none⟩ m c2 vs hl I (by omega) (by omega) (growslice_fits (by omega) J);exact⟨_,_,_,hr,.inr ⟨D.2,by simp [aI],D.1⟩⟩
end
theorem OX.Wu{α:Type}{R:RR α}{P:Program}{N:Nat}{kv:KV}{w0 w:World}{M Z:Nat→Prop}{l:List As}{K:KV→World→Prop}{d:Tmp}{ty:TypeId}{pos:String}{af:Array Edge}{g:Option (Nat × Bool)}{T E:TypeId}{a a2:Option Addr}{n c m c2 k bytes:Nat}{xs ys:List α}(hT:AP P T E k bytes) {s x:Operand}(hd:Nat.blt d N=true) (S:ev kv s=some (.slice a n n)) (C:ev kv x=some (.slice a2 m c2))
  (st:St w0 M Z w l) (V:Rd R k Z w a n c xs) (W:Rd R k Z w a2 m c2 ys) (X:(n+m)*bytes≤140737488355328) (Y:n+m≤140737488355328)
  (h:∀e t w' Z',bH w.heap.size Z Z'→aS [] w w'→St w0 M Z' w' (As.ro R k e (n+m) t (xs++ys)::l)→K ((d,.slice e (n+m) t)::kv) w') :
  OX P ⟨some d,.call {callee:=.builtin .append,args:=#[s,x],argTypes:=#[T,T]},ty,pos,af,g⟩ N kv w K:=by
 refine⟨rfl,hd,by simp [known,opers,S,C],?_⟩;obtain⟨G,D,I,J,B,Rl⟩:=id V;obtain⟨O,Wv,OW,DA,sw,hx2⟩:=id W;obtain⟨e,t,w',hr,hw⟩:=J7 hT (ty:=ty) B sw X Y
 have JK:(execOp (jH kv) ⟨some d,.call {callee:=.builtin .append,args:=#[s,x],argTypes:=#[T,T]},ty,pos,af,g⟩).run P w=.ok (.value (.slice e (n+m) t)) w':=by grind [execOp,resolve,invoke,builtin,Sem.run_bind,Sem.run_pure,Result.andThen_ok,aK]
 rw [JK]
 rcases hw with⟨hm0,ha',hc',hw'⟩ | ⟨h1,Q,h3⟩
 ·
  subst hm0 ha' hc' hw';have hy:ys=[]:=List.eq_nil_of_length_eq_zero O.symm;subst hy
  have hcn:SL Z w' k e t t D.flatten:=by
   refine⟨B.len,B.le,B.one,?_⟩
   rcases B.at_ with⟨e1,e2,e3⟩ | ⟨b,o,e1,e2,e3,e4,e5,e6⟩
   ·
    exact .inl ⟨e1,e2,e2⟩
   exact .inr ⟨b,o,e1,Nat.le_refl _,Nat.le_trans e2 e3,e4,e5,e6⟩
  refine h e t w' Z (bH.refl _ _) (aS.refl _ _) (st.fact (As.Jf ?_) (fun _ C=>C));rw [List.append_nil];exact⟨G,D,I,J,hcn,Rl⟩
 have ho:Ow R E k Z w' e (n+m) t (xs++ys):=by
  refine⟨by rw [G,O,List.length_append],D++Wv,by simp [I,OW],fun r hr=>?_,by simpa using h3,fun i x r e1 e2=>?_⟩
  ·
   rcases List.mem_append.1 hr with hr | hr
   ·
    exact J r hr
   exact DA r hr
  exact R.st h1.size (fun q _ hq=>h1.block q hq (by simp)) (show R.r Z w x r by grind)
 have st2:=st.pf h1 ho Q;exact h e t w' _ (bH.dA (F:=fun x=>x∈aI e) Q) h1 (st2.aY (by rw [List.length_append];omega))
end Go.Rc

namespace Go.Rc
open Go
section
variable {H:Type}{enc:TypeId × Value→H}{P:Program}{w:World}
theorem sO{e:TypeId}:∀{l:List (DataW H)}{d:DataW H},d∈l→∀n∈d.weights P e,n∈DataW.weightsAll P e l
 | [],_,hd,_,_=>by cases hd
 | x::r,d,hd,n,hn=>by
  simp only [DataW.weightsAll,List.mem_append]
  rcases List.mem_cons.1 hd with rfl | hd
  ·
   exact .inl hn
  exact .inr (sO hd n hn)
def J8(P:Program) (t:TypeId) (d:DataW H):Prop:=∀n∈d.weights P t,n≤reachBytes
theorem J8.len{t e:TypeId}{xs ys:List (DataW H)}(h:J8 P t (.slice xs ys)) (ht:P.underlying t=some (.slice e)) (hb:1≤P.bytesOf e):xs.length≤140737488355328:=by
 have h1:=h ((xs.length+ys.length)*P.bytesOf e) (by simp only [DataW.weights,ht];exact List.mem_cons_self)
 unfold reachBytes at h1
 have B:xs.length*1≤(xs.length+ys.length)*P.bytesOf e:=Nat.mul_le_mul (by omega) hb
 omega
theorem J8.elem{t e:TypeId}{xs ys:List (DataW H)}(h:J8 P t (.slice xs ys)) (ht:P.underlying t=some (.slice e)) {d:DataW H}(hd:d∈xs):J8 P e d:=fun n hn=>
 h n (by simp only [DataW.weights,ht,List.mem_cons,List.mem_append];exact .inr (.inl (sO hd n hn)))
theorem J8.each{e:List TypeId}{ds:List (DataW H)}(h:(DataW.weightsEach P e ds).all (·≤reachBytes)=true) {j:Nat}{t:TypeId}{d:DataW H}(ht:e[j]?=some t) (hd:ds[j]?=some d):J8 P t d:=fun n hn=>by
 have:=List.all_eq_true.1 h n (DataW.weights_mem_each ht hd n hn)
 simpa using this
theorem MQ{α:Type} [Inhabited α] {R:α→List Value→Prop}{t e:TypeId}{k fuel n c:Nat}{a:Option Addr}{d:DataW H}{p:List MemPlace}(ht:P.underlying t=some (.slice e)) (hk:P.cellsOf e=k) (B5:1≤k) (hb:1≤P.bytesOf e)
  (hR:∀(m:Nat) (cs:List Value) (d:DataW H) (p:List MemPlace),DataW.trod enc P w 0 (fun _=>true) true m e cs=some (d,p)→cs.length=k→J8 P e d→∃x:α,R x cs)
  (h:DataW.trod enc P w 0 (fun _=>true) true fuel t [.slice a n c]=some (d,p)) (hl:J8 P t d):∃xs:List α,LR (fun b=>b<w.heap.size) w k R a n xs:=by
 rcases Deep.open_slice ht h with⟨hc,_⟩ | ⟨F,len,cap,m,fu,D,Pl,hc,_,hle,_,hm,B,S⟩
 ·
  simp only [List.cons.injEq,Value.slice.injEq,and_true] at hc;obtain⟨rfl,rfl,rfl⟩:=hc;exact⟨[],⟨rfl,by omega,fun B=>by simp at B⟩⟩
 simp only [List.cons.injEq,Value.slice.injEq,and_true] at hc;obtain⟨rfl,rfl,rfl⟩:=hc;simp only [Prod.mk.injEq] at B;obtain⟨rfl,_⟩:=B;simp only [if_true] at hm
 have hn:n≤140737488355328:=by simpa using hl.len ht hb
 have each:∀i,i<n→∃q:α × List Value,w.cells? 0 (F.add (i*k)) k=some q.2∧R q.1 q.2:=fun i hi=>by
  obtain⟨V,h1,W⟩:=S i (by omega);rw [hk] at h1;obtain⟨x,B⟩:=hR _ _ _ _ W (World.cells?_some h1).2.1 (hl.elem ht (List.mem_map.2 ⟨i,by simpa using hi,rfl⟩));exact⟨(x,V),h1,B⟩
 obtain⟨q,G⟩:=Deep.choose_lt each;refine⟨(List.range n).map fun i=>(q i).1,⟨by simp,hn,fun {i x} B=>?_⟩⟩
 obtain⟨hi,rfl⟩:i<n∧(q i).1=x:=by
  rw [List.getElem?_map] at B;obtain⟨j,C,X⟩:=Option.map_eq_some_iff.1 B;rw [List.getElem?_eq_some_iff] at C;obtain⟨I,J⟩:=C
  simp at I J
  subst J;exact⟨I,X⟩
 have O:F.spot=none:=by
  obtain⟨_,UR,Y⟩:=World.cells?_some (G 0 (by omega)).1;have h0:=Y 0 (by omega);rw [List.getElem?_eq_getElem (by omega)] at h0
  have:=World.cell?_spot h0
  simpa [Addr.add] using this
 obtain⟨b,o,s⟩:=F;simp only at O;subst O;obtain⟨_,G8,x9⟩:=World.cells?_some (G i hi).1
 have hr:w.rangeAt b (o+i*k) (q i).2:=fun j v Q=>by
  have C:j<k:=by have:=(List.getElem?_eq_some_iff.1 Q).1;omega
  have:=x9 j C
  rw [WideShapes.add_plain,WideShapes.add_plain] at this;rw [this,Q]
 refine⟨b,o,(q i).2,rfl,G8,(G i hi).2,hr,?_,?_⟩ <;>
  exact World.block_lt_of_cell? w ⟨b,_,none⟩ (hr 0 _ (List.getElem?_eq_getElem (by omega)))
end
def uW(P:Program) (w:World) (n:String):Prop:=∃(nm:String) (d:DataW Unit) (g t:Nat) (ms:Array (String × TypeId)),Lib.VarReads P w n (.iface nm d)∧P.globalNamed n=some g∧(P.globals[g]?).map (·.type)=some t∧P.underlying t=some (.interface ms)
theorem Rm{P:Program}{w:World}{g t e:Nat}(J:Lib.VarReads P w "internal/strconv.uint64pow10" (Lib.tabData .u64 Lib.pow10Tab)) (F:P.globalNamed "internal/strconv.uint64pow10" = some g) (O:(P.globals[g]?).map (·.type)=some t) (ht:P.underlying t=some (.array 20 e)) (he:P.underlying e=some (.int .u64))
  (Q:P.cellsOf e=1) (S:P.cellsOf t=20) (V:uW P w "strconv.ErrSyntax") (W:uW P w "strconv.ErrRange"):lE P (fun b=>b<w.heap.size) w:=by
 obtain⟨g',t',cs,fuel,p,X,Y,B,hd⟩:=J;obtain rfl:=Option.some.inj (F.symm.trans X);obtain rfl:=Option.some.inj (O.symm.trans Y);have hc:=Lib.cells_of_tab ht he Q S hd
 have hT:Lib.TabIs P w "internal/strconv.uint64pow10" .u64 Lib.pow10Tab:=by
  unfold Lib.TabIs
  rw [B,← hc]
 have G:g<w.heap.size:=by
  unfold World.var? at B
  simp only [F,Option.bind_some] at B
  split at B
  ·
   rename_i D
   exact(Array.getElem?_eq_some_iff.1 D).1
  cases B
 refine⟨⟨g,G,G,fun w' e=>?_⟩,fun n hn g2 UY=>?_⟩
 ·
  unfold Lib.TabIs World.var? at hT ⊢
  simp only [F,Option.bind_some] at hT ⊢;rw [e];exact hT
 have hE:uW P w n:=by
  rcases hn with rfl | rfl
  ·
   exact V
  exact W
 obtain⟨nm,d,g3,t3,ms,⟨g4,t4,cs4,aj3,p4,e1,e2,C,hd4⟩,e3,e4,e5⟩:=hE;obtain rfl:=Option.some.inj (e1.symm.trans UY);obtain rfl:=Option.some.inj (e1.symm.trans e3);obtain rfl:=Option.some.inj (e2.symm.trans e4);obtain⟨_,u,v,hcs,_,_⟩:=iface_of_trod e5 hd4
 unfold World.var? at C
 simp only [e1,Option.bind_some] at C
 split at C
 ·
  rename_i c0 x0 y0 D
  obtain rfl:=Option.some.inj C;have I:=(Array.getElem?_eq_some_iff.1 D).1;refine⟨I,I,.iface u v,.inr ⟨u,v,rfl⟩,fun w' e=>?_⟩;obtain rfl:c0=#[.iface u v]:=Array.toList_inj.1 hcs
  unfold World.cell?
  simp only [e,D]
  first | done | rfl
 cases C
theorem aS.Rn{w w':World}(h:aS [] w w') (B:Nat) (e:B≤w.heap.size):RowKit.Below B w w':=⟨h.os,h.tape,h.output,h.size,fun k hk=>h.block k (by omega) (by simp)⟩
end Go.Rc

namespace Go.Rc
open Go
def Ro(m f:Nat):Bool:=Nat.beq (Nat.land (Nat.shiftRight m f) 1) 1
def EM(look:FuncId→Option Func) (P:Program):Nat→List FuncId→Nat→List FuncId→List FuncId
 | 0,_,_,seen=>seen.reverse
 | _,[],_,seen=>seen.reverse
 | n+1,f::todo,mask,seen=>
  match Ro mask f with
  | true=>EM look P n todo mask seen
  | false=>EM look P n ((look f).elim [] P.leadsTo++todo) (Nat.lor mask (Nat.shiftLeft 1 f)) (f::seen)
theorem MR(m f:Nat):Ro m f=m.testBit f:=by
 unfold Ro
 show Nat.beq ((m >>> f) &&& 1) 1=m.testBit f
 rw [Nat.testBit,Nat.and_comm];have h:=Nat.and_one_is_mod (m >>> f);rw [Nat.and_comm]
 have t:(1 &&& m >>> f)=(m >>> f) % 2:=by rw [Nat.and_comm];exact h
 rw [Nat.and_comm,t]
 rcases Nat.mod_two_eq_zero_or_one (m >>> f) with e | e <;> rw [e] <;> rfl
theorem zj{look:FuncId→Option Func}(P:Program) (hl:∀g,P.funcs[g]?=look g):∀(n:Nat) (todo:List FuncId) (mask:Nat) (seen:List FuncId),(∀x:Nat,mask.testBit x=seen.contains x)→EM look P n todo mask seen=P.closureVia n todo seen
 | 0,_,_,_,_=>by unfold EM Program.closureVia;rfl
 | n+1,[],_,_,_=>by unfold EM Program.closureVia;rfl
 | n+1,f::todo,mask,seen,h=>by
  unfold EM Program.closureVia
  rw [MR,h f]
  cases hc:seen.contains f with
  | true=>simp only [if_true];exact zj P hl n todo mask seen h
  | false=>
   simp only [Bool.false_eq_true,if_false];rw [hl f];refine zj P hl n _ _ _ fun x=>?_
   show(mask ||| (1 <<< f)).testBit x=(f::seen).contains x
   rw [Nat.testBit_or,h x,Nat.shiftLeft_eq,Nat.one_mul,Nat.testBit_two_pow,List.contains_cons,Bool.or_comm]
   grind
theorem zk{look:FuncId→Option Func}(P:Program) (hl:∀g,P.funcs[g]?=look g) (f:FuncId):P.closure f=EM look P (1+(P.funcs.toList.map fun g=>(P.leadsTo g).length+1).sum) [f] 0 []:=by grind [Program.closure,zj]
end Go.Rc

namespace Go.Rc
open Go
def zl(P:Program):Nat→List TypeId→List TypeId
 | 0,s=>s
 | d+1,s=>match decide (P.grow s=s) with
  | true=>s
  | false=>zl P d (P.grow s)
theorem ya{P:Program}{s:List TypeId}(h:P.grow s=s):∀n,P.grown n s=s
 | 0=>rfl
 | n+1=>by
  show P.grown n (P.grow s)=s
  rw [h];exact ya h n
theorem yb(P:Program):∀(n:Nat) (s:List TypeId),P.grown n s=zl P n s
 | 0,_=>rfl
 | n+1,s=>by
  show P.grown n (P.grow s)=match decide (P.grow s=s) with | true=>s | false=>zl P n (P.grow s)
  by_cases h:P.grow s=s
  ·
   grind [ya]
  rw [decide_eq_false h];exact yb P n _
def oP(P:Program) (t:TypeId):List TypeId:=zl P P.types.size [t]
theorem me(P:Program) (t:TypeId):P.book t=oP P t:=yb P _ _
def J9(P:Program) (t:TypeId):Bool:=(oP P t).all fun u=>P.fineRow u && (P.partsOf u).all ((oP P t).contains ·)
theorem tP(P:Program) (t:TypeId):P.readableRec t=J9 P t:=by grind [Program.readableRec,J9,me]
def Ka(P:Program) (t:TypeId):Bool:=(oP P t).any fun u=>(P.partsOf u).any fun v=>(oP P v).contains u
theorem Ca(P:Program) (t:TypeId):P.loopsFrom t=Ka P t:=by grind [Program.loopsFrom,Ka,me]
def OY(P:Program) (t:TypeId):Bool:=(oP P t).any fun u=>match P.underlying u with | some (.map _ _)=>true | _=>false
theorem MS(P:Program) (t:TypeId):P.mapsRec t=OY P t:=by grind [Program.mapsRec,OY,me]
def GK(P:Program) (t:TypeId):Bool:=(oP P t).any fun u=>match P.underlying u with | some (.interface _)=>true | _=>false
theorem yc(P:Program) (t:TypeId):P.ifacesRec t=GK P t:=by grind [Program.ifacesRec,GK,me]
def tQ(P:Program) (t:TypeId):Bool:=(oP P t).any fun u=>match P.underlying u with | some (.func ..) | some (.chan ..) | some .unsafePointer=>true | _=>false
theorem rM(P:Program) (t:TypeId):P.veiledRec t=tQ P t:=by grind [Program.veiledRec,tQ,me]
def OZ(P:Program) (t:TypeId):Bool:=
 (oP P t).any fun u=>match P.underlying u with
  | some (.map k _)=>(match P.underlying k with | some (.array _ _) | some (.struct _)=>true | _=>false)
  | _=>false
theorem MT(P:Program) (t:TypeId):P.wideKeysFrom t=OZ P t:=by grind [Program.wideKeysFrom,OZ,me]
def pE(P:Program) (t:TypeId):Bool:=!tQ P t || (let L:=P.libraryStructs;(oP P t).all fun u=>!(P.libraryStructIn L u && tQ P u))
theorem qx(P:Program) (t:TypeId):P.veiledOwn t=pE P t:=by grind [Program.veiledOwn,pE,me,rM]
def Cb(P:Program) (n:String):Bool:=
 match P.globalNamed n with
 | some g=>((P.globals[g]?).map (·.type)).any fun t=>J9 P t && pE P t
 | none=>false
theorem EN(P:Program) (n:String):P.varReadable n=Cb P n:=by grind [Program.varReadable,Cb,tP,qx]
end Go.Rc

namespace Go.Rc
open Go
def blocks{α:Type _}:Nat→List α→List (List α)
 | 0,_=>[]
 | n+1,l=>l.take 32::blocks n (l.drop 32)
def pick{α:Type _}(b:List (List α)) (t:Nat):Option α:=(b[t / 32]?).bind (·[t % 32]?)
theorem kL{α:Type _}:∀(n:Nat) (l:List α) (t:Nat),l.length≤n*32→pick (blocks n l) t=l[t]?
 | 0,l,t,h=>by grind [pick,blocks]
 | n+1,l,t,h=>by
  by_cases ht:t<32
  ·
   grind [pick,blocks]
  have h1:t / 32=(t - 32) / 32+1:=by omega
  have e:t % 32=(t - 32) % 32:=by omega
  have B:=kL n (l.drop 32) (t - 32) (by simp;omega)
  grind [pick,blocks]
def rootOf(b:List (List TypeInfo)) (t:TypeId):Option TypeDesc:=
 (pick b t).bind fun i=>match i.desc with
  | .named _ u=>(pick b u).map (·.desc)
  | d=>some d
def wide(b:List (List TypeInfo)) (t:TypeId):Nat:=((pick b t).map (·.size)).getD 0
theorem rO{P:Program}{n:Nat}(hn:P.types.size≤n*32) {t:TypeId}{i:TypeInfo}(h:pick (blocks n P.types.toList) t=some i):P.info? t=some i:=by
 rw [kL n _ t (by simpa using hn),Array.getElem?_toList] at h;have ht:t<P.types.size:=(Array.getElem?_eq_some_iff.1 h).1
 unfold Tables.info?
 rw [if_pos ht,h]
theorem MU{P:Program}{n:Nat}(hn:P.types.size≤n*32) {t:TypeId}(h:t<P.types.size):∃i,pick (blocks n P.types.toList) t=some i:=by
 rw [kL n _ t (by simpa using hn),Array.getElem?_toList]
 simp_all
theorem rP{P:Program}{n:Nat}(hn:P.types.size≤n*32) {t:TypeId}{d:TypeDesc}(h:rootOf (blocks n P.types.toList) t=some d):P.underlying t=some d:=by
 unfold rootOf at h
 unfold Program.underlying
 cases B:pick (blocks n P.types.toList) t with
 | none=>rw [B] at h;cases h
 | some i=>
  rw [B] at h;rw [rO hn B];obtain⟨e,_⟩:=i
  grind [pick,rO]
theorem qy{P:Program}{n:Nat}(hn:P.types.size≤n*32) {t:TypeId}(h:t<P.types.size):wide (blocks n P.types.toList) t=P.cellsOf t:=by grind [MU,wide,Program.cellsOf,rO]
def stands(b:List (List TypeInfo)) (N:Nat) (t:TypeId):Bool:=Nat.ble (t+1) N && kindOk (rootOf b t)
theorem oj{b:List (List TypeInfo)}{N:Nat}{t:TypeId}(h:stands b N t=true):t<N:=by
 simp only [stands,Bool.and_eq_true] at h;exact Nat.le_of_ble_eq_true h.1
theorem om{P:Program}{n:Nat}(hn:P.types.size≤n*32) {t:TypeId}(h:stands (blocks n P.types.toList) P.types.size t=true):isVar P t=true:=by
 have hl:=oj h;simp only [stands,Bool.and_eq_true] at h
 unfold isVar
 cases hr:rootOf (blocks n P.types.toList) t with
 | none=>rw [hr] at h;cases h.2
 | some d=>grind [rP]
def qz(b:List (List TypeInfo)) (N:Nat):Nat→List Field→Bool
 | _,[]=>true
 | o,f::r=>stands b N f.type && Nat.beq f.offset o && qz b N (o+wide b f.type) r
def sumOf(b:List (List TypeInfo)):List Field→Nat
 | []=>0
 | f::r=>wide b f.type+sumOf b r
def Rp(b:List (List TypeInfo)) (N:Nat) (t:TypeId):Bool:=
 match rootOf b t with
 | none=>false
 | some (.struct fs)=>qz b N 0 fs.toList && Nat.beq (wide b t) (sumOf b fs.toList)
 | some (.array k e)=>stands b N e && Nat.beq (wide b t) (k*wide b e)
 | some (.pointer e)=>stands b N e && Nat.beq (wide b t) 1
 | some (.slice e)=>stands b N e && Nat.beq (wide b t) 1
 | some (.tuple _)=>true
 | some .invalid=>true
 | some (.named _ _)=>true
 | _=>Nat.beq (wide b t) 1
def EC(b:List (List TypeInfo)) (N:Nat) (t:TypeId):Bool:=
 match rootOf b t with
 | none=>false
 | some (.map _ e)=>Nat.ble (e+1) N
 | _=>true
theorem qA{P:Program}{n:Nat}(hn:P.types.size≤n*32):∀(fs:List Field) (o:Nat),qz (blocks n P.types.toList) P.types.size o fs=true→
  (∀f∈fs,isVar P f.type=true)∧(∀j f,fs[j]?=some f→f.offset=o+((fs.take j).map fun f=>P.cellsOf f.type).sum)∧sumOf (blocks n P.types.toList) fs=(fs.map fun f=>P.cellsOf f.type).sum
 | [],_,_=>⟨by simp,by simp,rfl⟩
 | g::r,o,h=>by
  simp only [qz,Bool.and_eq_true] at h;obtain⟨⟨h1,t⟩,e⟩:=h;rw [qy hn (oj h1)] at e;obtain⟨B,i2,i3⟩:=qA hn r _ e;refine⟨fun f C=>?_,fun j f D=>?_,?_⟩
  ·
   grind [om]
  ·
   cases j with
   | zero=>simp_all
   | succ j=>grind
  grind [sumOf,qy,oj]
theorem HN{P:Program}{n:Nat}(hn:P.types.size≤n*32) {t:TypeId}(ht:t<P.types.size) (h:Rp (blocks n P.types.toList) P.types.size t=true):rowFine P t=true:=by
 unfold Rp at h
 rw [qy hn ht] at h
 unfold rowFine
 rw [Bool.or_eq_true]
 cases hr:rootOf (blocks n P.types.toList) t with
 | none=>rw [hr] at h;cases h
 | some d=>
  have hu:=rP hn hr;rw [hr] at h
  cases d with
  | struct fs=>
   right
   simp only [hu];simp only [Bool.and_eq_true] at h;obtain⟨h1,C,B⟩:=qA hn fs.toList 0 h.1;simp only [Bool.and_eq_true,List.all_eq_true,beq_iff_eq];refine⟨⟨h1,(Nat.eq_of_beq_eq_true h.2).trans B⟩,fun j D=>?_⟩
   grind
  | array k e=>
   right
   simp only [hu];simp only [Bool.and_eq_true] at h ⊢;rw [qy hn (oj h.1)] at h;exact⟨om hn h.1,by simp_all⟩
  | pointer e=>
   right
   simp only [hu];simp only [Bool.and_eq_true] at h ⊢;exact⟨om hn h.1,by simp_all⟩
  | slice e=>
   right
   simp only [hu];simp only [Bool.and_eq_true] at h ⊢;exact⟨om hn h.1,by simp_all⟩
  | tuple e=>left;simp [isVar,hu,kindOk]
  | invalid=>left;simp [isVar,hu,kindOk]
  | named a e=>left;simp [isVar,hu,kindOk]
  | _=>
   right
   simp only [hu];rw [beq_iff_eq];exact Nat.eq_of_beq_eq_true h
def Cc(f:Nat→Bool):Nat→Bool
 | 0=>true
 | n+1=>f n && Cc f n
theorem nG{f g:Nat→Bool}:∀(n:Nat),Cc f n=true→(∀t,t<n→f t=true→g t=true)→(List.range n).all g=true
 | 0,_,_=>by simp
 | n+1,h,e=>by
  simp only [Cc,Bool.and_eq_true] at h;rw [List.range_succ,List.all_append,nG n h.2 fun t ht=>e t (by omega)]
  simp [e n (by omega) h.1]
theorem HO{P:Program}{N n:Nat}(e:P.types.size=N) (hn:Nat.ble N (n*32)=true) (h:Cc (Rp (blocks n P.types.toList) N) N=true):(List.range P.types.size).all (rowFine P)=true:=by
 subst e
 exact nG _ h fun t hl ht=>HN (Nat.le_of_ble_eq_true hn) hl ht
theorem EO{P:Program}{N n:Nat}(e:P.types.size=N) (hn:Nat.ble N (n*32)=true) (h:Cc (EC (blocks n P.types.toList) N) N=true):mapsRowed P=true:=by
 subst e
 unfold mapsRowed
 refine nG _ h fun t hl ht=>?_
 unfold EC at ht
 cases hr:rootOf (blocks n P.types.toList) t with
 | none=>rw [hr] at ht;cases ht
 | some d=>
  have hu:=rP (Nat.le_of_ble_eq_true hn) hr
  grind [Nat.le_of_ble_eq_true]
theorem EP{P:Program}{N:Nat}(e:P.types.size=N) (h:P.globals.toList.all (fun g=>Nat.ble (g.type+1) N)=true):P.globals.all (fun g=>decide (g.type<P.types.size))=true:=by grind [Nat.le_of_ble_eq_true]
theorem HP{P:Program}{N:Nat}(e:P.types.size=N) (h:P.funcs.toList.all (fun f=>f.params.toList.all fun t=>Nat.ble (t+1) N)=true):P.funcs.all (fun f=>f.params.all fun t=>decide (t<P.types.size))=true:=by grind [Nat.le_of_ble_eq_true]
theorem Kb{P:Program}(h1:(List.range P.types.size).all (rowFine P)=true) (e:P.globals.all (fun g=>decide (g.type<P.types.size))=true) (B:P.funcs.all (fun f=>f.params.all fun t=>decide (t<P.types.size))=true):laidOutB P=true:=by grind [laidOutB]
theorem both{a b:Bool}(e:a=true) (hb:b=true):(a && b)=true:=by rw [e,hb];rfl
end Go.Rc

namespace Go.Rc
open Go
theorem ET{P:Program}{N n:Nat}(e:P.funcs.size=N) (hn:Nat.ble N (n*32)=true) (g:FuncId):P.funcs[g]?=pick (blocks n P.funcs.toList) g:=by
 subst e;rw [kL n _ g (by simpa using Nat.le_of_ble_eq_true hn),Array.getElem?_toList]
def Kc(name:String):Nat→List Func→List Nat
 | _,[]=>[]
 | k,f::r=>match f.name == name with
  | true=>k::Kc name (k+1) r
  | false=>Kc name (k+1) r
theorem GL(name:String):∀(l:List Func) (k:Nat),Kc name k l=((List.range l.length).filter fun i=>(l[i]?).any (·.name == name)).map (· + k)
 | [],_=>rfl
 | f::r,k=>by
  have h:=GL name r (k+1);rw [List.length_cons,List.range_succ_eq_map,List.filter_cons,List.filter_map,List.getElem?_cons_zero]
  have e:((fun i=>((f::r)[i]?).any (·.name == name))∘Nat.succ)=fun i=>(r[i]?).any (·.name == name):=by
   funext i
   simp
  rw [e]
  have m:∀q:List Nat,(q.map Nat.succ).map (· + k)=q.map (· + (k+1)):=by
   intro q;rw [List.map_map]
   congr 1
   funext x
   show x.succ+k=x+(k+1)
   omega
  unfold Kc
  cases hb:f.name == name with
  | true=>simp only [Option.any_some,hb,if_true,List.map_cons,Nat.zero_add,m,h]
  | false=>simp only [Option.any_some,hb,Bool.false_eq_true,if_false,m,h]
theorem nH(P:Program) (name:String):P.funcNamed name=match Kc name 0 P.funcs.toList with | [i]=>some i | _=>none:=by
 unfold Program.funcNamed
 rw [GL];simp only [Nat.add_zero,List.map_id',Array.length_toList,Array.getElem?_toList]
 generalize (List.range P.funcs.size).filter (fun i=>(P.funcs[i]?).any (·.name == name))=q
 rcases q with _ | ⟨a,_ | ⟨b,r⟩⟩ <;> rfl
theorem nI(P:Program) (word:String):P.worded word=P.funcs.toList.any fun fn=>fn.body.isNone && fn.name == word:=by
 unfold Program.worded
 rw [Array.any_toList]
theorem uX(P:Program):P.laysLater=P.funcs.toList.any fun fn=>fn.body.isNone && (fn.name == "runtime.SetFinalizer" || fn.name == "runtime.AddCleanup" || fn.origin == "runtime.AddCleanup"):=by
 unfold Program.laysLater
 rw [Array.any_toList]
theorem tx(P:Program):P.stopsHeard=P.funcs.toList.all fun fn=>(Stop.rowOf fn).isNone || !fn.norace:=by
 unfold Program.stopsHeard
 rw [Array.all_toList]
def qB:List (String × DataW Unit)→List (String × DataW Unit)→Bool
 | [],[]=>true
 | (n,a)::r,(m,b)::s=>n == m && DataW.same a b && qB r s
 | _,_=>false
theorem sP:∀(l m:List (String × DataW Unit)),qB l m=true→l=m
 | [],[],_=>rfl
 | (n,a)::r,(k,b)::s,h=>by
  simp only [qB,Bool.and_eq_true,beq_iff_eq] at h;rw [h.1.1,DataW.same_eq a b h.1.2,sP r s h.2]
 | [],_::_,h=>by cases h
 | _::_,[],h=>by cases h
theorem MV{P:Program}{n fuel M:Nat}{laid:List (String × DataW Unit)}{os:Os}{tape:Tape}{g:FuncId}(B:varsId P=g) (he:funcsListed laid=[])
  (h:(match runN P n (Machine.entering P (World.unlaid P os) tape g ⟨#[],#[],[]⟩) with
   | .ended (.done _) w=>(DataW.laidRun P w.memory fuel ((laid.filter fun x=>x.2.handleName?.isNone).map (·.1))).any fun x=>nodupBits M x.2 0 && laidRowsB P w.memory x.2 && (laid.filter fun x=>x.2.handleName?.isSome && x.2.funcsIn?.isNone).all (handleAtB P w.memory) && qB x.1 (laid.filter fun x=>x.2.handleName?.isNone)
   | _=>false)=true):doorLeaves P n fuel M laid os tape=some (laid.filter fun x=>x.2.handleName?.isNone,(funcsListed laid).map (·.2.funcsOut)):=by
 unfold doorLeaves
 rw [B]
 split at h
 ·
  rename_i v w hr
  rw [hr]
  simp only
  cases t:DataW.laidRun P w.memory fuel ((laid.filter fun x=>x.2.handleName?.isNone).map (·.1)) with
  | none=>rw [t] at h;cases h
  | some x=>
   rw [t] at h;simp only [Option.any_some,Bool.and_eq_true] at h;obtain⟨⟨⟨h1,C⟩,D⟩,F⟩:=h;have e:=sP _ _ F;rw [he];simp only [Option.bind_some,h1,C,D,Bool.and_self,if_true,List.map_nil,funcsRun,Option.map_some,← e]
 cases h
end Go.Rc

namespace Go.Rc
open Go
theorem yd:∀l:List Int,(l.map fun z=>[Value.int .i64 z]).flatten=l.map (Value.int .i64)
 | []=>rfl
 | x::r=>by rw [List.map_cons,List.map_cons,List.flatten_cons,yd r];rfl
theorem MW{H:Type}{enc:TypeId × Value→H}{P:Program}{w:World}{r:Reach}{base:Nat}{t e:TypeId}{fuel n c:Nat}{a:Option Addr}{d:DataW H}{p:List MemPlace}(ht:P.underlying t=some (.slice e)) (k1:P.cellsOf e=1) (b1:1≤P.bytesOf e) (he:P.underlying e=some (.int .i64))
  (G:Value.okWide P w r base t (.slice a n c)) (h:DataW.trod enc P w 0 (fun _=>true) true fuel t [.slice a n c]=some (d,p)) (hl:J8 P t d):∃l:List Int,Rd RR.int 1 (fun b=>b<w.heap.size) w a n c l:=by
 obtain⟨l,B⟩:=MQ (R:=fun(z:Int) r=>r=[Value.int .i64 z]) ht k1 (Nat.le_refl _) b1 (fun m cs d p hm W _=>by
  obtain⟨z,rfl,_,_⟩:=DataW.trod_int he hm;exact⟨z,rfl⟩) h hl
 refine⟨l,B.len,l.map fun z=>[Value.int .i64 z],by simp,fun r hr=>?_,?_,fun i x r O hr=>?_⟩
 ·
  obtain⟨z,_,rfl⟩:=List.mem_map.1 hr
  rfl
 ·
  rw [yd];refine⟨by simp [B.len],B.le,fun u hu=>?_,?_⟩
  ·
   obtain⟨z,_,rfl⟩:=List.mem_map.1 hu
   rfl
  rcases Deep.open_slice ht h with⟨hc,_⟩ | ⟨q,len,cap,m,X,D,Y,hc,_,hle,Q,_⟩
  ·
   simp only [List.cons.injEq,Value.slice.injEq,and_true] at hc;exact .inl hc
  simp only [List.cons.injEq,Value.slice.injEq,and_true] at hc;obtain⟨rfl,rfl,rfl⟩:=hc
  have C:q.spot=none∧q.block<w.heap.size:=by
   simp only [Value.okWide,ht,Cell.okWide,Cell.ok] at G;obtain⟨_,_,_,S,row,cells,F,_⟩:=G;refine⟨S,?_⟩
   unfold World.shape? at F
   split at F
   ·
    rename_i V
    exact(Array.getElem?_eq_some_iff.1 V).1
   cases F
  obtain⟨b,o,s⟩:=q;obtain⟨I,hb⟩:=C;simp only at I hb;subst I;refine .inr ⟨b,o,rfl,hle,Q,hb,hb,fun j v J=>?_⟩;rw [List.getElem?_map] at J;obtain⟨z,C,rfl⟩:=Option.map_eq_some_iff.1 J;obtain⟨b',o',r',e1,_,rfl,hr,_⟩:=B.at_ C;simp only [Option.some.injEq,Addr.mk.injEq,and_true] at e1;obtain⟨rfl,rfl⟩:=e1
  have:=hr 0 _ rfl
  simpa using this
 rw [List.getElem?_map,O] at hr;exact(Option.some.inj hr).symm
end Go.Rc

