/- Base of the proof: frames, memory, ownership, and the plain meaning of rule systems. Conditions: as each lemma says. -/
import Derived.Test.YtcongbofepbmeaaGreatDoorFBb
set_option linter.all false
namespace Go.Rc
open Go
variable {E EK ER EI base:Nat}{w w':World}{a:Option Addr}{n c:Nat}{S:List Nat}
structure Rec where
 key:Key
 value:ByteArray
 reads:List Key
 changed:Int
 av:Int
 cost:Int
 bJ:Bool
 deriving DecidableEq
instance:Inhabited Rec:=⟨⟨eS,⟨#[]⟩,[],0,0,0,false⟩⟩
def zG:Rec:=⟨eS,⟨#[]⟩,[],0,0,0,false⟩
def Rec.row(x:Rec) (a:Option Addr) (n c:Nat):List Value:=[.int .i64 x.key.kind,.string x.key.text,.string x.value,.slice a n c,.int .i64 x.changed,.int .i64 x.av,.int .i64 x.cost,.bool x.bJ]
structure bU where
 key:Key
 value:ByteArray
 changed:Int
 deriving DecidableEq
def bU.cells(x:bU):List Value:=[.int .i64 x.key.kind,.string x.key.text,.string x.value,.int .i64 x.changed]
structure cA where
 ab:Int
 ad:List bU
 ah:List Rec
 deriving DecidableEq
/-! the plain meaning -/
def aH(l:List Rec) (k:Key):Option Rec:=l.find? fun r=>r.key == k
def bE(l:List bU) (k:Key):bU:=(l.find? fun x=>x.key == k).getD ⟨k,⟨#[]⟩,0⟩
def gh(l:List Rec) (k:Key):List Rec:=l.filter fun r=>!(r.key == k)
end Go.Rc
namespace Go.Rc
open Go
theorem kf{α:Type}{p:α→Bool}{l:List α}{i:Nat}(hi:i<l.length) (h:∀j x,j<i→l[j]?=some x→p x=false) (f:p l[i]=true):l.find? p=some l[i]:=by
 induction l generalizing i with
 | nil=>simp at hi
 | cons y r m=>
  cases i with
  | zero=>simp at f;simp [f]
  | succ i=>
   have h0:p y=false:=h 0 y (by omega) rfl
   grind
theorem sV{α:Type}{p:α→Bool}{l:List α}{i:Nat}(hi:l.length≤i) (f:∀j x,j<i→l[j]?=some x→p x=false):l.find? p=none:=by
 rw [List.find?_eq_none];intro x h;obtain⟨j,m,rfl⟩:=List.mem_iff_getElem.1 h
 simp [f j _ (by omega) (List.getElem?_eq_getElem m)]
theorem Rec.one(x:Rec) (a:Option Addr) (n c:Nat):∀u∈x.row a n c,u.oneCell'=true:=by simp [Rec.row,Value.oneCell']
end Go.Rc
namespace Go.Rc
theorem R1{l:List Go.Value}{j:Nat}{v:Go.Value}(h:nth l j=some v):nth l j≠none:=by rw [h];simp
end Go.Rc
namespace Go.Rc
open Go
def eL(r:Rec):List Rec→Bool→List Rec
 | [],put=>if put then [] else [r]
 | x::xs,put=>(if decide (0≤bp x.key r.key) && !put then [r] else [])++(if bp x.key r.key=0 then [] else [x])++eL r xs (put || decide (0≤bp x.key r.key))
def fb(l:List Rec) (r:Rec):List Rec:=eL r l false
theorem pU(r:Rec):∀(l:List Rec) (b:Bool),(eL r l b).length≤l.length+1:=by
 intro l
 induction l with
 | nil=>intro b;cases b <;> simp [eL]
 | cons x xs f=>
  intro b;have h1:=f (b || decide (0≤bp x.key r.key));simp only [eL,List.length_append,List.length_cons]
  have h:∀l:List Rec,(eL r l true).length≤l.length:=by
   intro l
   induction l with
   | nil=>simp [eL]
   | cons y j m=>simp only [eL,Bool.not_true,Bool.and_false,Bool.false_eq_true,if_false,Bool.true_or,List.length_append,List.length_cons,List.nil_append];split <;> simp <;> omega
  grind
theorem Cp{l:List Rec}{k:Key}{i:Nat}(h:i<l.length):gh (l.take (i+1)) k=if l[i].key=k then gh (l.take i) k else gh (l.take i) k++[l[i]]:=by
 rw [List.take_succ_eq_append_getElem h];simp only [gh,List.filter_append]
 grind
theorem pV(l:List Rec) (k:Key):(gh l k).length≤l.length:=List.length_filter_le _ _
end Go.Rc
namespace Go.Rc
open Go
def fm(x:Rec):Bool:=
 cH x.key && (!aB x.key && (decide ((x.value.size:Int)≤1073741824) && (decide ((x.reads.length:Int)≤4000) && (decide (0≤x.changed) && (decide (x.changed≤x.av) && (decide (x.av≤1073741824) &&
  (decide (1≤x.cost) && (decide (x.cost≤1073741824) && (!x.bJ || ax x.key)))))))))
def dc(x:Rec):Bool:=x.reads.all cH && fm x
def ku(l:List Rec) (i:Nat):Bool:=!dc l[i]! || (decide (0<(i:Int)) && decide (0≤bp l[i - 1]!.key l[i]!.key))
def kg(l:List Rec) (i:Nat) (x:Rec):Prop:=dc x=true∧(0<i→bp l[i - 1]!.key x.key<0)
def kx(l:List Rec):Prop:=l.length≤4000∧∀i x,l[i]?=some x→kg l i x
theorem jm{l:List Rec}{i:Nat}(hi:i<l.length):ku l i=false↔kg l i l[i]:=by
 simp only [ku,kg,getElem!_pos l i hi,Bool.or_eq_false_iff,Bool.and_eq_false_iff,decide_eq_false_iff_not,Bool.not_eq_false']
 grind
end Go.Rc

namespace Go.Rc
open Go
structure fN (M:Nat→Prop) (w w':World):Prop where
 os:w'.os=w.os
 tape:w'.tape=w.tape
 output:w'.output=w.output
 size:w.heap.size≤w'.heap.size
 drawn:w.drawn≤w'.drawn
 block:∀k,k<w.heap.size→¬M k→w'.heap[k]?=w.heap[k]?
theorem aQ.p{S:List Nat}{w w':World}(h:aQ S w w'):fN (fun x=>x∈S) w w':=⟨h.os,h.tape,h.output,h.size,h.drawn,h.block⟩
theorem fN.bT{M:Nat→Prop}{w w':World}(h:fN M w w') (f:∀x,M x→w.heap.size≤x):aQ [] w w':=
 ⟨h.os,h.tape,h.output,h.size,h.drawn,fun k hk _=>h.block k hk fun hm=>by have:=f k hm;omega⟩
theorem fN.refl(M:Nat→Prop) (w:World):fN M w w:=⟨rfl,rfl,rfl,Nat.le_refl _,Nat.le_refl _,fun _ _ _=>rfl⟩
theorem fN.mono{M f:Nat→Prop}{w w':World}(h:fN M w w') (j:∀x,x<w.heap.size→M x→f x):fN f w w':=⟨h.os,h.tape,h.output,h.size,h.drawn,fun k hk hn=>h.block k hk fun hm=>hn (j k hk hm)⟩
structure As where
 fp:Nat→Prop
 ok:(Nat→Prop)→World→Prop
 lt:∀{Z w},ok Z w→∀x,fp x→x<w.heap.size
 mono:∀{Z Z':Nat→Prop}{w},(∀x,Z x→Z' x)→ok Z w→ok Z' w
 st:∀{Z:Nat→Prop}{w w':World},w.heap.size≤w'.heap.size→(∀x,fp x∨Z x→x<w.heap.size→w'.heap[x]?=w.heap[x]?)→ok Z w→ok Z w'
structure St (w0:World) (M Z:Nat→Prop) (w:World) (l:List As):Prop where
 bT:fN M w0 w
 j4:∀x,Z x→x<w.heap.size
 oX:∀A∈l,∀x,A.fp x→¬Z x
 qU:∀A∈l,∀x,A.fp x→M x∨w0.heap.size≤x
 vA:l.Pairwise fun A B=>∀x,A.fp x→¬B.fp x
 ok:∀A∈l,A.ok Z w
structure bA (n:Nat) (Z Z':Nat→Prop):Prop where
 up:∀x,Z x→Z' x
 new:∀x,Z' x→Z x∨n≤x
theorem bA.refl(n:Nat) (Z:Nat→Prop):bA n Z Z:=⟨fun _ h=>h,fun _ h=>.inl h⟩
theorem bA.trans{n j:Nat}{Z Z' m:Nat→Prop}(h:bA n Z Z') (k:bA j Z' m) (hn:n≤j):bA n Z m:=
 ⟨fun x f=>k.up x (h.up x f),fun x f=>by rcases k.new x f with h1 | h1;exact h.new x h1;exact .inr (Nat.le_trans hn h1)⟩
theorem bA.le{n f:Nat}{Z Z':Nat→Prop}(h:bA n Z Z') (hn:f≤n):bA f Z Z':=⟨h.up,fun x j=>by rcases h.new x j with h1 | h1;exact .inl h1;exact .inr (Nat.le_trans hn h1)⟩
def nJ(l:List As) (x:Nat):Prop:=∃A∈l,A.fp x
section
variable {w0 w w':World}{M Z Z':Nat→Prop}{l l0 l1 rest:List As}{A B:As}
theorem St.size(h:St w0 M Z w l):w0.heap.size≤w.heap.size:=h.bT.size
theorem St.start(f:∀x,Z x→x<w.heap.size):St w M Z w []:=⟨fN.refl _ _,f,by simp,by simp,.nil,by simp⟩
theorem St.perm{l':List As}(h:St w0 M Z w l) (j:List.Perm l' l):St w0 M Z w l':=
 ⟨h.bT,h.j4,fun A f=>h.oX A (j.mem_iff.1 f),fun A f=>h.qU A (j.mem_iff.1 f),
  h.vA.perm j.symm (fun m x hb o=>m x o hb),fun A f=>h.ok A (j.mem_iff.1 f)⟩
theorem St.enter(h:St w0 M Z w (l0++rest)):St w (nJ l0) Z w l0:=
 ⟨fN.refl _ _,h.j4,fun A f=>h.oX A (by simp [f]),fun A f x j=>.inl ⟨A,f,j⟩,(List.pairwise_append.1 h.vA).1,fun A f=>h.ok A (by simp [f])⟩
theorem St.leave(h:St w0 M Z w (l0++rest)) (j:St w (nJ l0) Z' w' l1) (o:bA w.heap.size Z Z'):St w0 M Z' w' (l1++rest):=by
 obtain⟨F,t,y⟩:=List.pairwise_append.1 h.vA;have z:∀x,nJ l0 x→M x∨w0.heap.size≤x:=fun x ⟨A,f,m⟩=>h.qU A (by simp [f]) x m;have p:∀A∈rest,∀x,A.fp x→x<w.heap.size:=fun A f=>A.lt (h.ok A (by simp [f]));have G:∀x,nJ l0 x→¬Z x:=fun x ⟨A,f,m⟩=>h.oX A (by simp [f]) x m;refine⟨⟨j.bT.os.trans h.bT.os,j.bT.tape.trans h.bT.tape,j.bT.output.trans h.bT.output,Nat.le_trans h.bT.size j.bT.size,Nat.le_trans h.bT.drawn j.bT.drawn,fun k hk hn=>?_⟩,j.j4,?_,?_,?_,?_⟩
 ·
  rw [j.bT.block k (Nat.lt_of_lt_of_le hk h.bT.size) fun H=>by grind];exact h.bT.block k hk hn
 ·
  intro A f x m q
  rcases List.mem_append.1 f with f | f
  ·
   exact j.oX A f x m q
  rcases o.new x q with h1 | h1
  ·
   exact h.oX A (by simp [f]) x m h1
  have:=p A f x m;omega
 ·
  intro A f x m
  rcases List.mem_append.1 f with f | f
  ·
   rcases j.qU A f x m with h1 | h1
   ·
    exact z x h1
   exact .inr (Nat.le_trans h.bT.size h1)
  exact h.qU A (by simp [f]) x m
 ·
  refine List.pairwise_append.2 ⟨j.vA,t,fun A f B r x m hb=>?_⟩
  rcases j.qU A f x m with⟨C,s,h1⟩ | h1
  ·
   exact y C s B r x h1 hb
  have:=p B r x hb;omega
 intro A f
 rcases List.mem_append.1 f with f | f
 ·
  exact j.ok A f
 refine A.mono (Z:=Z) o.up (A.st j.bT.size (fun x m D=>j.bT.block x D fun⟨C,s,hc⟩=>?_) (h.ok A (by simp [f])))
 grind
theorem St.step(h:St w0 M Z w l) (s:aQ [] w w'):St w0 M Z w' l:=
 St.leave (l0:=[]) (l1:=[]) h ⟨s.p.mono (by simp),fun x f=>Nat.lt_of_lt_of_le (h.j4 x f) s.size,by simp,by simp,.nil,by simp⟩ (bA.refl _ _)
theorem St.new(h:St w0 M Z w l) (s:aQ [] w w') (m:B.ok Z w') (o:∀x,B.fp x→w.heap.size≤x):St w0 M Z w' (B::l):=
 St.leave (l0:=[]) (l1:=[B]) h ⟨s.p.mono (by simp),fun x j=>Nat.lt_of_lt_of_le (h.j4 x j) s.size,fun A f x j q=>by simp at f;subst f;have:=o x j;have:=h.j4 x q;omega,
  fun A f x j=>by grind,by simp,fun A f=>by simp at f;subst f;exact m⟩ (bA.refl _ _)
theorem St.fact(h:St w0 M Z w l) (f:B.ok Z w) (j:∀x,¬B.fp x):St w0 M Z w (B::l):=h.new (aQ.refl _ _) f fun x m=>absurd m (j x)
theorem St.kR(h:St w0 M Z w (A::l)) (s:fN A.fp w w') (p:B.ok Z w') (m:∀x,B.fp x→A.fp x∨w.heap.size≤x):St w0 M Z w' (B::l):=
 St.leave (l0:=[A]) (l1:=[B]) h ⟨s.mono fun x _ j=>⟨A,by simp,j⟩,fun x j=>Nat.lt_of_lt_of_le (h.j4 x j) s.size,fun C f x j o=>by
   simp at f;subst f
   rcases m x j with h1 | h1
   ·
    exact h.oX A (by simp) x h1 o
   have:=h.j4 x o;omega,
  fun C f x j=>by
   simp at f;subst f
   rcases m x j with h1 | h1
   ·
    exact .inl ⟨A,by simp,h1⟩
   exact .inr h1,by simp,fun C f=>by simp at f;subst f;exact p⟩ (bA.refl _ _)
theorem St.freeze(h:St w0 M Z w (A::l)) (p:B.ok (fun x=>Z x∨A.fp x) w) (o:∀x,¬B.fp x):St w0 M (fun x=>Z x∨A.fp x) w (B::l):=by
 refine⟨h.bT,fun x f=>?_,?_,?_,?_,?_⟩
 ·
  rcases f with f | f
  ·
   exact h.j4 x f
  exact A.lt (h.ok A (by simp)) x f
 ·
  intro C j x f m;simp only [List.mem_cons] at j
  rcases j with rfl | j
  ·
   exact o x f
  rcases m with m | m
  ·
   exact h.oX C (by simp [j]) x f m
  exact(List.pairwise_cons.1 h.vA).1 C j x m f
 ·
  intro C j x f;simp only [List.mem_cons] at j
  rcases j with rfl | j
  ·
   exact absurd f (o x)
  exact h.qU C (by simp [j]) x f
 ·
  exact List.pairwise_cons.2 ⟨fun C _ x f=>absurd f (o x),(List.pairwise_cons.1 h.vA).2⟩
 intro C j;simp only [List.mem_cons] at j
 rcases j with rfl | j
 ·
  exact p
 exact C.mono (fun x f=>.inl f) (h.ok C (by simp [j]))
theorem St.drop(h:St w0 M Z w (A::l)):St w0 M Z w l:=
 ⟨h.bT,h.j4,fun C f=>h.oX C (by simp [f]),fun C f=>h.qU C (by simp [f]),(List.pairwise_cons.1 h.vA).2,fun C f=>h.ok C (by simp [f])⟩
theorem St.conv(h:St w0 M Z w (A::l)) (f:B.ok Z w) (j:∀x,B.fp x→A.fp x):St w0 M Z w (B::l):=h.kR (fN.refl _ _) f fun x m=>.inl (j x m)
theorem St.R2{f:Nat→Prop}(h:St w0 M Z w l) (j:∀x,x<w0.heap.size→M x→f x):St w0 f Z w l:=
 ⟨h.bT.mono j,h.j4,h.oX,fun A m x o=>by
  rcases h.qU A m x o with h1 | h1
  ·
   grind
  exact .inr h1,h.vA,h.ok⟩
theorem St.iK{l0:List As}(h:St w0 M Z w (l0++l)):St w0 M Z w l0:=⟨h.bT,h.j4,fun C f=>h.oX C (by simp [f]),fun C f=>h.qU C (by simp [f]),(List.pairwise_append.1 h.vA).1,fun C f=>h.ok C (by simp [f])⟩
theorem St.k0(h:St w0 M Z w l):St w0 M Z w []:=St.iK (l0:=[]) h
theorem St.k1{f:As}(h:St w0 M Z w (f::l)):St w0 M Z w [f]:=St.iK (l0:=[f]) h
theorem St.k2{f j:As}(h:St w0 M Z w (f::j::l)):St w0 M Z w [f,j]:=St.iK (l0:=[f,j]) h
theorem St.k3{f j m:As}(h:St w0 M Z w (f::j::m::l)):St w0 M Z w [f,j,m]:=St.iK (l0:=[f,j,m]) h
theorem St.k4{f j m o:As}(h:St w0 M Z w (f::j::m::o::l)):St w0 M Z w [f,j,m,o]:=St.iK (l0:=[f,j,m,o]) h
theorem St.e0(h:St w0 M Z w l):St w (nJ []) Z w []:=St.enter (l0:=[]) h
theorem St.e1{f:As}(h:St w0 M Z w (f::l)):St w (nJ [f]) Z w [f]:=St.enter (l0:=[f]) h
theorem St.e2{f j:As}(h:St w0 M Z w (f::j::l)):St w (nJ [f,j]) Z w [f,j]:=St.enter (l0:=[f,j]) h
theorem St.e3{f j m:As}(h:St w0 M Z w (f::j::m::l)):St w (nJ [f,j,m]) Z w [f,j,m]:=St.enter (l0:=[f,j,m]) h
theorem St.e4{f j m o:As}(h:St w0 M Z w (f::j::m::o::l)):St w (nJ [f,j,m,o]) Z w [f,j,m,o]:=St.enter (l0:=[f,j,m,o]) h
theorem St.g0{f:As}(h:St w0 M Z w (f::l)):f.ok Z w:=h.ok _ (by simp)
theorem St.g1{j f:As}(h:St w0 M Z w (j::f::l)):f.ok Z w:=h.ok _ (by simp)
theorem St.g2{j m f:As}(h:St w0 M Z w (j::m::f::l)):f.ok Z w:=h.ok _ (by simp)
theorem St.g3{j m o f:As}(h:St w0 M Z w (j::m::o::f::l)):f.ok Z w:=h.ok _ (by simp)
theorem St.g4{j m o p f:As}(h:St w0 M Z w (j::m::o::p::f::l)):f.ok Z w:=h.ok _ (by simp)
theorem St.g5{j m o p q f:As}(h:St w0 M Z w (j::m::o::p::q::f::l)):f.ok Z w:=h.ok _ (by simp)
theorem St.g6{j m o p q r f:As}(h:St w0 M Z w (j::m::o::p::q::r::f::l)):f.ok Z w:=h.ok _ (by simp)
theorem St.g7{j m o p q r s f:As}(h:St w0 M Z w (j::m::o::p::q::r::s::f::l)):f.ok Z w:=h.ok _ (by simp)
theorem St.g8{j m o p q r s t f:As}(h:St w0 M Z w (j::m::o::p::q::r::s::t::f::l)):f.ok Z w:=h.ok _ (by simp)
theorem St.g9{j m o p q r s t x f:As}(h:St w0 M Z w (j::m::o::p::q::r::s::t::x::f::l)):f.ok Z w:=h.ok _ (by simp)
theorem St.g10{j m o p q r s t x y f:As}(h:St w0 M Z w (j::m::o::p::q::r::s::t::x::y::f::l)):f.ok Z w:=h.ok _ (by simp)
theorem St.g11{j m o p q r s t x y z f:As}(h:St w0 M Z w (j::m::o::p::q::r::s::t::x::y::z::f::l)):f.ok Z w:=h.ok _ (by simp)
theorem St.g12{j m o p q r s t x y z C f:As}(h:St w0 M Z w (j::m::o::p::q::r::s::t::x::y::z::C::f::l)):f.ok Z w:=h.ok _ (by simp)
theorem St.g13{j m o p q r s t x y z C D f:As}(h:St w0 M Z w (j::m::o::p::q::r::s::t::x::y::z::C::D::f::l)):f.ok Z w:=h.ok _ (by simp)
theorem St.g14{j m o p q r s t x y z C D F f:As}(h:St w0 M Z w (j::m::o::p::q::r::s::t::x::y::z::C::D::F::f::l)):f.ok Z w:=h.ok _ (by simp)
theorem St.g15{j m o p q r s t x y z C D F G f:As}(h:St w0 M Z w (j::m::o::p::q::r::s::t::x::y::z::C::D::F::G::f::l)):f.ok Z w:=h.ok _ (by simp)
theorem St.p1{f j:As}(h:St w0 M Z w (f::j::l)):St w0 M Z w (j::f::l):=h.perm (List.perm_middle (l₁:=[f])).symm
theorem St.p2{f j m:As}(h:St w0 M Z w (f::j::m::l)):St w0 M Z w (m::f::j::l):=h.perm (List.perm_middle (l₁:=[f,j])).symm
theorem St.p3{f j m o:As}(h:St w0 M Z w (f::j::m::o::l)):St w0 M Z w (o::f::j::m::l):=h.perm (List.perm_middle (l₁:=[f,j,m])).symm
theorem St.p4{f j m o p:As}(h:St w0 M Z w (f::j::m::o::p::l)):St w0 M Z w (p::f::j::m::o::l):=h.perm (List.perm_middle (l₁:=[f,j,m,o])).symm
theorem St.p5{f j m o p q:As}(h:St w0 M Z w (f::j::m::o::p::q::l)):St w0 M Z w (q::f::j::m::o::p::l):=h.perm (List.perm_middle (l₁:=[f,j,m,o,p])).symm
theorem St.p6{f j m o p q r:As}(h:St w0 M Z w (f::j::m::o::p::q::r::l)):St w0 M Z w (r::f::j::m::o::p::q::l):=h.perm (List.perm_middle (l₁:=[f,j,m,o,p,q])).symm
theorem St.p7{f j m o p q r s:As}(h:St w0 M Z w (f::j::m::o::p::q::r::s::l)):St w0 M Z w (s::f::j::m::o::p::q::r::l):=h.perm (List.perm_middle (l₁:=[f,j,m,o,p,q,r])).symm
theorem St.p8{f j m o p q r s t:As}(h:St w0 M Z w (f::j::m::o::p::q::r::s::t::l)):St w0 M Z w (t::f::j::m::o::p::q::r::s::l):=h.perm (List.perm_middle (l₁:=[f,j,m,o,p,q,r,s])).symm
theorem St.p9{f j m o p q r s t x:As}(h:St w0 M Z w (f::j::m::o::p::q::r::s::t::x::l)):St w0 M Z w (x::f::j::m::o::p::q::r::s::t::l):=h.perm (List.perm_middle (l₁:=[f,j,m,o,p,q,r,s,t])).symm
theorem St.pQ{f j m o p q r s t x y:As}(h:St w0 M Z w (f::j::m::o::p::q::r::s::t::x::y::l)):St w0 M Z w (y::f::j::m::o::p::q::r::s::t::x::l):=h.perm (List.perm_middle (l₁:=[f,j,m,o,p,q,r,s,t,x])).symm
theorem St.l9{f j m o p q r s t x y z:As}(h:St w0 M Z w (f::j::m::o::p::q::r::s::t::x::y::z::l)):St w0 M Z w (z::f::j::m::o::p::q::r::s::t::x::y::l):=h.perm (List.perm_middle (l₁:=[f,j,m,o,p,q,r,s,t,x,y])).symm
theorem St.Cq{f j m o p q r s t x y z C:As}(h:St w0 M Z w (f::j::m::o::p::q::r::s::t::x::y::z::C::l)):St w0 M Z w (C::f::j::m::o::p::q::r::s::t::x::y::z::l):=h.perm (List.perm_middle (l₁:=[f,j,m,o,p,q,r,s,t,x,y,z])).symm
theorem St.rY{f j m o p q r s t x y z C D:As}(h:St w0 M Z w (f::j::m::o::p::q::r::s::t::x::y::z::C::D::l)):St w0 M Z w (D::f::j::m::o::p::q::r::s::t::x::y::z::C::l):=h.perm (List.perm_middle (l₁:=[f,j,m,o,p,q,r,s,t,x,y,z,C])).symm
theorem St.Hm{f j m o p q r s t x y z C D F:As}(h:St w0 M Z w (f::j::m::o::p::q::r::s::t::x::y::z::C::D::F::l)):St w0 M Z w (F::f::j::m::o::p::q::r::s::t::x::y::z::C::D::l):=h.perm (List.perm_middle (l₁:=[f,j,m,o,p,q,r,s,t,x,y,z,C,D])).symm
theorem St.WE{f j m o p q r s t x y z C D F G:As}(h:St w0 M Z w (f::j::m::o::p::q::r::s::t::x::y::z::C::D::F::G::l)):St w0 M Z w (G::f::j::m::o::p::q::r::s::t::x::y::z::C::D::F::l):=h.perm (List.perm_middle (l₁:=[f,j,m,o,p,q,r,s,t,x,y,z,C,D,F])).symm
end
/-! what may be said -/
def As.blk(b T:Nat) (cs:List Value):As where
 fp x:=x=b
 ok _ w:=cC w b T cs
 lt h x hx:=by subst hx;exact h.lt
 mono _ h:=h
 st hs hc h:=by
  have h':_=_:=h
  show _=_
  grind
def As.map{κ:Type}(enc:κ→Value) (b:Nat) (l:List (κ × Value)):As where
 fp x:=x=b
 ok _ w:=KM enc w b l
 lt h x hx:=by subst hx;exact h.lt
 mono _ h:=h
 st hs hc h:=by
  have hl:=h.lt;obtain⟨es,c,h1,h2⟩:=h;exact⟨es,c,by rw [hc b (.inl rfl) hl];exact h1,h2⟩
structure RR (α:Type) where
 r:(Nat→Prop)→World→α→List Value→Prop
 mono:∀{Z Z':Nat→Prop}{w x row},(∀x,Z x→Z' x)→r Z w x row→r Z' w x row
 st:∀{Z:Nat→Prop}{w w':World}{x row},w.heap.size≤w'.heap.size→(∀x,Z x→x<w.heap.size→w'.heap[x]?=w.heap[x]?)→r Z w x row→r Z w' x row
 cut:∀{Z:Nat→Prop}{w:World}{x row},r Z w x row→r (fun b=>Z b∧b<w.heap.size) w x row
theorem SL.st{Z:Nat→Prop}{w w':World}{k n c:Nat}{a:Option Addr}{cs:List Value}(f:w.heap.size≤w'.heap.size) (hc:∀x,Z x→x<w.heap.size→w'.heap[x]?=w.heap[x]?) (h:SL Z w k a n c cs):SL Z w' k a n c cs:=by
 refine⟨h.len,h.le,h.one,?_⟩
 rcases h.at_ with h1 | ⟨b,o,h1,m,p,q,r,s⟩
 ·
  exact .inl h1
 exact .inr ⟨b,o,h1,m,p,q,Nat.lt_of_lt_of_le r f,fun j v t=>by rw [← s j v t];grind [World.cell?_of_block]⟩
theorem SR.st{α:Type}{R f:α→List Value→Prop}{Z:Nat→Prop}{w w':World}{k n c:Nat}{a:Option Addr}{xs:List α}(j:w.heap.size≤w'.heap.size) (hc:∀x,Z x→x<w.heap.size→w'.heap[x]?=w.heap[x]?) (m:∀x r,R x r→f x r)
  (h:SR Z w k R a n c xs):SR Z w' k f a n c xs:=by
 obtain⟨hn,rows,hl,hk,h1,o⟩:=h;exact⟨hn,rows,hl,hk,SL.st j hc h1,fun i x r h1 p=>m x r (o i x r h1 p)⟩
def RR.flat{α:Type}(f:α→List Value):RR α:=⟨fun _ _ x row=>row=f x,fun _ h=>h,fun _ _ h=>h,fun h=>h⟩
def Rd{α:Type}(R:RR α) (k:Nat) (Z:Nat→Prop) (w:World) (a:Option Addr) (n c:Nat) (xs:List α):Prop:=SR Z w k (R.r Z w) a n c xs
theorem Rd.mono{α:Type}{R:RR α}{k:Nat}{Z Z':Nat→Prop}{w:World}{a:Option Addr}{n c:Nat}{xs:List α}(f:∀x,Z x→Z' x) (h:Rd R k Z w a n c xs):Rd R k Z' w a n c xs:=
 SR.mono h (fun b hb _=>f b hb) fun _ _=>R.mono f
theorem Rd.st{α:Type}{R:RR α}{k:Nat}{Z:Nat→Prop}{w w':World}{a:Option Addr}{n c:Nat}{xs:List α}(f:w.heap.size≤w'.heap.size) (hc:∀x,Z x→x<w.heap.size→w'.heap[x]?=w.heap[x]?) (h:Rd R k Z w a n c xs):Rd R k Z w' a n c xs:=
 SR.st f hc (fun _ _=>R.st f hc) h
theorem Rd.len{α:Type}{R:RR α}{k:Nat}{Z:Nat→Prop}{w:World}{a:Option Addr}{n c:Nat}{xs:List α}(h:Rd R k Z w a n c xs):n=xs.length:=SR.len h
theorem Rd.le{α:Type}{R:RR α}{k:Nat}{Z:Nat→Prop}{w:World}{a:Option Addr}{n c:Nat}{xs:List α}(h:Rd R k Z w a n c xs):n≤140737488355328:=SR.le h
theorem Rd.at{α:Type}{R:RR α}{k:Nat}{Z:Nat→Prop}{w:World}{a:Option Addr}{n c:Nat}{xs:List α}(h:Rd R k Z w a n c xs) {i:Nat}(hi:i<xs.length) :
  ∃b o r,a=some ⟨b,o,none⟩∧r.length=k∧R.r Z w xs[i] r∧w.rangeAt b (o+i*k) r∧Z b:=SR.at h (List.getElem?_eq_getElem hi)
theorem Rd.ext{α:Type}{R:RR α}{k:Nat}{Z:Nat→Prop}{w w':World}{a:Option Addr}{n c:Nat}{xs:List α}(h:Rd R k Z w a n c xs) (s:aQ [] w w'):Rd R k Z w' a n c xs:=
 h.st s.size fun x _ f=>s.block x f (by simp)
theorem Rd.cut{α:Type}{R:RR α}{k:Nat}{Z:Nat→Prop}{w:World}{a:Option Addr}{n c:Nat}{xs:List α}(h:Rd R k Z w a n c xs):Rd R k (fun b=>Z b∧b<w.heap.size) w a n c xs:=
 SR.mono h (fun _ hb f=>⟨hb,f⟩) fun _ _ h=>R.cut h
theorem Rd.nil{α:Type}(R:RR α) (k:Nat) (Z:Nat→Prop) (w:World):Rd R k Z w none 0 0 []:=SR.nil _ _ _ _
def As.ro{α:Type}(R:RR α) (k:Nat) (a:Option Addr) (n c:Nat) (xs:List α):As where
 fp _:=False
 ok Z w:=Rd R k Z w a n c xs
 lt _ _ hx:=hx.elim
 mono hZ h:=Rd.mono hZ h
 st hs hc h:=Rd.st hs (fun x hx=>hc x (.inr hx)) h
def Ow{α:Type}(R:RR α) (E k:Nat) (Z:Nat→Prop) (w:World) (a:Option Addr) (n c:Nat) (xs:List α):Prop:=OR 0 w E k (R.r Z w) a n c xs
theorem OL.st{base:Nat}{w w':World}{E k n c:Nat}{a:Option Addr}{cs:List Value}(hc:∀x,x∈aG a→x<w.heap.size→w'.heap[x]?=w.heap[x]?) (h:OL base w E k a n c cs):OL base w' E k a n c cs:=by
 refine⟨h.1,h.2.1,?_⟩;have j:=h.lt
 rcases h.2.2 with hn | ⟨g,cap,cur,h1,f,m,rest⟩
 ·
  exact .inl hn
 simp at h1
 obtain⟨rfl,rfl⟩:=h1;exact .inr ⟨g,c,cur,rfl,f,by grind [aG],rest⟩
def As.os{α:Type}(R:RR α) (E k:Nat) (a:Option Addr) (n c:Nat) (xs:List α):As where
 fp x:=x∈aG a
 ok Z w:=Ow R E k Z w a n c xs
 lt h:=OR.lt h
 mono hZ h:=by
  obtain⟨hn,rows,hl,hk,h1,hx⟩:=h;exact⟨hn,rows,hl,hk,h1,fun i x r h1 h2=>R.mono hZ (hx i x r h1 h2)⟩
 st hs hc h:=by
  obtain⟨hn,rows,hl,hk,h1,hx⟩:=h;exact⟨hn,rows,hl,hk,OL.st (fun x hx=>hc x (.inl hx)) h1,fun i x r h1 h2=>R.st hs (fun x hx=>hc x (.inr hx)) (hx i x r h1 h2)⟩
theorem As.ND{α:Type}(R:RR α) (E k:Nat) (Z:Nat→Prop) (w:World):(As.os R E k none 0 0 []).ok Z w:=OR.nil _ _ _ _ _
theorem As.JS{α:Type}(R:RR α) (E k n c:Nat) (xs:List α):∀x,¬(As.os R E k none n c xs).fp x:=fun x f=>by simp [As.os,aG] at f
section
variable {w0 w w':World}{M Z Z':Nat→Prop}{l:List As}{α:Type}{R:RR α}
theorem St.dy(h:St w0 M Z w l) {b T:Nat}{cs:List Value}(f:zn w w' b) (hb:cC w' b T cs):St w0 M Z w' (As.blk b T cs::l):=
 h.new f.ext hb fun x j=>by have h1:x=b:=j;subst h1;exact f.gS (aQ.refl [] _)
theorem St.JT{κ:Type}{enc:κ→Value}(h:St w0 M Z w l) {b:Nat}{cs:List (κ × Value)}(f:zn w w' b) (hb:KM enc w' b cs):St w0 M Z w' (As.map enc b cs::l):=
 h.new f.ext hb fun x j=>by have h1:x=b:=j;subst h1;exact f.gS (aQ.refl [] _)
theorem St.zH{b T j:Nat}{cs m:List Value}(h:St w0 M Z w (As.blk b T cs::l)) (s:aQ [b] w w') (hb:cC w' b j m):St w0 M Z w' (As.blk b j m::l):=
 h.kR (s.p.mono fun x _ f=>by simpa [As.blk] using f) hb fun x f=>.inl f
theorem St.jn{κ:Type}{enc:κ→Value}{b:Nat}{cs j:List (κ × Value)}(h:St w0 M Z w (As.map enc b cs::l)) (s:aQ [b] w w') (hb:KM enc w' b j):St w0 M Z w' (As.map enc b j::l):=
 h.kR (s.p.mono fun x _ f=>by simpa [As.map] using f) hb fun x f=>.inl f
theorem St.df(h:St w0 M Z w l) (R:RR α) (E k:Nat):St w0 M Z w (As.os R E k none 0 0 []::l):=h.fact (As.ND _ _ _ _ _) (As.JS _ _ _ _ _ _)
theorem St.fO{E k n c m o:Nat}{a f:Option Addr}{xs q:List α}(h:St w0 M Z w (As.os R E k a n c xs::l)) (s:aQ (aG a) w w') (t:OR 0 w' E k (R.r Z w) f m o q) (y:∀x∈aG f,x∈aG a∨w.heap.size≤x) :
  St w0 M Z w' (As.os R E k f m o q::l):=by
 refine h.kR (s.p.mono fun x _ j=>j) ?_ y;obtain⟨hn,rows,hl,hk,h1,j⟩:=t;refine⟨hn,rows,hl,hk,h1,fun i x r h1 z=>R.st s.size (fun x C D=>?_) (j i x r h1 z)⟩
 exact s.block x D fun hm=>h.oX (As.os R E k a n c xs) (by simp) x hm C
theorem St.vB(h:St w0 M Z w l) {E k n c:Nat}{a:Option Addr}{xs:List α}(s:aQ [] w w') (f:Ow R E k Z w' a n c xs) (j:∀x∈aG a,w.heap.size≤x):St w0 M Z w' (As.os R E k a n c xs::l):=h.new s f j
theorem Ow.rd{E k n c:Nat}{a:Option Addr}{xs:List α}(h:Ow R E k Z w a n c xs) (hle:xs.length≤140737488355328):Rd R k (fun x=>Z x∨x∈aG a) w a n c xs:=by
 obtain⟨hn,rows,hl,hk,h1,j⟩:=h;refine⟨hn,rows,hl,hk,?_,fun i x r h1 m=>R.mono (fun _ h=>.inl h) (j i x r h1 m)⟩;have f:=h1.sl (A:=fun _=>True) (fun _ _=>trivial) (by omega);refine⟨f.len,f.le,f.one,?_⟩
 grind [SL.at_,aG]
theorem St.a8{E k n c:Nat}{a:Option Addr}{xs:List α}(h:St w0 M Z w (As.os R E k a n c xs::l)) (hle:xs.length≤140737488355328):St w0 M (fun x=>Z x∨x∈aG a) w (As.ro R k a n c xs::l):=
 h.freeze (A:=As.os R E k a n c xs) (B:=As.ro R k a n c xs) (Ow.rd (h.g0) hle) fun _ f=>f
theorem bA.dx{n:Nat}{Z F:Nat→Prop}(h:∀x,F x→n≤x):bA n Z (fun x=>Z x∨F x):=⟨fun _ h=>.inl h,fun x f=>by grind⟩
theorem Ow.len{E k n c:Nat}{a:Option Addr}{xs:List α}(h:Ow R E k Z w a n c xs):n=xs.length:=OR.len h
theorem As.gb{b T:Nat}{cs:List Value}(h:(As.blk b T cs).ok Z w):cC w b T cs:=h
theorem As.gm{κ:Type}{enc:κ→Value}{b:Nat}{cs:List (κ × Value)}(h:(As.map enc b cs).ok Z w):KM enc w b cs:=h
theorem As.gs{E k n c:Nat}{a:Option Addr}{xs:List α}(h:(As.os R E k a n c xs).ok Z w):Ow R E k Z w a n c xs:=h
theorem As.gr{k n c:Nat}{a:Option Addr}{xs:List α}(h:(As.ro R k a n c xs).ok Z w):Rd R k Z w a n c xs:=h
end
theorem aQ.p0{M:Nat→Prop}{w w':World}(h:aQ [] w w'):fN M w w':=h.p.mono (by simp)
theorem St.cg{w0 w:World}{Z:Nat→Prop}{l:List As}(h:St w0 (fun _=>False) Z w l):aQ [] w0 w:=h.bT.bT (fun _ h=>h.elim)
theorem St.cj{w0 w:World}{M Z:Nat→Prop}{l:List As}(h:St w0 M Z w l):∀x,nJ l x→x<w.heap.size:=fun x ⟨A,f,j⟩=>A.lt (h.ok A f) x j
def As.rg(b o:Nat) (r:List Value):As where
 fp _:=False
 ok Z w:=Z b∧b<w.heap.size∧w.rangeAt b o r
 lt _ _ hx:=hx.elim
 mono hZ h:=⟨hZ _ h.1,h.2⟩
 st hs hc h:=⟨h.1,Nat.lt_of_lt_of_le h.2.1 hs,fun j v hv=>by rw [← h.2.2 j v hv];grind [World.cell?_of_block]⟩
theorem As.XT{α:Type}{R:RR α}{k n c:Nat}{a:Option Addr}{xs:List α}{Z:Nat→Prop}{w:World}(h:Rd R k Z w a n c xs):(As.ro R k a n c xs).ok Z w:=h
theorem St.bB{w w':World}{Z:Nat→Prop}{l:List As}{A:As}(h:St w (nJ []) Z w' (A::l)):∀x,A.fp x→w.heap.size≤x:=fun x f=>by
 rcases h.qU A (by simp) x f with⟨B,j,_⟩ | h1
 ·
  cases j
 exact h1
theorem As.ma{w:World}{Z:Nat→Prop}{b o:Nat}{r:List Value}(h:(As.rg b o r).ok Z w):w.rangeAt b o r:=h.2.2
theorem As.R3{w:World}{Z:Nat→Prop}{b o:Nat}{r:List Value}(h:Z b) (f:b<w.heap.size) (hr:w.rangeAt b o r):(As.rg b o r).ok Z w:=⟨h,f,hr⟩
theorem RR.bN{α:Type}{f:α→List Value}{Z:Nat→Prop}{w:World}{x:α}{r:List Value}(h:(RR.flat f).r Z w x r):r=f x:=h
section
variable {P:Program}{n:Nat}{kv:KV}{w:World}{Q:Exit→Act→World→Prop}{w0:World}{M Z:Nat→Prop}
theorem WC.bd{σ:Type}{c:Code}{rest:List As}{dm:σ→KV}{F:σ→List As}{I:σ→Prop}{μ:σ→Nat}(f:σ) (h:St w0 M Z w (F f++rest)) (j:Sub kv (dm f)) (m:I f)
  (round:∀s w',St w0 M Z w' (F s++rest)→I s→WC P c (Exit.then (fun o p=>∃s',Fr n o (dm s')∧(St w0 M Z p (F s'++rest)∧I s')∧μ s'<μ s) Q) n (dm s) w'):WC P (.loop c) Q n kv w:=
 WC.loop (σ:=σ) (dm:=dm) (I:=fun s w'=>St w0 M Z w' (F s++rest)∧I s) (μ:=μ) f j ⟨h,m⟩ fun s w' ⟨h1,q⟩=>round s w' h1 q
theorem WC.ie{σ:Type}{c:Code}{rest:List As}{dm:σ→KV}{F:σ→List As}{I:σ→Prop}{μ:σ→Nat}{Zf:σ→Nat→Prop}(f:σ) (h:St w0 M (Zf f) w (F f++rest)) (j:Sub kv (dm f)) (m:I f)
  (round:∀s w',St w0 M (Zf s) w' (F s++rest)→I s→WC P c (Exit.then (fun o p=>∃s',Fr n o (dm s')∧(St w0 M (Zf s') p (F s'++rest)∧I s')∧μ s'<μ s) Q) n (dm s) w'):WC P (.loop c) Q n kv w:=
 WC.loop (σ:=σ) (dm:=dm) (I:=fun s w'=>St w0 M (Zf s) w' (F s++rest)∧I s) (μ:=μ) f j ⟨h,m⟩ fun s w' ⟨h1,q⟩=>round s w' h1 q
theorem WC.cI{c:Code}{t:Nat}{v:Value}{l:List As}(_hst:St w0 M Z w l) (h:WC P c (qN n t v kv fun f=>St w0 M Z f l) n kv w) (j:∀w',St w0 M Z w' l→EX Q .normal n ((t,v)::kv) w'):WC P c Q n kv w:=
 WC.jH (fun f=>St w0 M Z f l) h j
theorem WC.gW{c:Code}{t:Nat}{v:Value}{l:List As}(_hst:St w0 M Z w l) (h:WC P c (qN n t v (gU t kv) fun f=>St w0 M Z f l) n kv w) (j:∀w',St w0 M Z w' l→EX Q .normal n ((t,v)::gU t kv) w'):WC P c Q n kv w:=
 WC.kV (fun f=>St w0 M Z f l) h j
theorem WC.Hn{id m:Nat}{l:List Oper}{ls:List As}(T:Nat→World→World→Prop) {E:Nat→Option (Value→World→Prop)}(h:St w0 M Z w ls)
  (o:∀i S,E i=some S→∀j p,E j=some p→j≠i→j∉eM l.toArray i→∀v w1 w2,(w.heap.size≤w1.heap.size∧St w0 M Z w1 ls)→(w.heap.size≤w2.heap.size∧St w0 M Z w2 ls)→T j w1 w2→S v w1→S v w2) (hm:P.follows .mixedOrders=true) (q:sM l m []=true)
  (r:DW P l.toArray n (fun f=>w.heap.size≤f.heap.size∧St w0 M Z f ls) T E (fun kv w=>WL P l.toArray Q (l.drop m) n kv w) 0 (l.take m) kv []):WC P (.region id l.toArray true) Q n kv w:=
 WC.drawn (C:=fun f=>w.heap.size≤f.heap.size∧St w0 M Z f ls) (T:=T) o hm q ⟨Nat.le_refl _,h.step (aQ.drew [] w)⟩ r
theorem WC.cJ{id m:Nat}{l:List Oper}{ls:List As}{E:Nat→Option (Value→World→Prop)}(h:St w0 M Z w ls)
  (o:∀i S,E i=some S→∀j p,E j=some p→j≠i→j∉eM l.toArray i→∀v w1 w2,(w.heap.size≤w1.heap.size∧St w0 M Z w1 ls)→(w.heap.size≤w2.heap.size∧St w0 M Z w2 ls)→fN (nJ ls) w1 w2→S v w1→S v w2) (hm:P.follows .mixedOrders=true) (q:sM l m []=true)
  (r:DW P l.toArray n (fun f=>w.heap.size≤f.heap.size∧St w0 M Z f ls) (fun _=>fN (nJ ls)) E (fun kv w=>WL P l.toArray Q (l.drop m) n kv w) 0 (l.take m) kv []):WC P (.region id l.toArray true) Q n kv w:=
 WC.drawn (C:=fun f=>w.heap.size≤f.heap.size∧St w0 M Z f ls) (T:=fun _=>fN (nJ ls)) o hm q ⟨Nat.le_refl _,h.step (aQ.drew [] w)⟩ r
end
def PB(N T:Nat) (cs:List Value) (v:Value) (w:World):Prop:=∃b,v=.pointer (some ⟨b,0,none⟩)∧N≤b∧cC w b T cs
theorem PB.st{N T:Nat}{cs:List Value}{F:Nat→Prop}(j:∀x,F x→x<N) {v:Value}{w w':World}(c:fN F w w') (h:PB N T cs v w):PB N T cs v w':=by
 obtain⟨b,h1,m,f⟩:=h;exact⟨b,h1,m,by have o:_=_:=f;show _=_;rw [c.block b f.lt fun p=>by have:=j b p;omega];exact o⟩
theorem PB.get{N T b:Nat}{cs:List Value}{w:World}(h:PB N T cs (.pointer (some ⟨b,0,none⟩)) w):N≤b∧cC w b T cs:=by
 obtain⟨b',h1,f,j⟩:=h
 grind
theorem St.add{w0 w:World}{M Z:Nat→Prop}{l:List As}{B:As}{N:Nat}(h:St w0 M Z w l) (m:B.ok Z w) (o:∀x,B.fp x→N≤x) (hl:∀x,nJ l x→x<N) (q:∀x,Z x→x<N) (h0:w0.heap.size≤N):St w0 M Z w (B::l) where
 bT:=h.bT
 j4:=h.j4
 oX A f x j p:=by
  simp only [List.mem_cons] at f
  rcases f with rfl | f
  ·
   grind
  exact h.oX A f x j p
 qU A f x j:=by
  simp only [List.mem_cons] at f
  rcases f with rfl | f
  ·
   grind
  exact h.qU A f x j
 vA:=List.pairwise_cons.2 ⟨fun A f x j hb=>by have:=o x j;have:=hl x ⟨A,f,hb⟩;omega,h.vA⟩
 ok A f:=by
  simp only [List.mem_cons] at f
  rcases f with rfl | f
  ·
   exact m
  exact h.ok A f
theorem St.pW{w0 w:World}{M Z:Nat→Prop}{l:List As}{N b T:Nat}{cs:List Value}(h:St w0 M Z w l) (f:PB N T cs (.pointer (some ⟨b,0,none⟩)) w) (hl:∀x,nJ l x→x<N) (j:∀x,Z x→x<N) (h0:w0.heap.size≤N):St w0 M Z w (As.blk b T cs::l):=
 h.add (B:=As.blk b T cs) f.get.2 (fun x m=>by have h1:x=b:=m;subst h1;exact f.get.1) hl j h0
def PM{κ:Type}(enc:κ→Value) (N:Nat) (v:Value) (w:World):Prop:=∃b,v=.map (some b)∧N≤b∧KM enc w b []
theorem PM.st{κ:Type}{enc:κ→Value}{N:Nat}{F:Nat→Prop}(j:∀x,F x→x<N) {v:Value}{w w':World}(c:fN F w w') (h:PM enc N v w):PM enc N v w':=by
 obtain⟨b,h1,m,o⟩:=h;exact⟨b,h1,m,(As.map enc b []).st (Z:=fun _=>False) c.size (fun x f hl=>c.block x hl fun p=>by rcases f with f | f;have f:x=b:=f;subst f;have:=j x p;omega;exact f.elim) o⟩
theorem PM.get{κ:Type}{enc:κ→Value}{N b:Nat}{w:World}(h:PM enc N (.map (some b)) w):N≤b∧KM enc w b []:=by
 obtain⟨b',h1,f,j⟩:=h
 grind
theorem St.XU{κ:Type}{enc:κ→Value}{w0 w:World}{M Z:Nat→Prop}{l:List As}{N b:Nat}(h:St w0 M Z w l) (f:PM enc N (.map (some b)) w) (hl:∀x,nJ l x→x<N) (j:∀x,Z x→x<N) (h0:w0.heap.size≤N):St w0 M Z w (As.map enc b []::l):=
 h.add (B:=As.map enc b []) f.get.2 (fun x m=>by have h1:x=b:=m;subst h1;exact f.get.1) hl j h0
theorem St.same{w0 w w':World}{M Z:Nat→Prop}{l:List As}{A:As}(h:St w0 M Z w l) (f:A∈l) (s:fN A.fp w w') (j:A.ok Z w'):St w0 M Z w' l:=by
 obtain⟨p,q,rfl⟩:=List.append_of_mem f;exact((h.perm List.perm_middle.symm).kR s j fun x m=>.inl m).perm List.perm_middle
theorem D8{l:List As}{A:As}(f:A∈l) {x:Nat}(h:A.fp x):nJ l x:=⟨A,f,h⟩
theorem St.WG{α:Type}{R:RR α}{w0 w:World}{M Z:Nat→Prop}{l:List As}{E k n c:Nat}{a:Option Addr}{xs f:List α}(h:St w0 M Z w (As.os R E k a n c xs::l)) (e:xs=f):St w0 M Z w (As.os R E k a n c f::l):=by subst e;exact h
theorem Ow.addr{α:Type}{R:RR α}{w:World}{Z:Nat→Prop}{E k n c i:Nat}{a:Option Addr}{xs:List α}{y:α}(h:Ow R E k Z w a n c xs) (f:xs[i]?=some y):∃b,a=some ⟨b,0,none⟩:=by
 obtain⟨hn,rows,hl,hk,h1,_⟩:=h
 grind [OL.cases]
theorem Ow.mb{α:Type}{f:α→List Value}{w:World}{Z:Nat→Prop}{E k n c i b o:Nat}{a:Option Addr}{xs:List α}{y:α}(h:Ow (RR.flat f) E k Z w a n c xs) (hle:xs.length≤140737488355328) (m:a=some ⟨b,o,none⟩) (p:xs[i]?=some y):w.rangeAt b (o+i*k) (f y):=by
 obtain⟨b',s,r,h1,_,j,q,_⟩:=SR.at (Ow.rd h hle) p;rw [m] at h1
 simp at h1
 obtain⟨rfl,rfl⟩:=h1;have j:r=f y:=j;subst j;exact q
section
variable {P:Program}{n:Nat}{kv:KV}{w:World}{Q:Exit→Act→World→Prop}
theorem Fr.eqv{a:Act}{t:Nat}{v v':Value}(f:Fr n a kv) (h:look kv t=some v) (e:v=v'):Fr n a ((t,v')::kv):=⟨f.size,f.j6,fun s u hu=>by
 simp only [look] at hu
 cases hb:Nat.beq t s with
 | true=>rw [hb] at hu;simp at hu;have:t=s:=Nat.eq_of_beq_eq_true hb;subst this;rw [← hu,← e];exact f.val t v h
 | false=>rw [hb] at hu;exact f.val s u hu⟩
theorem WC.eqv{c:Code}{t:Nat}{v v':Value}(h:look kv t=some v) (e:v=v') (k:WC P c Q n ((t,v')::kv) w):WC P c Q n kv w:=fun a f=>k a (f.eqv h e)
theorem EX.eqv{x:Exit}{t:Nat}{v v':Value}(h:look kv t=some v) (e:v=v') (k:EX Q x n ((t,v')::kv) w):EX Q x n kv w:=fun a f=>k a (f.eqv h e)
end
section
variable {κ:Type} [DecidableEq κ] {enc:κ→Value}{P:Program}{kt e ty T:TypeId}{w:World}{b:Nat}{l:List (κ × Value)}{kv:KV}
theorem PV.cV(f:KK P kt enc) (hT:P.underlying T=some (.map kt e)) {z:Value}(h:∀w,(zeroValue e).run P w=.ok z w) (hb:KM enc w b l) {x y:Operand}{k:κ}{v:Value}(j:bq l k=some v) (m:ev kv x=some (.map (some b))) (hy:ev kv y=some (enc k)):PV P (.lookup T x y false) ty kv w v:=by
 have:=PV.look (ty:=ty) f hT h hb m hy
 rw [j] at this;exact this
end
end Go.Rc

namespace Go.Rc
open Go
theorem rZ:∀(rows:List (List Value)) (k i f:Nat) (v:Value) (row:List Value),(∀r∈rows,r.length=k)→rows[i]?=some row→f<k→(rows.set i (row.set f v)).flatten=rows.flatten.set (i*k+f) v:=by
 intro rows
 induction rows with
 | nil=>intro k i f v row _ h;simp at h
 | cons x xs m=>
  intro k i f v row hk h o;have j:x.length=k:=hk x (by simp)
  cases i with
  | zero=>
   simp at h;subst h
   simp only [List.set_cons_zero,List.flatten_cons,Nat.zero_mul,Nat.zero_add];rw [List.set_append_left _ _ (by omega)]
  | succ i=>
   simp only [List.set_cons_succ,List.flatten_cons];rw [m k i f v row (fun r hr=>hk r (by simp [hr])) (by simpa using h) o,List.set_append_right _ _ (by rw [j,Nat.succ_mul];omega)]
   congr 2
   rw [j,Nat.succ_mul];omega
theorem sX:∀(rows:List (List Value)) (k i:Nat) (us:List Value),(∀r∈rows,r.length=k)→i<rows.length→us.length=k→(rows.set i us).flatten=rows.flatten.take (i*k)++us++rows.flatten.drop (i*k+k):=by
 intro rows
 induction rows with
 | nil=>intro k i us _ h;simp at h
 | cons x xs f=>
  intro k i us hk h hu;have j:x.length=k:=hk x (by simp)
  cases i with
  | zero=>
   simp only [List.set_cons_zero,List.flatten_cons,Nat.zero_mul,Nat.zero_add,List.take_zero,List.nil_append];rw [List.drop_append_of_le_length (by omega),List.drop_of_length_le (by omega),List.nil_append]
  | succ i=>
   simp only [List.set_cons_succ,List.flatten_cons];rw [f k i us (fun r hr=>hk r (by simp [hr])) (by simpa using h) hu]
   have e:(i+1)*k=x.length+i*k:=by rw [j,Nat.succ_mul];omega
   rw [e,List.take_length_add_append,Nat.add_assoc,List.drop_length_add_append]
   simp
section
variable {α:Type}{R:RR α}{P:Program}{E k n c i b:Nat}{a:Option Addr}{xs:List α}{u u':α}{Z:Nat→Prop}{w:World}
theorem Ow.at{R:RR α}(h:Ow R E k Z w a n c xs) (hle:xs.length≤140737488355328) (m:xs[i]?=some u):∃b r,a=some ⟨b,0,none⟩∧r.length=k∧R.r Z w u r∧w.rangeAt b (0+i*k) r:=by
 obtain⟨hn,rows,hl,hk,h1,p⟩:=h;have hi:=(List.getElem?_eq_some_iff.1 m).1;have q:=h1.sl (A:=fun _=>True) (fun _ _=>trivial) (by omega)
 rcases h1.cases with⟨_,j,_⟩ | ⟨g,cur,j,_⟩
 ·
  omega
 obtain⟨r,hr⟩:∃r,rows[i]?=some r:=⟨rows[i],by simp [hl,hi]⟩
 rcases q.at_ with⟨f,_⟩ | ⟨b',o,f,_,_,_,_,s⟩
 ·
  omega
 rw [j] at f;simp at f;obtain⟨rfl,rfl⟩:=f;exact⟨g,r,j,hk r (List.mem_of_getElem? hr),p i u r m hr,oe s (i*k) r (ka rows k i r hk hr)⟩
variable {N:Nat}{kv:KV}{K:KV→World→Prop}{ty:TypeId}{pos:String}{af:Array Edge}{g:Option (Nat × Bool)}{T:TypeId}
theorem OX.NF{x y:Operand}{f:Nat}{v:Value}(hT:(P.info? T).map (·.size)=some 1) (h:Ow R E k Z w a n c xs) (p:a=some ⟨b,0,none⟩) (hu:xs[i]?=some u) (F:f<k) (q:ev kv x=some (.pointer (some ⟨b,0+i*k+f,none⟩))) (hy:ev kv y=some v)
  (h1:v.oneCell'=true) (u':α) (G:∀r,r.length=k→R.r Z w u r→R.r Z w u' (r.set f v)) (H:∀w',aQ (aG a) w w'→OR 0 w' E k (R.r Z w) a n c (xs.set i u')→K kv w'):OX P ⟨none,.store T x y,ty,pos,af,g⟩ N kv w K:=by
 obtain⟨hn,rows,hl,hk,s,C⟩:=h;have hi:=(List.getElem?_eq_some_iff.1 hu).1;obtain⟨row,t⟩:∃r,rows[i]?=some r:=⟨rows[i],by simp [hl,hi]⟩;have D:=hk row (List.mem_of_getElem? t)
 rcases s.cases with⟨o,_⟩ | ⟨b',cur,o,I,J,L,O,U,V⟩
 ·
  rw [p] at o;cases o
 rw [p] at o;simp at o;subst o;subst p
 have hb:cC w b E cur.toList:=by simpa [cC] using J
 have W:i*k+f<cur.toList.length:=by
  have:(i+1)*k≤c*k:=Nat.mul_le_mul_right _ (by omega)
  rw [Nat.succ_mul] at this
  simp;omega
 have X:=D3 (P:=P) hT hb W h1;refine⟨rfl,rfl,by simp [known,opers,q,hy],?_⟩
 have Y:0+i*k+f=i*k+f:=by omega
 rw [Y] at q;simp only [execOp,aI q,aI hy,Sem.run_bind,X,Result.andThen_ok];refine H _ (lz _ _ _) ⟨by simp [hn],rows.set i (row.set f v),by simp [hl],?_,?_,?_⟩
 ·
  intro r hr
  rcases List.mem_or_eq_of_mem_set hr with hr | rfl
  ·
   exact hk r hr
  simp [D]
 ·
  rw [rZ rows k i f v row hk t F];refine⟨fun z m=>?_,by simpa using s.2.1,.inr ⟨b,c,_,rfl,I,setRow_heap w b _ _ E _ hb,L,O,by simp [U],?_⟩⟩
  ·
   rcases List.mem_or_eq_of_mem_set m with m | rfl
   ·
    exact s.1 z m
   exact h1
  rw [← V]
  simp [List.take_set]
 intro j z r m hr
 by_cases e:i=j
 ·
  subst e;rw [List.getElem?_set,if_pos rfl,if_pos hi] at m;rw [List.getElem?_set,if_pos rfl,if_pos (by omega)] at hr
  simp at m hr
  subst m hr;exact G row D (C i u row hu t)
 rw [List.getElem?_set,if_neg e] at m hr;exact C j z r m hr
theorem OX.XV{x y:Operand}{us:List Value}(hT:(P.info? T).map (·.size)=some k) (h:Ow R E k Z w a n c xs) (s:a=some ⟨b,0,none⟩) (hi:i<xs.length) (C:ev kv x=some (.pointer (some ⟨b,0+i*k,none⟩))) (hy:ev kv y=some (.agg us.toArray))
  (hlen:us.length=k) (h1:∀v∈us,v.oneCell'=true) (u':α) (G:R.r Z w u' us) (H:∀w',aQ (aG a) w w'→OR 0 w' E k (R.r Z w) a n c (xs.set i u')→K kv w'):OX P ⟨none,.store T x y,ty,pos,af,g⟩ N kv w K:=by
 obtain⟨hn,rows,hl,hk,p,I⟩:=h
 rcases p.cases with⟨m,_⟩ | ⟨b',cur,m,J,L,D,O,U,V⟩
 ·
  rw [s] at m;cases m
 rw [s] at m;simp at m;subst m;subst s
 have hb:cC w b E cur.toList:=by simpa [cC] using L
 have hmul:(i+1)*k≤n*k:=Nat.mul_le_mul_right _ (by omega);have aea:n*k≤c*k:=Nat.mul_le_mul_right _ D;rw [Nat.succ_mul] at hmul
 have W:0+i*k=i*k:=by omega
 rw [W] at C
 refine OX.RN hT hb C hy hlen (by simp;omega) h1 rfl fun w' c1 _ X=>H w' c1 ⟨by simp [hn],rows.set i us,by simp [hl],?_,?_,?_⟩
 ·
  intro r hr
  rcases List.mem_or_eq_of_mem_set hr with hr | rfl
  ·
   exact hk r hr
  exact hlen
 ·
  have Y:rows.flatten.length=n*k:=p.2.1;rw [sX rows k i us hk (by omega) hlen]
  have F:cur.toList.length=c*k:=by simp [U]
  refine⟨fun z f=>?_,?_,.inr ⟨b,c,_,rfl,J,X,D,O,?_,?_⟩⟩
  ·
   simp only [List.mem_append] at f
   rcases f with(f | f) | f
   ·
    exact p.1 z (List.mem_of_mem_take f)
   ·
    exact h1 z f
   exact p.1 z (List.mem_of_mem_drop f)
  ·
   rw [List.length_append,List.length_append,List.length_take,List.length_drop,Y,hlen];omega
  ·
   simp only [List.size_toArray,List.length_append,List.length_take,List.length_drop,F];omega
  rw [← V]
  apply List.ext_getElem?
  intro j;simp only [List.getElem?_take,List.getElem?_append,List.getElem?_drop,List.length_append,List.length_take,F,hlen]
  have e1:min (i*k) (c*k)=i*k:=by omega
  have e2:min (i*k) (min (n*k) (c*k))=i*k:=by omega
  simp only [e1,e2]
  by_cases t:j<n*k
  ·
   rw [if_pos t]
   by_cases q:j<i*k+k
   ·
    rw [if_pos q,if_pos q]
    by_cases o:j<i*k
    ·
     rw [if_pos o,if_pos o,if_pos o,if_pos o,if_pos t]
    rw [if_neg o,if_neg o]
   rw [if_neg q,if_neg q,if_pos (by omega)]
  rw [if_neg t,if_neg (by omega),if_neg (by omega)]
 intro j z r f hr
 by_cases e:i=j
 ·
  subst e;rw [List.getElem?_set,if_pos rfl,if_pos (by omega)] at f hr
  simp at f hr
  subst f hr;exact G
 rw [List.getElem?_set,if_neg e] at f hr;exact I j z r f hr
end
end Go.Rc

namespace Go.Rc
open Go
structure Cr (N E q s:Nat) (w w':World):Prop where
 os:w'.os=w.os
 tape:w'.tape=w.tape
 output:w'.output=w.output
 size:w.heap.size≤w'.heap.size
 drawn:w.drawn≤w'.drawn
 block:∀b,b<w.heap.size→w'.heap[b]?=w.heap[b]?∨(N≤b∧∃cur oh:Array Value,w.heap[b]?=some (.cells cur E (0,0))∧w'.heap[b]?=some (.cells oh E (0,0))∧oh.size=cur.size∧s<cur.size∧oh.toList.take q=cur.toList.take q)
theorem aQ.pfx{N E q s:Nat}{w w':World}(h:aQ [] w w'):Cr N E q s w w':=⟨h.os,h.tape,h.output,h.size,h.drawn,fun b hb=>.inl (h.block b hb (by simp))⟩
theorem Cr.vw{N E q s:Nat}{w w':World}(h:Cr N E q s w w') {b:Nat}(hb:b<w.heap.size) (f:b<N):w'.heap[b]?=w.heap[b]?:=by
 rcases h.block b hb with h1 | ⟨h1,_⟩
 ·
  exact h1
 omega
variable {α:Type}{R:RR α}{E k n c N:Nat}{a:Option Addr}{xs:List α}{Z:Nat→Prop}{w w':World}
theorem Cr.ow{s:Nat}(h:Cr N E (n*k) s w w') (z:∀x,Z x→x<N) (C:Ow R E k Z w a n c xs):Ow R E k Z w' a n c xs:=by
 obtain⟨hn,rows,hl,hk,h1,D⟩:=C;have F:∀x,Z x→x<w.heap.size→w'.heap[x]?=w.heap[x]?:=fun x G H=>h.vw H (z x G);refine⟨hn,rows,hl,hk,⟨h1.1,h1.2.1,?_⟩,fun i x r j f=>R.st h.size F (D i x r j f)⟩
 rcases h1.cases with⟨j,f,m,p⟩ | ⟨g,cur,j,f,m,p,q,t,y⟩
 ·
  exact .inl ⟨by rw [j,f,m],f⟩
 have I:g<w.heap.size:=(Array.getElem?_eq_some_iff.1 m).1
 rcases h.block g I with o | ⟨_,cu,J,o,L,O,_,U⟩
 ·
  exact .inr ⟨g,c,cur,by rw [j],f,by rw [o];exact m,p,q,t,y⟩
 rw [m] at o
 simp at o
 subst o;exact .inr ⟨g,c,J,by rw [j],f,L,p,q,by rw [O];exact t,by rw [U];exact y⟩
theorem Cr.blk{q b:Nat}{l:List Value}(h:Cr N E q l.length w w') (hb:cC w b E l):cC w' b E l:=by
 have f:w.heap[b]?=some (.cells l.toArray E (0,0)):=hb
 rcases h.block b hb.lt with h1 | ⟨_,cu,m,h1,_,_,j,_⟩
 ·
  show _=_;rw [h1];exact f
 rw [f] at h1;simp at h1;subst h1;simp at j
theorem Ho{P:Program}{T bytes:Nat}(hT:AP P T E k bytes) {ty:TypeId}(D:Ow R E k Z w a n c xs) (t:∀x∈aG a,N≤x) {a2:Option Addr}{m c2:Nat}{A:Nat→Prop}{y:List α}(j:SR A w k (R.r Z w) a2 m c2 y)
  (F:(n+m)*bytes≤140737488355328) (G:n+m≤140737488355328) (hN:N≤w.heap.size) (H:∀x,Z x→x<N) {s:Nat}(I:∀c,a≠none→n+m≤c→s<c*k) :
  ∃f o w',(Builtin.append_ #[T,T] ty #[.slice a n c,.slice a2 m c2]).run P w=.ok (.slice f (n+m) o) w'∧Ow R E k Z w' f (n+m) o (xs++y)∧Cr N E (n*k) s w w'∧(∀x∈aG f,N≤x)∧(m=0→f=a)∧aQ (aG a) w w':=by
 obtain⟨hn,rows,hl,hk,h1,J⟩:=D;obtain⟨GL,L,O,U,V,W⟩:=j;obtain⟨f,o,w',hr,X,hc,Y,_,h0,hP⟩:=xL hT (ty:=ty) h1 V F G (Nat.zero_le _)
 have z:Cr N E (n*k) s w w':=by
  rcases hP with hP | ⟨LZ,g,cur,oh,p,h4,h5,h6,h7,h8⟩
  ·
   exact hP.pfx
  refine⟨hc.os,hc.tape,hc.output,hc.size,hc.drawn,fun b hb=>?_⟩
  by_cases q:b∈aG a
  ·
   have XW:g∈aG a:=by rw [p];simp [aG]
   have e:b=g:=by rw [p] at q;simpa [aG] using q
   subst e;exact .inr ⟨t b XW,cur,oh,h4,h5,h6,by rw [h7];exact I c (by rw [p];simp) LZ,h8⟩
  exact .inl (hc.block b hb q)
 have C:∀x,Z x→x<w.heap.size→w'.heap[x]?=w.heap[x]?:=fun x j XX=>z.vw XX (H x j);refine⟨f,o,w',hr,⟨by rw [List.length_append];omega,rows++L,by simp [hl,O],?_,by simpa using X,?_⟩,z,fun x j=>by rcases Y x j with h | h;exact t x h;omega,h0,hc⟩
 ·
  intro r hr
  rcases List.mem_append.1 hr with h | h
  ·
   exact hk r h
  exact U r h
 intro i x r hi hr
 rcases Nat.lt_or_ge i xs.length with zI | Hp
 ·
  rw [List.getElem?_append_left zI] at hi;rw [List.getElem?_append_left (by omega)] at hr;exact R.st hc.size C (J i x r hi hr)
 rw [List.getElem?_append_right Hp] at hi;rw [List.getElem?_append_right (by omega)] at hr;exact R.st hc.size C (W (i - xs.length) x r hi (by rw [← hl];exact hr))
section
variable {P:Program}{kv:KV}{K:KV→World→Prop}{d:Tmp}{ty:TypeId}{pos:String}{af:Array Edge}{g:Option (Nat × Bool)}{T bytes mm:Nat}
theorem OX.R4(hT:AP P T E k bytes) {s x:Operand}{a2:Option Addr}{m c2:Nat}{A:Nat→Prop}{o:List α}(y:Nat.blt d mm=true) (p:ev kv s=some (.slice a n c)) (t:ev kv x=some (.slice a2 m c2))
  (z:Ow R E k Z w a n c xs) (C:∀x∈aG a,N≤x) (D:SR A w k (R.r Z w) a2 m c2 o) (F:(n+m)*bytes≤140737488355328) (G:n+m≤140737488355328) (H:N≤w.heap.size) (I:∀x,Z x→x<N) (q:Nat) (J:∀c,a≠none→n+m≤c→q<c*k)
  (h:∀f j w',Ow R E k Z w' f (n+m) j (xs++o)→Cr N E (n*k) q w w'→(∀x∈aG f,N≤x)→(m=0→f=a)→aQ (aG a) w w'→K ((d,.slice f (n+m) j)::kv) w') :
  OX P ⟨some d,.call {callee:=.builtin .append,args:=#[s,x],argTypes:=#[T,T]},ty,pos,af,g⟩ mm kv w K:=by
 refine⟨rfl,y,by simp [known,opers,p,t],?_⟩;obtain⟨f,j,w',hr,h1,L,O,U,V⟩:=Ho hT (ty:=ty) z C D F G H I J
 have W:(execOp (jk kv) ⟨some d,.call {callee:=.builtin .append,args:=#[s,x],argTypes:=#[T,T]},ty,pos,af,g⟩).run P w=.ok (.value (.slice f (n+m) j)) w':=by
  simp only [execOp,resolve,invoke,builtin,Sem.run_bind,Sem.run_pure,Result.andThen_ok,List.map_toArray,List.map_cons,List.map_nil,aI p,aI t,hr]
 rw [W];exact h _ _ _ h1 L O U V
theorem Cr.st{w0:World}{M:Nat→Prop}{l:List As}{q s:Nat}(h:Cr N E q s w w') (f:St w0 M Z w l) (hl:∀x,nJ l x→x<N) (o:∀x,Z x→x<N) (h0:w0.heap.size≤N):St w0 M Z w' l where
 bT:=⟨h.os.trans f.bT.os,h.tape.trans f.bT.tape,h.output.trans f.bT.output,Nat.le_trans f.bT.size h.size,Nat.le_trans f.bT.drawn h.drawn,fun k hk hn=>by
  rw [h.vw (Nat.lt_of_lt_of_le hk f.bT.size) (by omega)];exact f.bT.block k hk hn⟩
 j4 x j:=Nat.lt_of_lt_of_le (f.j4 x j) h.size
 oX:=f.oX
 qU:=f.qU
 vA:=f.vA
 ok A m:=A.st h.size (fun x j p=>h.vw p (by rcases j with j | j;exact hl x ⟨A,m,j⟩;exact o x j)) (f.ok A m)
end
theorem Ow.ext{α:Type}{R:RR α}{E k n c:Nat}{a:Option Addr}{xs:List α}{Z:Nat→Prop}{w w':World}(h:Ow R E k Z w a n c xs) (s:aQ [] w w'):Ow R E k Z w' a n c xs:=
 (As.os R E k a n c xs).st s.size (fun x _ f=>s.block x f (by simp)) h
section
variable {P:Program}{n:Nat}{kv:KV}{w:World}{K:KV→World→Prop}{d:Tmp}{ty:TypeId}{pos:String}{af:Array Edge}{g:Option (Nat × Bool)}{op:Op}{v:Value}
theorem OX.pv(h:PV P op ty kv w v) (f:Nat.blt d n=true) (j:K ((d,v)::kv) w):OX P ⟨some d,op,ty,pos,af,g⟩ n kv w K:=⟨h.1,f,h.2.1,by rw [h.2.2];exact j⟩
end
section
variable {κ:Type} [DecidableEq κ] {enc:κ→Value}{P:Program}{kt e ty T:TypeId}{w:World}{b:Nat}{l:List (κ × Value)}{kv:KV}
theorem PV.oY(f:KK P kt enc) (hT:P.underlying T=some (.map kt e)) {z:Value}(h:∀w,(zeroValue e).run P w=.ok z w) (hb:KM enc w b l) {x y:Operand}{k:κ}{v:Value}(j:(bq l k).getD z=v) (m:ev kv x=some (.map (some b))) (hy:ev kv y=some (enc k)):PV P (.lookup T x y false) ty kv w v:=by
 have:=PV.look (ty:=ty) f hT h hb m hy
 rw [j] at this;exact this
end
def Hq(N:Nat) (P:List (Key × Value)→Prop) (v:Value) (w:World):Prop:=∃b m,v=.map (some b)∧N≤b∧KM Key.val w b m∧P m
theorem Hq.st{N:Nat}{P:List (Key × Value)→Prop}{F:Nat→Prop}(j:∀x,F x→x<N) {v:Value}{w w':World}(c:fN F w w') (h:Hq N P v w):Hq N P v w':=by
 obtain⟨b,m,h1,o,p,q⟩:=h;exact⟨b,m,h1,o,(As.map Key.val b m).st (Z:=fun _=>False) c.size (fun x f hl=>c.block x hl fun r=>by rcases f with f | f;have f:x=b:=f;subst f;have:=j x r;omega;exact f.elim) p,q⟩
theorem St.cg0{w w':World}{Z:Nat→Prop}{l:List As}(h:St w (nJ []) Z w' l):aQ [] w w':=h.bT.bT fun _ ⟨_,f,_⟩=>by cases f
theorem St.rb{w:World}{M Z:Nat→Prop}(h:St w M Z w []):St w (fun _=>False) Z w []:=St.start h.j4
theorem St.wk{w0 w:World}{M Z:Nat→Prop}{l:List As}(h:St w0 (fun _=>False) Z w l):St w0 M Z w l:=h.R2 fun _ _ h=>h.elim
theorem St.fresh{w0 w:World}{Z:Nat→Prop}{l:List As}{A:As}(h:St w0 (fun _=>False) Z w (A::l)):∀x,A.fp x→w0.heap.size≤x:=fun x f=>by
 rcases h.qU A (by simp) x f with h1 | h1
 ·
  exact h1.elim
 exact h1
end Go.Rc

namespace Go.Rc
open Go
section
variable {P:Program}{Q:Exit→Act→World→Prop}{n:Nat}{kv:KV}{w0 w:World}{M Z:Nat→Prop}
theorem OX.NG{x y:Operand}{k b o N:Nat}{T:TypeId}{ty:TypeId}{pos:String}{af:Array Edge}{g:Option (Nat × Bool)}{K:KV→World→Prop}{e:TypeId}{l us l':List Value}(hT:(P.info? T).map (·.size)=some k) (hb:cC w b e l) (f:ev kv x=some (.pointer (some ⟨b,0+o,none⟩))) (hy:ev kv y=some (.agg us.toArray))
  (hk:us.length=k) (h1:(Nat.ble (o+us.length) l.length && us.all (·.oneCell'))=true) (hl:l.take o++us++l.drop (o+us.length)=l')
  (h:∀w',aQ [b] w w'→cC w' b e l'→K kv w') :
  OX P ⟨none,.store T x y,ty,pos,af,g⟩ N kv w K:=by
 simp only [Bool.and_eq_true] at h1
 exact OX.RN hT hb (by rw [f,Nat.zero_add]) hy hk (Nat.le_of_ble_eq_true h1.1) (fun v j=>List.all_eq_true.1 h1.2 v j) hl fun w' a _ c=>h w' a c
theorem St.sY{A B:As}{l:List As}(h:St w0 M Z w (A::l)) (e:A=B):St w0 M Z w (B::l):=by subst e;exact h
def PS(N T len:Nat) (cs:List Value) (v:Value) (w:World):Prop:=∃b,v=.slice (some ⟨b,0,none⟩) len len∧N≤b∧cC w b T cs
theorem PS.st{N T len:Nat}{cs:List Value}{F:Nat→Prop}(j:∀x,F x→x<N) {v:Value}{w w':World}(c:fN F w w') (h:PS N T len cs v w):PS N T len cs v w':=by
 obtain⟨b,h1,m,f⟩:=h;exact⟨b,h1,m,by have o:_=_:=f;show _=_;rw [c.block b f.lt fun p=>by have:=j b p;omega];exact o⟩
theorem PS.pb{N T len b:Nat}{cs:List Value}{w:World}(h:PS N T len cs (.slice (some ⟨b,0,none⟩) len len) w):PB N T cs (.pointer (some ⟨b,0,none⟩)) w:=by
 obtain⟨b',h1,f,j⟩:=h
 simp at h1;subst h1;exact⟨_,rfl,f,j⟩
theorem St.swap{A B:As}{l:List As}{N:Nat}(h:St w0 M Z w (A::l)) (q:B.ok Z w) (m:∀x,B.fp x→A.fp x∨N≤x) (hl:∀x,nJ (A::l) x→x<N) (r:∀x,Z x→x<N) (h0:w0.heap.size≤N):St w0 M Z w (B::l) where
 bT:=h.bT
 j4:=h.j4
 oX D f x j o:=by
  rcases List.mem_cons.1 f with rfl | f
  ·
   rcases m x j with h1 | h1
   ·
    exact h.oX A (by simp) x h1 o
   have:=r x o;omega
  exact h.oX D (by simp [f]) x j o
 qU D f x j:=by
  rcases List.mem_cons.1 f with rfl | f
  ·
   rcases m x j with h1 | h1
   ·
    exact h.qU A (by simp) x h1
   exact .inr (Nat.le_trans h0 h1)
  exact h.qU D (by simp [f]) x j
 vA:=List.pairwise_cons.2 ⟨fun D f x j p=>by
  rcases m x j with h1 | h1
  ·
   exact(List.pairwise_cons.1 h.vA).1 D f x h1 p
  have:=hl x ⟨D,by simp [f],p⟩;omega,(List.pairwise_cons.1 h.vA).2⟩
 ok D f:=by
  rcases List.mem_cons.1 f with rfl | f
  ·
   exact q
  exact h.ok D (by simp [f])
theorem Hr{α:Type}{R:RR α}{E k n c:Nat}{a:Option Addr}{xs:List α}{T bytes:Nat}(hT:AP P T E k bytes) {ty:TypeId}(J:Ow R E k Z w a n c xs) (L:∀x∈aG a,¬Z x) {a2:Option Addr}{m c2:Nat}{A:Nat→Prop}{D:List α}(s:SR A w k (R.r Z w) a2 m c2 D)
  (O:(n+m)*bytes≤140737488355328) (U:n+m≤140737488355328) :
  ∃o q w',(Builtin.append_ #[T,T] ty #[.slice a n c,.slice a2 m c2]).run P w=.ok (.slice o (n+m) q) w'∧Ow R E k Z w' o (n+m) q (xs++D)∧Ow R E k Z w' a n c xs∧aQ (aG a) w w'∧(∀x∈aG o,x∈aG a∨w.heap.size≤x):=by
 obtain⟨hn,rows,hl,hk,h1,F⟩:=J;obtain⟨GL,V,W,X,f,Y⟩:=s;obtain⟨o,q,w',hr,ho,hc,hf,_,h0,hP⟩:=xL hT (ty:=ty) h1 f O U (Nat.zero_le _)
 have t:∀x,Z x→x<w.heap.size→w'.heap[x]?=w.heap[x]?:=fun x s XX=>hc.block x XX fun hm=>L x hm s
 refine⟨o,q,w',hr,⟨by rw [List.length_append];omega,rows++V,by simp [hl,W],?_,by simpa using ho,?_⟩,⟨hn,rows,hl,hk,⟨h1.1,h1.2.1,?_⟩,fun i x r f j=>R.st hc.size t (F i x r f j)⟩,hc,hf⟩
 ·
  intro r hr
  rcases List.mem_append.1 hr with h | h
  ·
   exact hk r h
  exact X r h
 ·
  intro i x r hi hr
  rcases Nat.lt_or_ge i xs.length with zI | Hp
  ·
   rw [List.getElem?_append_left zI] at hi;rw [List.getElem?_append_left (by omega)] at hr;exact R.st hc.size t (F i x r hi hr)
  rw [List.getElem?_append_right Hp] at hi;rw [List.getElem?_append_right (by omega)] at hr;exact R.st hc.size t (Y (i - xs.length) x r hi (by rw [← hl];exact hr))
 rcases h1.cases with⟨f,j,p,y⟩ | ⟨g,cur,f,j,p,y,G,H,I⟩
 ·
  exact .inl ⟨by rw [f,j,p],j⟩
 have hg:g<w.heap.size:=(Array.getElem?_eq_some_iff.1 p).1
 rcases hP with hP | ⟨LZ,g',cu,cu',z,C,h11,h12,_,h13⟩
 ·
  exact .inr ⟨g,c,cur,by rw [f],j,by rw [hP.block g hg (by simp)];exact p,y,G,H,I⟩
 rw [f] at z
 simp at z
 subst z;rw [p] at C
 simp at C
 subst C;exact .inr ⟨g,c,cu',by rw [f],j,h11,y,G,by rw [h12];exact H,by rw [h13];exact I⟩
theorem OX.XY{α:Type}{R:RR α}{E k c j:Nat}{a:Option Addr}{xs:List α}{T bytes mm:Nat}{K:KV→World→Prop}{d:Tmp}{ty:TypeId}{pos:String}{af:Array Edge}{g:Option (Nat × Bool)}(hT:AP P T E k bytes) {s x:Operand}{a2:Option Addr}{m c2:Nat}{A:Nat→Prop}{p:List α}(y:Nat.blt d mm=true) (q:ev kv s=some (.slice a j c)) (t:ev kv x=some (.slice a2 m c2))
  (z:Ow R E k Z w a j c xs) (C:∀x∈aG a,¬Z x) (D:SR A w k (R.r Z w) a2 m c2 p) (F:(j+m)*bytes≤140737488355328) (G:j+m≤140737488355328)
  (h:∀f o w',Ow R E k Z w' f (j+m) o (xs++p)→Ow R E k Z w' a j c xs→aQ (aG a) w w'→(∀x∈aG f,x∈aG a∨w.heap.size≤x)→K ((d,.slice f (j+m) o)::kv) w') :
  OX P ⟨some d,.call {callee:=.builtin .append,args:=#[s,x],argTypes:=#[T,T]},ty,pos,af,g⟩ mm kv w K:=by
 refine⟨rfl,y,by simp [known,opers,q,t],?_⟩;obtain⟨f,o,w',hr,h1,H,I,J⟩:=Hr hT (ty:=ty) z C D F G
 have L:(execOp (jk kv) ⟨some d,.call {callee:=.builtin .append,args:=#[s,x],argTypes:=#[T,T]},ty,pos,af,g⟩).run P w=.ok (.value (.slice f (j+m) o)) w':=by
  simp only [execOp,resolve,invoke,builtin,Sem.run_bind,Sem.run_pure,Result.andThen_ok,List.map_toArray,List.map_cons,List.map_nil,aI q,aI t,hr]
 rw [L];exact h _ _ _ h1 H I J
theorem WC.JU{id m:Nat}{l:List Oper}{ls:List As}(X:List Nat) (T:Nat→World→World→Prop) {E:Nat→Option (Value→World→Prop)}(h:St w0 M Z w ls)
  (o:∀i S,E i=some S→∀j p,E j=some p→j≠i→j∉eM l.toArray i→∀v w1 w2,(w.heap.size≤w1.heap.size∧St w0 M Z w1 ls)→(w.heap.size≤w2.heap.size∧St w0 M Z w2 ls)→T j w1 w2→S v w1→S v w2) (hm:P.follows .mixedOrders=true) (q:sM l m X=true) (r:(X.all fun x=>(E x).isNone)=true)
  (s:DW P l.toArray n (fun f=>w.heap.size≤f.heap.size∧St w0 M Z f ls) T E (fun kv w=>WL P l.toArray (NP Q) (l.drop m) n kv w) 0 (l.take m) kv []):WC P (.region id l.toArray true) Q n kv w:=
 WC.D5 (C:=fun f=>w.heap.size≤f.heap.size∧St w0 M Z f ls) (T:=T) r o hm q ⟨Nat.le_refl _,h.step (aQ.drew [] w)⟩ s
theorem WC.om{id m:Nat}{l:List Oper}{ls:List As}(X:List Nat) {E:Nat→Option (Value→World→Prop)}(h:St w0 M Z w ls)
  (o:∀i S,E i=some S→∀j p,E j=some p→j≠i→j∉eM l.toArray i→∀v w1 w2,(w.heap.size≤w1.heap.size∧St w0 M Z w1 ls)→(w.heap.size≤w2.heap.size∧St w0 M Z w2 ls)→fN (nJ ls) w1 w2→S v w1→S v w2) (hm:P.follows .mixedOrders=true) (q:sM l m X=true) (r:(X.all fun x=>(E x).isNone)=true)
  (s:DW P l.toArray n (fun f=>w.heap.size≤f.heap.size∧St w0 M Z f ls) (fun _=>fN (nJ ls)) E (fun kv w=>WL P l.toArray (NP Q) (l.drop m) n kv w) 0 (l.take m) kv []):WC P (.region id l.toArray true) Q n kv w:=
 WC.D5 (C:=fun f=>w.heap.size≤f.heap.size∧St w0 M Z f ls) (T:=fun _=>fN (nJ ls)) r o hm q ⟨Nat.le_refl _,h.step (aQ.drew [] w)⟩ s
end
end Go.Rc

