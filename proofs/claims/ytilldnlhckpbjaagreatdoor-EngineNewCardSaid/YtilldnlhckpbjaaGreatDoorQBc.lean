/- Base of the proof: frames, memory, ownership, and the plain meaning of rule systems. Conditions: as each lemma says. -/
import Derived.Test.YtilldnlhckpbjaaGreatDoorQBb
set_option linter.all false
namespace Go.Rc
open Go
variable {E EK ER EI base:Nat}{w w':World}{a:Option Addr}{n c:Nat}{S:List Nat}
structure Rec where
 key:Key
 value:ByteArray
 reads:List Key
 changed:Int
 aq:Int
 cost:Int
 bV:Bool
 deriving DecidableEq
instance:Inhabited Rec:=⟨⟨dA,⟨#[]⟩,[],0,0,0,false⟩⟩
def na:Rec:=⟨dA,⟨#[]⟩,[],0,0,0,false⟩
def Rec.row(x:Rec) (a:Option Addr) (n c:Nat):List Value:=[.int .i64 x.key.kind,.string x.key.text,.string x.value,.slice a n c,.int .i64 x.changed,.int .i64 x.aq,.int .i64 x.cost,.bool x.bV]
structure bW where
 key:Key
 value:ByteArray
 changed:Int
 deriving DecidableEq
def bW.cells(x:bW):List Value:=[.int .i64 x.key.kind,.string x.key.text,.string x.value,.int .i64 x.changed]
structure cB where
 ad:Int
 ab:List bW
 ai:List Rec
 deriving DecidableEq
/-! the plain meaning -/
def ay(l:List Rec) (k:Key):Option Rec:=l.find? fun r=>r.key == k
def bf(l:List bW) (k:Key):bW:=(l.find? fun x=>x.key == k).getD ⟨k,⟨#[]⟩,0⟩
def hK(l:List Rec) (k:Key):List Rec:=l.filter fun r=>!(r.key == k)
end Go.Rc
namespace Go.Rc
open Go
theorem iT{α:Type}{p:α→Bool}{l:List α}{i:Nat}(hi:i<l.length) (h:∀j x,j<i→l[j]?=some x→p x=false) (f:p l[i]=true):l.find? p=some l[i]:=by
 induction l generalizing i with
 | nil=>simp at hi
 | cons y r o=>
  cases i with
  | zero=>simp at f;simp [f]
  | succ i=>
   have h0:p y=false:=h 0 y (by omega) rfl
   grind
theorem qp{α:Type}{p:α→Bool}{l:List α}{i:Nat}(hi:l.length≤i) (f:∀j x,j<i→l[j]?=some x→p x=false):l.find? p=none:=by
 rw [List.find?_eq_none];intro x h;obtain⟨j,o,rfl⟩:=List.mem_iff_getElem.1 h
 simp [f j _ (by omega) (List.getElem?_eq_getElem o)]
theorem Rec.one(x:Rec) (a:Option Addr) (n c:Nat):∀u∈x.row a n c,u.oneCell'=true:=by simp [Rec.row,Value.oneCell']
end Go.Rc
namespace Go.Rc
theorem SH{l:List Go.Value}{j:Nat}{v:Go.Value}(h:nth l j=some v):nth l j≠none:=by rw [h];simp
end Go.Rc
namespace Go.Rc
open Go
def fD(r:Rec):List Rec→Bool→List Rec
 | [],put=>if put then [] else [r]
 | x::xs,put=>(if decide (0≤bl x.key r.key) && !put then [r] else [])++(if bl x.key r.key=0 then [] else [x])++fD r xs (put || decide (0≤bl x.key r.key))
def eJ(l:List Rec) (r:Rec):List Rec:=fD r l false
theorem BL(r:Rec):∀(l:List Rec) (b:Bool),(fD r l b).length≤l.length+1:=by
 intro l
 induction l with
 | nil=>intro b;cases b <;> simp [fD]
 | cons x xs f=>
  intro b;have h1:=f (b || decide (0≤bl x.key r.key));simp only [fD,List.length_append,List.length_cons]
  have h:∀l:List Rec,(fD r l true).length≤l.length:=by
   intro l
   induction l with
   | nil=>simp [fD]
   | cons y j o=>simp only [fD,Bool.not_true,Bool.and_false,Bool.false_eq_true,if_false,Bool.true_or,List.length_append,List.length_cons,List.nil_append];split <;> simp <;> omega
  grind
end Go.Rc
namespace Go.Rc
open Go
def eK(x:Rec):Bool:=
 ek x.key && (!aw x.key && (decide ((x.value.size:Int)≤1073741824) && (decide ((x.reads.length:Int)≤4000) && (decide (0≤x.changed) && (decide (x.changed≤x.aq) && (decide (x.aq≤1073741824) &&
  (decide (1≤x.cost) && (decide (x.cost≤1073741824) && (!x.bV || ax x.key)))))))))
def dm(x:Rec):Bool:=x.reads.all ek && eK x
def nY(l:List Rec) (i:Nat):Bool:=!dm l[i]! || (decide (0<(i:Int)) && decide (0≤bl l[i - 1]!.key l[i]!.key))
def nb(l:List Rec) (i:Nat) (x:Rec):Prop:=dm x=true∧(0<i→bl l[i - 1]!.key x.key<0)
def kJ(l:List Rec):Prop:=l.length≤4000∧∀i x,l[i]?=some x→nb l i x
theorem nc{l:List Rec}{i:Nat}(hi:i<l.length):nY l i=false↔nb l i l[i]:=by
 simp only [nY,nb,getElem!_pos l i hi,Bool.or_eq_false_iff,Bool.and_eq_false_iff,decide_eq_false_iff_not,Bool.not_eq_false']
 grind
end Go.Rc

namespace Go.Rc
open Go
structure fZ (M:Nat→Prop) (w w':World):Prop where
 os:w'.os=w.os
 tape:w'.tape=w.tape
 output:w'.output=w.output
 size:w.heap.size≤w'.heap.size
 drawn:w.drawn≤w'.drawn
 block:∀k,k<w.heap.size→¬M k→w'.heap[k]?=w.heap[k]?
theorem aQ.p{S:List Nat}{w w':World}(h:aQ S w w'):fZ (fun x=>x∈S) w w':=⟨h.os,h.tape,h.output,h.size,h.drawn,h.block⟩
theorem fZ.cq{M:Nat→Prop}{w w':World}(h:fZ M w w') (f:∀x,M x→w.heap.size≤x):aQ [] w w':=
 ⟨h.os,h.tape,h.output,h.size,h.drawn,fun k hk _=>h.block k hk fun hm=>by have:=f k hm;omega⟩
theorem fZ.refl(M:Nat→Prop) (w:World):fZ M w w:=⟨rfl,rfl,rfl,Nat.le_refl _,Nat.le_refl _,fun _ _ _=>rfl⟩
theorem fZ.mono{M f:Nat→Prop}{w w':World}(h:fZ M w w') (j:∀x,x<w.heap.size→M x→f x):fZ f w w':=⟨h.os,h.tape,h.output,h.size,h.drawn,fun k hk hn=>h.block k hk fun hm=>hn (j k hk hm)⟩
structure As where
 fp:Nat→Prop
 ok:(Nat→Prop)→World→Prop
 lt:∀{Z w},ok Z w→∀x,fp x→x<w.heap.size
 mono:∀{Z Z':Nat→Prop}{w},(∀x,Z x→Z' x)→ok Z w→ok Z' w
 st:∀{Z:Nat→Prop}{w w':World},w.heap.size≤w'.heap.size→(∀x,fp x∨Z x→x<w.heap.size→w'.heap[x]?=w.heap[x]?)→ok Z w→ok Z w'
structure St (w0:World) (M Z:Nat→Prop) (w:World) (l:List As):Prop where
 cq:fZ M w0 w
 jC:∀x,Z x→x<w.heap.size
 lx:∀A∈l,∀x,A.fp x→¬Z x
 lV:∀A∈l,∀x,A.fp x→M x∨w0.heap.size≤x
 sq:l.Pairwise fun A B=>∀x,A.fp x→¬B.fp x
 ok:∀A∈l,A.ok Z w
structure fE (n:Nat) (Z Z':Nat→Prop):Prop where
 up:∀x,Z x→Z' x
 new:∀x,Z' x→Z x∨n≤x
theorem fE.refl(n:Nat) (Z:Nat→Prop):fE n Z Z:=⟨fun _ h=>h,fun _ h=>.inl h⟩
theorem fE.trans{n j:Nat}{Z Z' o:Nat→Prop}(h:fE n Z Z') (k:fE j Z' o) (hn:n≤j):fE n Z o:=
 ⟨fun x f=>k.up x (h.up x f),fun x f=>by rcases k.new x f with h1 | h1;exact h.new x h1;exact .inr (Nat.le_trans hn h1)⟩
theorem fE.le{n f:Nat}{Z Z':Nat→Prop}(h:fE n Z Z') (hn:f≤n):fE f Z Z':=⟨h.up,fun x j=>by rcases h.new x j with h1 | h1;exact .inl h1;exact .inr (Nat.le_trans hn h1)⟩
def nZ(l:List As) (x:Nat):Prop:=∃A∈l,A.fp x
section
variable {w0 w w':World}{M Z Z':Nat→Prop}{l l0 l1 rest:List As}{A B:As}
theorem St.size(h:St w0 M Z w l):w0.heap.size≤w.heap.size:=h.cq.size
theorem St.start(f:∀x,Z x→x<w.heap.size):St w M Z w []:=⟨fZ.refl _ _,f,by simp,by simp,.nil,by simp⟩
theorem St.perm{l':List As}(h:St w0 M Z w l) (j:List.Perm l' l):St w0 M Z w l':=
 ⟨h.cq,h.jC,fun A f=>h.lx A (j.mem_iff.1 f),fun A f=>h.lV A (j.mem_iff.1 f),
  h.sq.perm j.symm (fun o x hb p=>o x p hb),fun A f=>h.ok A (j.mem_iff.1 f)⟩
theorem St.enter(h:St w0 M Z w (l0++rest)):St w (nZ l0) Z w l0:=
 ⟨fZ.refl _ _,h.jC,fun A f=>h.lx A (by simp [f]),fun A f x j=>.inl ⟨A,f,j⟩,(List.pairwise_append.1 h.sq).1,fun A f=>h.ok A (by simp [f])⟩
theorem St.leave(h:St w0 M Z w (l0++rest)) (j:St w (nZ l0) Z' w' l1) (p:fE w.heap.size Z Z'):St w0 M Z' w' (l1++rest):=by
 obtain⟨G,y,z⟩:=List.pairwise_append.1 h.sq;have D:∀x,nZ l0 x→M x∨w0.heap.size≤x:=fun x ⟨A,f,o⟩=>h.lV A (by simp [f]) x o;have q:∀A∈rest,∀x,A.fp x→x<w.heap.size:=fun A f=>A.lt (h.ok A (by simp [f]));have H:∀x,nZ l0 x→¬Z x:=fun x ⟨A,f,o⟩=>h.lx A (by simp [f]) x o;refine⟨⟨j.cq.os.trans h.cq.os,j.cq.tape.trans h.cq.tape,j.cq.output.trans h.cq.output,Nat.le_trans h.cq.size j.cq.size,Nat.le_trans h.cq.drawn j.cq.drawn,fun k hk hn=>?_⟩,j.jC,?_,?_,?_,?_⟩
 ·
  rw [j.cq.block k (Nat.lt_of_lt_of_le hk h.cq.size) fun I=>by grind];exact h.cq.block k hk hn
 ·
  intro A f x o r
  rcases List.mem_append.1 f with f | f
  ·
   exact j.lx A f x o r
  rcases p.new x r with h1 | h1
  ·
   exact h.lx A (by simp [f]) x o h1
  have:=q A f x o;omega
 ·
  intro A f x o
  rcases List.mem_append.1 f with f | f
  ·
   rcases j.lV A f x o with h1 | h1
   ·
    exact D x h1
   exact .inr (Nat.le_trans h.cq.size h1)
  exact h.lV A (by simp [f]) x o
 ·
  refine List.pairwise_append.2 ⟨j.sq,y,fun A f B s x o hb=>?_⟩
  rcases j.lV A f x o with⟨C,t,h1⟩ | h1
  ·
   exact z C t B s x h1 hb
  have:=q B s x hb;omega
 intro A f
 rcases List.mem_append.1 f with f | f
 ·
  exact j.ok A f
 refine A.mono (Z:=Z) p.up (A.st j.cq.size (fun x o F=>j.cq.block x F fun⟨C,t,hc⟩=>?_) (h.ok A (by simp [f])))
 grind
theorem St.step(h:St w0 M Z w l) (s:aQ [] w w'):St w0 M Z w' l:=
 St.leave (l0:=[]) (l1:=[]) h ⟨s.p.mono (by simp),fun x f=>Nat.lt_of_lt_of_le (h.jC x f) s.size,by simp,by simp,.nil,by simp⟩ (fE.refl _ _)
theorem St.new(h:St w0 M Z w l) (s:aQ [] w w') (o:B.ok Z w') (q:∀x,B.fp x→w.heap.size≤x):St w0 M Z w' (B::l):=
 St.leave (l0:=[]) (l1:=[B]) h ⟨s.p.mono (by simp),fun x j=>Nat.lt_of_lt_of_le (h.jC x j) s.size,fun A f x j r=>by simp at f;subst f;have:=q x j;have:=h.jC x r;omega,
  fun A f x j=>by grind,by simp,fun A f=>by simp at f;subst f;exact o⟩ (fE.refl _ _)
theorem St.fact(h:St w0 M Z w l) (f:B.ok Z w) (j:∀x,¬B.fp x):St w0 M Z w (B::l):=h.new (aQ.refl _ _) f fun x o=>absurd o (j x)
theorem St.iL(h:St w0 M Z w (A::l)) (s:fZ A.fp w w') (q:B.ok Z w') (o:∀x,B.fp x→A.fp x∨w.heap.size≤x):St w0 M Z w' (B::l):=
 St.leave (l0:=[A]) (l1:=[B]) h ⟨s.mono fun x _ j=>⟨A,by simp,j⟩,fun x j=>Nat.lt_of_lt_of_le (h.jC x j) s.size,fun C f x j p=>by
   simp at f;subst f
   rcases o x j with h1 | h1
   ·
    exact h.lx A (by simp) x h1 p
   have:=h.jC x p;omega,
  fun C f x j=>by
   simp at f;subst f
   rcases o x j with h1 | h1
   ·
    exact .inl ⟨A,by simp,h1⟩
   exact .inr h1,by simp,fun C f=>by simp at f;subst f;exact q⟩ (fE.refl _ _)
theorem St.freeze(h:St w0 M Z w (A::l)) (q:B.ok (fun x=>Z x∨A.fp x) w) (p:∀x,¬B.fp x):St w0 M (fun x=>Z x∨A.fp x) w (B::l):=by
 refine⟨h.cq,fun x f=>?_,?_,?_,?_,?_⟩
 ·
  rcases f with f | f
  ·
   exact h.jC x f
  exact A.lt (h.ok A (by simp)) x f
 ·
  intro C j x f o;simp only [List.mem_cons] at j
  rcases j with rfl | j
  ·
   exact p x f
  rcases o with o | o
  ·
   exact h.lx C (by simp [j]) x f o
  exact(List.pairwise_cons.1 h.sq).1 C j x o f
 ·
  intro C j x f;simp only [List.mem_cons] at j
  rcases j with rfl | j
  ·
   exact absurd f (p x)
  exact h.lV C (by simp [j]) x f
 ·
  exact List.pairwise_cons.2 ⟨fun C _ x f=>absurd f (p x),(List.pairwise_cons.1 h.sq).2⟩
 intro C j;simp only [List.mem_cons] at j
 rcases j with rfl | j
 ·
  exact q
 exact C.mono (fun x f=>.inl f) (h.ok C (by simp [j]))
theorem St.drop(h:St w0 M Z w (A::l)):St w0 M Z w l:=
 ⟨h.cq,h.jC,fun C f=>h.lx C (by simp [f]),fun C f=>h.lV C (by simp [f]),(List.pairwise_cons.1 h.sq).2,fun C f=>h.ok C (by simp [f])⟩
theorem St.conv(h:St w0 M Z w (A::l)) (f:B.ok Z w) (j:∀x,B.fp x→A.fp x):St w0 M Z w (B::l):=h.iL (fZ.refl _ _) f fun x o=>.inl (j x o)
theorem St.N2{f:Nat→Prop}(h:St w0 M Z w l) (j:∀x,x<w0.heap.size→M x→f x):St w0 f Z w l:=
 ⟨h.cq.mono j,h.jC,h.lx,fun A o x p=>by
  rcases h.lV A o x p with h1 | h1
  ·
   grind
  exact .inr h1,h.sq,h.ok⟩
theorem St.kK{l0:List As}(h:St w0 M Z w (l0++l)):St w0 M Z w l0:=⟨h.cq,h.jC,fun C f=>h.lx C (by simp [f]),fun C f=>h.lV C (by simp [f]),(List.pairwise_append.1 h.sq).1,fun C f=>h.ok C (by simp [f])⟩
theorem St.k0(h:St w0 M Z w l):St w0 M Z w []:=St.kK (l0:=[]) h
theorem St.k1{A0:As}(h:St w0 M Z w (A0::l)):St w0 M Z w [A0]:=St.kK (l0:=[A0]) h
theorem St.k2{A0 A1:As}(h:St w0 M Z w (A0::A1::l)):St w0 M Z w [A0,A1]:=St.kK (l0:=[A0,A1]) h
theorem St.k3{A0 A1 A2:As}(h:St w0 M Z w (A0::A1::A2::l)):St w0 M Z w [A0,A1,A2]:=St.kK (l0:=[A0,A1,A2]) h
theorem St.k4{A0 A1 A2 A3:As}(h:St w0 M Z w (A0::A1::A2::A3::l)):St w0 M Z w [A0,A1,A2,A3]:=St.kK (l0:=[A0,A1,A2,A3]) h
theorem St.e0(h:St w0 M Z w l):St w (nZ []) Z w []:=St.enter (l0:=[]) h
theorem St.e1{A0:As}(h:St w0 M Z w (A0::l)):St w (nZ [A0]) Z w [A0]:=St.enter (l0:=[A0]) h
theorem St.e2{A0 A1:As}(h:St w0 M Z w (A0::A1::l)):St w (nZ [A0,A1]) Z w [A0,A1]:=St.enter (l0:=[A0,A1]) h
theorem St.e3{A0 A1 A2:As}(h:St w0 M Z w (A0::A1::A2::l)):St w (nZ [A0,A1,A2]) Z w [A0,A1,A2]:=St.enter (l0:=[A0,A1,A2]) h
theorem St.e5{A0 A1 A2 A3 A4:As}(h:St w0 M Z w (A0::A1::A2::A3::A4::l)):St w (nZ [A0,A1,A2,A3,A4]) Z w [A0,A1,A2,A3,A4]:=St.enter (l0:=[A0,A1,A2,A3,A4]) h
theorem St.e6{A0 A1 A2 A3 A4 A5:As}(h:St w0 M Z w (A0::A1::A2::A3::A4::A5::l)):St w (nZ [A0,A1,A2,A3,A4,A5]) Z w [A0,A1,A2,A3,A4,A5]:=St.enter (l0:=[A0,A1,A2,A3,A4,A5]) h
theorem St.g0{A0:As}(h:St w0 M Z w (A0::l)):A0.ok Z w:=h.ok _ (by simp)
theorem St.g1{A0 A1:As}(h:St w0 M Z w (A0::A1::l)):A1.ok Z w:=h.ok _ (by simp)
theorem St.g2{A0 A1 A2:As}(h:St w0 M Z w (A0::A1::A2::l)):A2.ok Z w:=h.ok _ (by simp)
theorem St.g3{A0 A1 A2 A3:As}(h:St w0 M Z w (A0::A1::A2::A3::l)):A3.ok Z w:=h.ok _ (by simp)
theorem St.g4{A0 A1 A2 A3 A4:As}(h:St w0 M Z w (A0::A1::A2::A3::A4::l)):A4.ok Z w:=h.ok _ (by simp)
theorem St.g5{A0 A1 A2 A3 A4 A5:As}(h:St w0 M Z w (A0::A1::A2::A3::A4::A5::l)):A5.ok Z w:=h.ok _ (by simp)
theorem St.g6{A0 A1 A2 A3 A4 A5 A6:As}(h:St w0 M Z w (A0::A1::A2::A3::A4::A5::A6::l)):A6.ok Z w:=h.ok _ (by simp)
theorem St.g7{A0 A1 A2 A3 A4 A5 A6 A7:As}(h:St w0 M Z w (A0::A1::A2::A3::A4::A5::A6::A7::l)):A7.ok Z w:=h.ok _ (by simp)
theorem St.g8{A0 A1 A2 A3 A4 A5 A6 A7 A8:As}(h:St w0 M Z w (A0::A1::A2::A3::A4::A5::A6::A7::A8::l)):A8.ok Z w:=h.ok _ (by simp)
theorem St.g9{A0 A1 A2 A3 A4 A5 A6 A7 A8 A9:As}(h:St w0 M Z w (A0::A1::A2::A3::A4::A5::A6::A7::A8::A9::l)):A9.ok Z w:=h.ok _ (by simp)
theorem St.g10{A0 A1 A2 A3 A4 A5 A6 A7 A8 A9 jD:As}(h:St w0 M Z w (A0::A1::A2::A3::A4::A5::A6::A7::A8::A9::jD::l)):jD.ok Z w:=h.ok _ (by simp)
theorem St.g11{A0 A1 A2 A3 A4 A5 A6 A7 A8 A9 jD lK:As}(h:St w0 M Z w (A0::A1::A2::A3::A4::A5::A6::A7::A8::A9::jD::lK::l)):lK.ok Z w:=h.ok _ (by simp)
theorem St.g12{A0 A1 A2 A3 A4 A5 A6 A7 A8 A9 jD lK oP:As}(h:St w0 M Z w (A0::A1::A2::A3::A4::A5::A6::A7::A8::A9::jD::lK::oP::l)):oP.ok Z w:=h.ok _ (by simp)
theorem St.g13{A0 A1 A2 A3 A4 A5 A6 A7 A8 A9 jD lK oP f:As}(h:St w0 M Z w (A0::A1::A2::A3::A4::A5::A6::A7::A8::A9::jD::lK::oP::f::l)):f.ok Z w:=h.ok _ (by simp)
theorem St.g14{A0 A1 A2 A3 A4 A5 A6 A7 A8 A9 jD lK oP j f:As}(h:St w0 M Z w (A0::A1::A2::A3::A4::A5::A6::A7::A8::A9::jD::lK::oP::j::f::l)):f.ok Z w:=h.ok _ (by simp)
theorem St.g15{A0 A1 A2 A3 A4 A5 A6 A7 A8 A9 jD lK oP j o f:As}(h:St w0 M Z w (A0::A1::A2::A3::A4::A5::A6::A7::A8::A9::jD::lK::oP::j::o::f::l)):f.ok Z w:=h.ok _ (by simp)
theorem St.p1{A0 A1:As}(h:St w0 M Z w (A0::A1::l)):St w0 M Z w (A1::A0::l):=h.perm (List.perm_middle (l₁:=[A0])).symm
theorem St.p2{A0 A1 A2:As}(h:St w0 M Z w (A0::A1::A2::l)):St w0 M Z w (A2::A0::A1::l):=h.perm (List.perm_middle (l₁:=[A0,A1])).symm
theorem St.p3{A0 A1 A2 A3:As}(h:St w0 M Z w (A0::A1::A2::A3::l)):St w0 M Z w (A3::A0::A1::A2::l):=h.perm (List.perm_middle (l₁:=[A0,A1,A2])).symm
theorem St.p4{A0 A1 A2 A3 A4:As}(h:St w0 M Z w (A0::A1::A2::A3::A4::l)):St w0 M Z w (A4::A0::A1::A2::A3::l):=h.perm (List.perm_middle (l₁:=[A0,A1,A2,A3])).symm
theorem St.p5{A0 A1 A2 A3 A4 A5:As}(h:St w0 M Z w (A0::A1::A2::A3::A4::A5::l)):St w0 M Z w (A5::A0::A1::A2::A3::A4::l):=h.perm (List.perm_middle (l₁:=[A0,A1,A2,A3,A4])).symm
theorem St.p6{A0 A1 A2 A3 A4 A5 A6:As}(h:St w0 M Z w (A0::A1::A2::A3::A4::A5::A6::l)):St w0 M Z w (A6::A0::A1::A2::A3::A4::A5::l):=h.perm (List.perm_middle (l₁:=[A0,A1,A2,A3,A4,A5])).symm
theorem St.p7{A0 A1 A2 A3 A4 A5 A6 A7:As}(h:St w0 M Z w (A0::A1::A2::A3::A4::A5::A6::A7::l)):St w0 M Z w (A7::A0::A1::A2::A3::A4::A5::A6::l):=h.perm (List.perm_middle (l₁:=[A0,A1,A2,A3,A4,A5,A6])).symm
theorem St.p8{A0 A1 A2 A3 A4 A5 A6 A7 A8:As}(h:St w0 M Z w (A0::A1::A2::A3::A4::A5::A6::A7::A8::l)):St w0 M Z w (A8::A0::A1::A2::A3::A4::A5::A6::A7::l):=h.perm (List.perm_middle (l₁:=[A0,A1,A2,A3,A4,A5,A6,A7])).symm
theorem St.p9{A0 A1 A2 A3 A4 A5 A6 A7 A8 A9:As}(h:St w0 M Z w (A0::A1::A2::A3::A4::A5::A6::A7::A8::A9::l)):St w0 M Z w (A9::A0::A1::A2::A3::A4::A5::A6::A7::A8::l):=h.perm (List.perm_middle (l₁:=[A0,A1,A2,A3,A4,A5,A6,A7,A8])).symm
theorem St.qq{A0 A1 A2 A3 A4 A5 A6 A7 A8 A9 jD:As}(h:St w0 M Z w (A0::A1::A2::A3::A4::A5::A6::A7::A8::A9::jD::l)):St w0 M Z w (jD::A0::A1::A2::A3::A4::A5::A6::A7::A8::A9::l):=h.perm (List.perm_middle (l₁:=[A0,A1,A2,A3,A4,A5,A6,A7,A8,A9])).symm
theorem St.pC{A0 A1 A2 A3 A4 A5 A6 A7 A8 A9 jD lK:As}(h:St w0 M Z w (A0::A1::A2::A3::A4::A5::A6::A7::A8::A9::jD::lK::l)):St w0 M Z w (lK::A0::A1::A2::A3::A4::A5::A6::A7::A8::A9::jD::l):=h.perm (List.perm_middle (l₁:=[A0,A1,A2,A3,A4,A5,A6,A7,A8,A9,jD])).symm
theorem St.qt{A0 A1 A2 A3 A4 A5 A6 A7 A8 A9 jD lK oP:As}(h:St w0 M Z w (A0::A1::A2::A3::A4::A5::A6::A7::A8::A9::jD::lK::oP::l)):St w0 M Z w (oP::A0::A1::A2::A3::A4::A5::A6::A7::A8::A9::jD::lK::l):=h.perm (List.perm_middle (l₁:=[A0,A1,A2,A3,A4,A5,A6,A7,A8,A9,jD,lK])).symm
theorem St.BM{A0 A1 A2 A3 A4 A5 A6 A7 A8 A9 jD lK oP f:As}(h:St w0 M Z w (A0::A1::A2::A3::A4::A5::A6::A7::A8::A9::jD::lK::oP::f::l)):St w0 M Z w (f::A0::A1::A2::A3::A4::A5::A6::A7::A8::A9::jD::lK::oP::l):=h.perm (List.perm_middle (l₁:=[A0,A1,A2,A3,A4,A5,A6,A7,A8,A9,jD,lK,oP])).symm
theorem St.SI{A0 A1 A2 A3 A4 A5 A6 A7 A8 A9 jD lK oP f j:As}(h:St w0 M Z w (A0::A1::A2::A3::A4::A5::A6::A7::A8::A9::jD::lK::oP::f::j::l)):St w0 M Z w (j::A0::A1::A2::A3::A4::A5::A6::A7::A8::A9::jD::lK::oP::f::l):=h.perm (List.perm_middle (l₁:=[A0,A1,A2,A3,A4,A5,A6,A7,A8,A9,jD,lK,oP,f])).symm
theorem St.p15{A0 A1 A2 A3 A4 A5 A6 A7 A8 A9 jD lK oP f j o:As}(h:St w0 M Z w (A0::A1::A2::A3::A4::A5::A6::A7::A8::A9::jD::lK::oP::f::j::o::l)):St w0 M Z w (o::A0::A1::A2::A3::A4::A5::A6::A7::A8::A9::jD::lK::oP::f::j::l):=h.perm (List.perm_middle (l₁:=[A0,A1,A2,A3,A4,A5,A6,A7,A8,A9,jD,lK,oP,f,j])).symm
end
/-! what may be said -/
def As.blk(b T:Nat) (cs:List Value):As where
 fp x:=x=b
 ok _ w:=bJ w b T cs
 lt h x hx:=by subst hx;exact h.lt
 mono _ h:=h
 st hs hc h:=by
  have h':_=_:=h
  show _=_
  grind
def As.map{κ:Type}(enc:κ→Value) (b:Nat) (l:List (κ × Value)):As where
 fp x:=x=b
 ok _ w:=KM enc w b l
 lt h x hx:=by subst hx;exact h.lt
 mono _ h:=h
 st hs hc h:=by
  have hl:=h.lt;obtain⟨es,c,h1,h2⟩:=h;exact⟨es,c,by rw [hc b (.inl rfl) hl];exact h1,h2⟩
structure RR (α:Type) where
 r:(Nat→Prop)→World→α→List Value→Prop
 mono:∀{Z Z':Nat→Prop}{w x row},(∀x,Z x→Z' x)→r Z w x row→r Z' w x row
 st:∀{Z:Nat→Prop}{w w':World}{x row},w.heap.size≤w'.heap.size→(∀x,Z x→x<w.heap.size→w'.heap[x]?=w.heap[x]?)→r Z w x row→r Z w' x row
 cut:∀{Z:Nat→Prop}{w:World}{x row},r Z w x row→r (fun b=>Z b∧b<w.heap.size) w x row
theorem SL.st{Z:Nat→Prop}{w w':World}{k n c:Nat}{a:Option Addr}{cs:List Value}(f:w.heap.size≤w'.heap.size) (hc:∀x,Z x→x<w.heap.size→w'.heap[x]?=w.heap[x]?) (h:SL Z w k a n c cs):SL Z w' k a n c cs:=by
 refine⟨h.len,h.le,h.one,?_⟩
 rcases h.at_ with h1 | ⟨b,o,h1,p,q,r,s,t⟩
 ·
  exact .inl h1
 exact .inr ⟨b,o,h1,p,q,r,Nat.lt_of_lt_of_le s f,fun j v y=>by rw [← t j v y];grind [World.cell?_of_block]⟩
theorem SR.st{α:Type}{R f:α→List Value→Prop}{Z:Nat→Prop}{w w':World}{k n c:Nat}{a:Option Addr}{xs:List α}(j:w.heap.size≤w'.heap.size) (hc:∀x,Z x→x<w.heap.size→w'.heap[x]?=w.heap[x]?) (o:∀x r,R x r→f x r)
  (h:SR Z w k R a n c xs):SR Z w' k f a n c xs:=by
 obtain⟨hn,rows,hl,hk,h1,p⟩:=h;exact⟨hn,rows,hl,hk,SL.st j hc h1,fun i x r h1 q=>o x r (p i x r h1 q)⟩
def RR.flat{α:Type}(f:α→List Value):RR α:=⟨fun _ _ x row=>row=f x,fun _ h=>h,fun _ _ h=>h,fun h=>h⟩
def Rd{α:Type}(R:RR α) (k:Nat) (Z:Nat→Prop) (w:World) (a:Option Addr) (n c:Nat) (xs:List α):Prop:=SR Z w k (R.r Z w) a n c xs
theorem Rd.mono{α:Type}{R:RR α}{k:Nat}{Z Z':Nat→Prop}{w:World}{a:Option Addr}{n c:Nat}{xs:List α}(f:∀x,Z x→Z' x) (h:Rd R k Z w a n c xs):Rd R k Z' w a n c xs:=
 SR.mono h (fun b hb _=>f b hb) fun _ _=>R.mono f
theorem Rd.st{α:Type}{R:RR α}{k:Nat}{Z:Nat→Prop}{w w':World}{a:Option Addr}{n c:Nat}{xs:List α}(f:w.heap.size≤w'.heap.size) (hc:∀x,Z x→x<w.heap.size→w'.heap[x]?=w.heap[x]?) (h:Rd R k Z w a n c xs):Rd R k Z w' a n c xs:=
 SR.st f hc (fun _ _=>R.st f hc) h
theorem Rd.len{α:Type}{R:RR α}{k:Nat}{Z:Nat→Prop}{w:World}{a:Option Addr}{n c:Nat}{xs:List α}(h:Rd R k Z w a n c xs):n=xs.length:=SR.len h
theorem Rd.le{α:Type}{R:RR α}{k:Nat}{Z:Nat→Prop}{w:World}{a:Option Addr}{n c:Nat}{xs:List α}(h:Rd R k Z w a n c xs):n≤140737488355328:=SR.le h
theorem Rd.at{α:Type}{R:RR α}{k:Nat}{Z:Nat→Prop}{w:World}{a:Option Addr}{n c:Nat}{xs:List α}(h:Rd R k Z w a n c xs) {i:Nat}(hi:i<xs.length) :
  ∃b o r,a=some ⟨b,o,none⟩∧r.length=k∧R.r Z w xs[i] r∧w.rangeAt b (o+i*k) r∧Z b:=SR.at h (List.getElem?_eq_getElem hi)
theorem Rd.ext{α:Type}{R:RR α}{k:Nat}{Z:Nat→Prop}{w w':World}{a:Option Addr}{n c:Nat}{xs:List α}(h:Rd R k Z w a n c xs) (s:aQ [] w w'):Rd R k Z w' a n c xs:=
 h.st s.size fun x _ f=>s.block x f (by simp)
theorem Rd.cut{α:Type}{R:RR α}{k:Nat}{Z:Nat→Prop}{w:World}{a:Option Addr}{n c:Nat}{xs:List α}(h:Rd R k Z w a n c xs):Rd R k (fun b=>Z b∧b<w.heap.size) w a n c xs:=
 SR.mono h (fun _ hb f=>⟨hb,f⟩) fun _ _ h=>R.cut h
theorem Rd.nil{α:Type}(R:RR α) (k:Nat) (Z:Nat→Prop) (w:World):Rd R k Z w none 0 0 []:=SR.nil _ _ _ _
def As.ro{α:Type}(R:RR α) (k:Nat) (a:Option Addr) (n c:Nat) (xs:List α):As where
 fp _:=False
 ok Z w:=Rd R k Z w a n c xs
 lt _ _ hx:=hx.elim
 mono hZ h:=Rd.mono hZ h
 st hs hc h:=Rd.st hs (fun x hx=>hc x (.inr hx)) h
def Ow{α:Type}(R:RR α) (E k:Nat) (Z:Nat→Prop) (w:World) (a:Option Addr) (n c:Nat) (xs:List α):Prop:=OR 0 w E k (R.r Z w) a n c xs
theorem OL.st{base:Nat}{w w':World}{E k n c:Nat}{a:Option Addr}{cs:List Value}(hc:∀x,x∈bA a→x<w.heap.size→w'.heap[x]?=w.heap[x]?) (h:OL base w E k a n c cs):OL base w' E k a n c cs:=by
 refine⟨h.1,h.2.1,?_⟩;have j:=h.lt
 rcases h.2.2 with hn | ⟨g,cap,cur,h1,f,o,rest⟩
 ·
  exact .inl hn
 simp at h1
 obtain⟨rfl,rfl⟩:=h1;exact .inr ⟨g,c,cur,rfl,f,by grind [bA],rest⟩
def As.os{α:Type}(R:RR α) (E k:Nat) (a:Option Addr) (n c:Nat) (xs:List α):As where
 fp x:=x∈bA a
 ok Z w:=Ow R E k Z w a n c xs
 lt h:=OR.lt h
 mono hZ h:=by
  obtain⟨hn,rows,hl,hk,h1,hx⟩:=h;exact⟨hn,rows,hl,hk,h1,fun i x r h1 h2=>R.mono hZ (hx i x r h1 h2)⟩
 st hs hc h:=by
  obtain⟨hn,rows,hl,hk,h1,hx⟩:=h;exact⟨hn,rows,hl,hk,OL.st (fun x hx=>hc x (.inl hx)) h1,fun i x r h1 h2=>R.st hs (fun x hx=>hc x (.inr hx)) (hx i x r h1 h2)⟩
theorem As.JM{α:Type}(R:RR α) (E k:Nat) (Z:Nat→Prop) (w:World):(As.os R E k none 0 0 []).ok Z w:=OR.nil _ _ _ _ _
theorem As.Gh{α:Type}(R:RR α) (E k n c:Nat) (xs:List α):∀x,¬(As.os R E k none n c xs).fp x:=fun x f=>by simp [As.os,bA] at f
section
variable {w0 w w':World}{M Z Z':Nat→Prop}{l:List As}{α:Type}{R:RR α}
theorem St.df(h:St w0 M Z w l) {b T:Nat}{cs:List Value}(f:wL w w' b) (hb:bJ w' b T cs):St w0 M Z w' (As.blk b T cs::l):=
 h.new f.ext hb fun x j=>by have h1:x=b:=j;subst h1;exact f.kz (aQ.refl [] _)
theorem St.Gi{κ:Type}{enc:κ→Value}(h:St w0 M Z w l) {b:Nat}{cs:List (κ × Value)}(f:wL w w' b) (hb:KM enc w' b cs):St w0 M Z w' (As.map enc b cs::l):=
 h.new f.ext hb fun x j=>by have h1:x=b:=j;subst h1;exact f.kz (aQ.refl [] _)
theorem St.JN{b T j:Nat}{cs o:List Value}(h:St w0 M Z w (As.blk b T cs::l)) (s:aQ [b] w w') (hb:bJ w' b j o):St w0 M Z w' (As.blk b j o::l):=
 h.iL (s.p.mono fun x _ f=>by simpa [As.blk] using f) hb fun x f=>.inl f
theorem St.iu{κ:Type}{enc:κ→Value}{b:Nat}{cs j:List (κ × Value)}(h:St w0 M Z w (As.map enc b cs::l)) (s:aQ [b] w w') (hb:KM enc w' b j):St w0 M Z w' (As.map enc b j::l):=
 h.iL (s.p.mono fun x _ f=>by simpa [As.map] using f) hb fun x f=>.inl f
theorem St.fV(h:St w0 M Z w l) (R:RR α) (E k:Nat):St w0 M Z w (As.os R E k none 0 0 []::l):=h.fact (As.JM _ _ _ _ _) (As.Gh _ _ _ _ _ _)
theorem St.gN{E k n c o q:Nat}{a f:Option Addr}{xs t:List α}(h:St w0 M Z w (As.os R E k a n c xs::l)) (s:aQ (bA a) w w') (y:OR 0 w' E k (R.r Z w) f o q t) (z:∀x∈bA f,x∈bA a∨w.heap.size≤x) :
  St w0 M Z w' (As.os R E k f o q t::l):=by
 refine h.iL (s.p.mono fun x _ j=>j) ?_ z;obtain⟨hn,rows,hl,hk,h1,j⟩:=y;refine⟨hn,rows,hl,hk,h1,fun i x r h1 C=>R.st s.size (fun x D F=>?_) (j i x r h1 C)⟩
 exact s.block x F fun hm=>h.lx (As.os R E k a n c xs) (by simp) x hm D
theorem St.qu(h:St w0 M Z w l) {E k n c:Nat}{a:Option Addr}{xs:List α}(s:aQ [] w w') (f:Ow R E k Z w' a n c xs) (j:∀x∈bA a,w.heap.size≤x):St w0 M Z w' (As.os R E k a n c xs::l):=h.new s f j
theorem Ow.rd{E k n c:Nat}{a:Option Addr}{xs:List α}(h:Ow R E k Z w a n c xs) (hle:xs.length≤140737488355328):Rd R k (fun x=>Z x∨x∈bA a) w a n c xs:=by
 obtain⟨hn,rows,hl,hk,h1,j⟩:=h;refine⟨hn,rows,hl,hk,?_,fun i x r h1 o=>R.mono (fun _ h=>.inl h) (j i x r h1 o)⟩;have f:=h1.sl (A:=fun _=>True) (fun _ _=>trivial) (by omega);refine⟨f.len,f.le,f.one,?_⟩
 grind [SL.at_,bA]
theorem St.eX{E k n c:Nat}{a:Option Addr}{xs:List α}(h:St w0 M Z w (As.os R E k a n c xs::l)) (hle:xs.length≤140737488355328):St w0 M (fun x=>Z x∨x∈bA a) w (As.ro R k a n c xs::l):=
 h.freeze (A:=As.os R E k a n c xs) (B:=As.ro R k a n c xs) (Ow.rd (h.g0) hle) fun _ f=>f
theorem fE.wt{n:Nat}{Z F:Nat→Prop}(h:∀x,F x→n≤x):fE n Z (fun x=>Z x∨F x):=⟨fun _ h=>.inl h,fun x f=>by grind⟩
theorem Ow.len{E k n c:Nat}{a:Option Addr}{xs:List α}(h:Ow R E k Z w a n c xs):n=xs.length:=OR.len h
theorem As.gb{b T:Nat}{cs:List Value}(h:(As.blk b T cs).ok Z w):bJ w b T cs:=h
theorem As.gm{κ:Type}{enc:κ→Value}{b:Nat}{cs:List (κ × Value)}(h:(As.map enc b cs).ok Z w):KM enc w b cs:=h
theorem As.gs{E k n c:Nat}{a:Option Addr}{xs:List α}(h:(As.os R E k a n c xs).ok Z w):Ow R E k Z w a n c xs:=h
theorem As.gr{k n c:Nat}{a:Option Addr}{xs:List α}(h:(As.ro R k a n c xs).ok Z w):Rd R k Z w a n c xs:=h
end
theorem aQ.p0{M:Nat→Prop}{w w':World}(h:aQ [] w w'):fZ M w w':=h.p.mono (by simp)
theorem St.cg{w0 w:World}{Z:Nat→Prop}{l:List As}(h:St w0 (fun _=>False) Z w l):aQ [] w0 w:=h.cq.cq (fun _ h=>h.elim)
theorem St.bL{w0 w:World}{M Z:Nat→Prop}{l:List As}(h:St w0 M Z w l):∀x,nZ l x→x<w.heap.size:=fun x ⟨A,f,j⟩=>A.lt (h.ok A f) x j
def As.rg(b o:Nat) (r:List Value):As where
 fp _:=False
 ok Z w:=Z b∧b<w.heap.size∧w.rangeAt b o r
 lt _ _ hx:=hx.elim
 mono hZ h:=⟨hZ _ h.1,h.2⟩
 st hs hc h:=⟨h.1,Nat.lt_of_lt_of_le h.2.1 hs,fun j v hv=>by rw [← h.2.2 j v hv];grind [World.cell?_of_block]⟩
theorem As.Gj{α:Type}{R:RR α}{k n c:Nat}{a:Option Addr}{xs:List α}{Z:Nat→Prop}{w:World}(h:Rd R k Z w a n c xs):(As.ro R k a n c xs).ok Z w:=h
theorem St.gV{w w':World}{Z:Nat→Prop}{l:List As}{A:As}(h:St w (nZ []) Z w' (A::l)):∀x,A.fp x→w.heap.size≤x:=fun x f=>by
 rcases h.lV A (by simp) x f with⟨B,j,_⟩ | h1
 ·
  cases j
 exact h1
theorem As.nS{w:World}{Z:Nat→Prop}{b o:Nat}{r:List Value}(h:(As.rg b o r).ok Z w):w.rangeAt b o r:=h.2.2
theorem As.N3{w:World}{Z:Nat→Prop}{b o:Nat}{r:List Value}(h:Z b) (f:b<w.heap.size) (hr:w.rangeAt b o r):(As.rg b o r).ok Z w:=⟨h,f,hr⟩
theorem RR.bt{α:Type}{f:α→List Value}{Z:Nat→Prop}{w:World}{x:α}{r:List Value}(h:(RR.flat f).r Z w x r):r=f x:=h
section
variable {P:Program}{n:Nat}{kv:KV}{w:World}{Q:Exit→Act→World→Prop}{w0:World}{M Z:Nat→Prop}
theorem WC.bj{σ:Type}{c:Code}{rest:List As}{db:σ→KV}{F:σ→List As}{I:σ→Prop}{μ:σ→Nat}(f:σ) (j:St w0 M Z w (F f++rest)) (o:Sub kv (db f)) (p:I f)
  (round:∀s w',St w0 M Z w' (F s++rest)→I s→WC P c (Exit.then (fun q r=>∃h,Fr n q (db h)∧(St w0 M Z r (F h++rest)∧I h)∧μ h<μ s) Q) n (db s) w'):WC P (.loop c) Q n kv w:=
 WC.loop (σ:=σ) (db:=db) (I:=fun s w'=>St w0 M Z w' (F s++rest)∧I s) (μ:=μ) f o ⟨j,p⟩ fun s w' ⟨h1,t⟩=>round s w' h1 t
theorem WC.nf{σ:Type}{c:Code}{rest:List As}{db:σ→KV}{F:σ→List As}{I:σ→Prop}{μ:σ→Nat}{Zf:σ→Nat→Prop}(f:σ) (j:St w0 M (Zf f) w (F f++rest)) (o:Sub kv (db f)) (p:I f)
  (round:∀s w',St w0 M (Zf s) w' (F s++rest)→I s→WC P c (Exit.then (fun q r=>∃h,Fr n q (db h)∧(St w0 M (Zf h) r (F h++rest)∧I h)∧μ h<μ s) Q) n (db s) w'):WC P (.loop c) Q n kv w:=
 WC.loop (σ:=σ) (db:=db) (I:=fun s w'=>St w0 M (Zf s) w' (F s++rest)∧I s) (μ:=μ) f o ⟨j,p⟩ fun s w' ⟨h1,t⟩=>round s w' h1 t
theorem WC.eF{c:Code}{t:Nat}{v:Value}{l:List As}(_hst:St w0 M Z w l) (h:WC P c (oJ n t v kv fun f=>St w0 M Z f l) n kv w) (j:∀w',St w0 M Z w' l→EX Q .normal n ((t,v)::kv) w'):WC P c Q n kv w:=
 WC.jF (fun f=>St w0 M Z f l) h j
theorem WC.jJ{c:Code}{t:Nat}{v:Value}{l:List As}(_hst:St w0 M Z w l) (h:WC P c (oJ n t v (fX t kv) fun f=>St w0 M Z f l) n kv w) (j:∀w',St w0 M Z w' l→EX Q .normal n ((t,v)::fX t kv) w'):WC P c Q n kv w:=
 WC.kC (fun f=>St w0 M Z f l) h j
theorem WC.Dp{id m:Nat}{l:List Oper}{ls:List As}(T:Nat→World→World→Prop) {E:Nat→Option (Value→World→Prop)}(h:St w0 M Z w ls)
  (o:∀i S,E i=some S→∀j p,E j=some p→j≠i→j∉eI l.toArray i→∀v w1 w2,(w.heap.size≤w1.heap.size∧St w0 M Z w1 ls)→(w.heap.size≤w2.heap.size∧St w0 M Z w2 ls)→T j w1 w2→S v w1→S v w2) (hm:P.follows .mixedOrders=true) (q:wP l m []=true)
  (r:DW P l.toArray n (fun f=>w.heap.size≤f.heap.size∧St w0 M Z f ls) T E (fun kv w=>WL P l.toArray Q (l.drop m) n kv w) 0 (l.take m) kv []):WC P (.region id l.toArray true) Q n kv w:=
 WC.drawn (C:=fun f=>w.heap.size≤f.heap.size∧St w0 M Z f ls) (T:=T) o hm q ⟨Nat.le_refl _,h.step (aQ.drew [] w)⟩ r
theorem WC.dh{id m:Nat}{l:List Oper}{ls:List As}{E:Nat→Option (Value→World→Prop)}(h:St w0 M Z w ls)
  (o:∀i S,E i=some S→∀j p,E j=some p→j≠i→j∉eI l.toArray i→∀v w1 w2,(w.heap.size≤w1.heap.size∧St w0 M Z w1 ls)→(w.heap.size≤w2.heap.size∧St w0 M Z w2 ls)→fZ (nZ ls) w1 w2→S v w1→S v w2) (hm:P.follows .mixedOrders=true) (q:wP l m []=true)
  (r:DW P l.toArray n (fun f=>w.heap.size≤f.heap.size∧St w0 M Z f ls) (fun _=>fZ (nZ ls)) E (fun kv w=>WL P l.toArray Q (l.drop m) n kv w) 0 (l.take m) kv []):WC P (.region id l.toArray true) Q n kv w:=
 WC.drawn (C:=fun f=>w.heap.size≤f.heap.size∧St w0 M Z f ls) (T:=fun _=>fZ (nZ ls)) o hm q ⟨Nat.le_refl _,h.step (aQ.drew [] w)⟩ r
end
def PB(N T:Nat) (cs:List Value) (v:Value) (w:World):Prop:=∃b,v=.pointer (some ⟨b,0,none⟩)∧N≤b∧bJ w b T cs
theorem PB.st{N T:Nat}{cs:List Value}{F:Nat→Prop}(j:∀x,F x→x<N) {v:Value}{w w':World}(c:fZ F w w') (h:PB N T cs v w):PB N T cs v w':=by
 obtain⟨b,h1,o,f⟩:=h;exact⟨b,h1,o,by have p:_=_:=f;show _=_;rw [c.block b f.lt fun q=>by have:=j b q;omega];exact p⟩
theorem PB.get{N T b:Nat}{cs:List Value}{w:World}(h:PB N T cs (.pointer (some ⟨b,0,none⟩)) w):N≤b∧bJ w b T cs:=by
 obtain⟨b',h1,f,j⟩:=h
 grind
theorem St.add{w0 w:World}{M Z:Nat→Prop}{l:List As}{B:As}{N:Nat}(h:St w0 M Z w l) (o:B.ok Z w) (p:∀x,B.fp x→N≤x) (hl:∀x,nZ l x→x<N) (r:∀x,Z x→x<N) (h0:w0.heap.size≤N):St w0 M Z w (B::l) where
 cq:=h.cq
 jC:=h.jC
 lx A f x j q:=by
  simp only [List.mem_cons] at f
  rcases f with rfl | f
  ·
   grind
  exact h.lx A f x j q
 lV A f x j:=by
  simp only [List.mem_cons] at f
  rcases f with rfl | f
  ·
   grind
  exact h.lV A f x j
 sq:=List.pairwise_cons.2 ⟨fun A f x j hb=>by have:=p x j;have:=hl x ⟨A,f,hb⟩;omega,h.sq⟩
 ok A f:=by
  simp only [List.mem_cons] at f
  rcases f with rfl | f
  ·
   exact o
  exact h.ok A f
theorem St.BN{w0 w:World}{M Z:Nat→Prop}{l:List As}{N b T:Nat}{cs:List Value}(h:St w0 M Z w l) (f:PB N T cs (.pointer (some ⟨b,0,none⟩)) w) (hl:∀x,nZ l x→x<N) (j:∀x,Z x→x<N) (h0:w0.heap.size≤N):St w0 M Z w (As.blk b T cs::l):=
 h.add (B:=As.blk b T cs) f.get.2 (fun x o=>by have h1:x=b:=o;subst h1;exact f.get.1) hl j h0
def PM{κ:Type}(enc:κ→Value) (N:Nat) (v:Value) (w:World):Prop:=∃b,v=.map (some b)∧N≤b∧KM enc w b []
theorem PM.st{κ:Type}{enc:κ→Value}{N:Nat}{F:Nat→Prop}(j:∀x,F x→x<N) {v:Value}{w w':World}(c:fZ F w w') (h:PM enc N v w):PM enc N v w':=by
 obtain⟨b,h1,o,p⟩:=h;exact⟨b,h1,o,(As.map enc b []).st (Z:=fun _=>False) c.size (fun x f hl=>c.block x hl fun q=>by rcases f with f | f;have f:x=b:=f;subst f;have:=j x q;omega;exact f.elim) p⟩
theorem PM.get{κ:Type}{enc:κ→Value}{N b:Nat}{w:World}(h:PM enc N (.map (some b)) w):N≤b∧KM enc w b []:=by
 obtain⟨b',h1,f,j⟩:=h
 grind
theorem St.TQ{κ:Type}{enc:κ→Value}{w0 w:World}{M Z:Nat→Prop}{l:List As}{N b:Nat}(h:St w0 M Z w l) (f:PM enc N (.map (some b)) w) (hl:∀x,nZ l x→x<N) (j:∀x,Z x→x<N) (h0:w0.heap.size≤N):St w0 M Z w (As.map enc b []::l):=
 h.add (B:=As.map enc b []) f.get.2 (fun x o=>by have h1:x=b:=o;subst h1;exact f.get.1) hl j h0
theorem St.same{w0 w w':World}{M Z:Nat→Prop}{l:List As}{A:As}(h:St w0 M Z w l) (f:A∈l) (s:fZ A.fp w w') (j:A.ok Z w'):St w0 M Z w' l:=by
 obtain⟨p,q,rfl⟩:=List.append_of_mem f;exact((h.perm List.perm_middle.symm).iL s j fun x o=>.inl o).perm List.perm_middle
theorem AL{l:List As}{A:As}(f:A∈l) {x:Nat}(h:A.fp x):nZ l x:=⟨A,f,h⟩
theorem St.N4{α:Type}{R:RR α}{w0 w:World}{M Z:Nat→Prop}{l:List As}{E k n c:Nat}{a:Option Addr}{xs f:List α}(h:St w0 M Z w (As.os R E k a n c xs::l)) (e:xs=f):St w0 M Z w (As.os R E k a n c f::l):=by subst e;exact h
theorem Ow.addr{α:Type}{R:RR α}{w:World}{Z:Nat→Prop}{E k n c i:Nat}{a:Option Addr}{xs:List α}{y:α}(h:Ow R E k Z w a n c xs) (f:xs[i]?=some y):∃b,a=some ⟨b,0,none⟩:=by
 obtain⟨hn,rows,hl,hk,h1,_⟩:=h
 grind [OL.cases]
theorem Ow.kl{α:Type}{f:α→List Value}{w:World}{Z:Nat→Prop}{E k n c i b o:Nat}{a:Option Addr}{xs:List α}{y:α}(h:Ow (RR.flat f) E k Z w a n c xs) (hle:xs.length≤140737488355328) (p:a=some ⟨b,o,none⟩) (q:xs[i]?=some y):w.rangeAt b (o+i*k) (f y):=by
 obtain⟨b',t,r,h1,_,j,s,_⟩:=SR.at (Ow.rd h hle) q;rw [p] at h1
 simp at h1
 obtain⟨rfl,rfl⟩:=h1;have j:r=f y:=j;subst j;exact s
section
variable {P:Program}{n:Nat}{kv:KV}{w:World}{Q:Exit→Act→World→Prop}
theorem Fr.eqv{a:Act}{t:Nat}{v v':Value}(f:Fr n a kv) (h:look kv t=some v) (e:v=v'):Fr n a ((t,v')::kv):=⟨f.size,f.jq,fun s u hu=>by
 simp only [look] at hu
 cases hb:Nat.beq t s with
 | true=>rw [hb] at hu;simp at hu;have:t=s:=Nat.eq_of_beq_eq_true hb;subst this;rw [← hu,← e];exact f.val t v h
 | false=>rw [hb] at hu;exact f.val s u hu⟩
theorem WC.eqv{c:Code}{t:Nat}{v v':Value}(h:look kv t=some v) (e:v=v') (k:WC P c Q n ((t,v')::kv) w):WC P c Q n kv w:=fun a f=>k a (f.eqv h e)
theorem EX.eqv{x:Exit}{t:Nat}{v v':Value}(h:look kv t=some v) (e:v=v') (k:EX Q x n ((t,v')::kv) w):EX Q x n kv w:=fun a f=>k a (f.eqv h e)
end
section
variable {κ:Type} [DecidableEq κ] {enc:κ→Value}{P:Program}{kt e ty T:TypeId}{w:World}{b:Nat}{l:List (κ × Value)}{kv:KV}
theorem PV.bF(f:KK P kt enc) (hT:P.underlying T=some (.map kt e)) {z:Value}(h:∀w,(zeroValue e).run P w=.ok z w) (hb:KM enc w b l) {x y:Operand}{k:κ}{v:Value}(j:bq l k=some v) (o:ev kv x=some (.map (some b))) (hy:ev kv y=some (enc k)):PV P (.lookup T x y false) ty kv w v:=by
 have:=PV.look (ty:=ty) f hT h hb o hy
 rw [j] at this;exact this
end
end Go.Rc

namespace Go.Rc
open Go
theorem pD:∀(rows:List (List Value)) (k i f:Nat) (v:Value) (row:List Value),(∀r∈rows,r.length=k)→rows[i]?=some row→f<k→(rows.set i (row.set f v)).flatten=rows.flatten.set (i*k+f) v:=by
 intro rows
 induction rows with
 | nil=>intro k i f v row _ h;simp at h
 | cons x xs o=>
  intro k i f v row hk h p;have j:x.length=k:=hk x (by simp)
  cases i with
  | zero=>
   simp at h;subst h
   simp only [List.set_cons_zero,List.flatten_cons,Nat.zero_mul,Nat.zero_add];rw [List.set_append_left _ _ (by omega)]
  | succ i=>
   simp only [List.set_cons_succ,List.flatten_cons];rw [o k i f v row (fun r hr=>hk r (by simp [hr])) (by simpa using h) p,List.set_append_right _ _ (by rw [j,Nat.succ_mul];omega)]
   congr 2
   rw [j,Nat.succ_mul];omega
theorem qv:∀(rows:List (List Value)) (k i:Nat) (us:List Value),(∀r∈rows,r.length=k)→i<rows.length→us.length=k→(rows.set i us).flatten=rows.flatten.take (i*k)++us++rows.flatten.drop (i*k+k):=by
 intro rows
 induction rows with
 | nil=>intro k i us _ h;simp at h
 | cons x xs f=>
  intro k i us hk h hu;have j:x.length=k:=hk x (by simp)
  cases i with
  | zero=>
   simp only [List.set_cons_zero,List.flatten_cons,Nat.zero_mul,Nat.zero_add,List.take_zero,List.nil_append];rw [List.drop_append_of_le_length (by omega),List.drop_of_length_le (by omega),List.nil_append]
  | succ i=>
   simp only [List.set_cons_succ,List.flatten_cons];rw [f k i us (fun r hr=>hk r (by simp [hr])) (by simpa using h) hu]
   have e:(i+1)*k=x.length+i*k:=by rw [j,Nat.succ_mul];omega
   rw [e,List.take_length_add_append,Nat.add_assoc,List.drop_length_add_append]
   simp
section
variable {α:Type}{R:RR α}{P:Program}{E k n c i b:Nat}{a:Option Addr}{xs:List α}{u u':α}{Z:Nat→Prop}{w:World}
theorem Ow.at{R:RR α}(h:Ow R E k Z w a n c xs) (hle:xs.length≤140737488355328) (p:xs[i]?=some u):∃b r,a=some ⟨b,0,none⟩∧r.length=k∧R.r Z w u r∧w.rangeAt b (0+i*k) r:=by
 obtain⟨hn,rows,hl,hk,h1,q⟩:=h;have hi:=(List.getElem?_eq_some_iff.1 p).1;have s:=h1.sl (A:=fun _=>True) (fun _ _=>trivial) (by omega)
 rcases h1.cases with⟨_,j,_⟩ | ⟨g,cur,j,_⟩
 ·
  omega
 obtain⟨r,hr⟩:∃r,rows[i]?=some r:=⟨rows[i],by simp [hl,hi]⟩
 rcases s.at_ with⟨f,_⟩ | ⟨b',o,f,_,_,_,_,t⟩
 ·
  rw [j] at f;cases f
 rw [j] at f;simp at f;obtain⟨rfl,rfl⟩:=f;exact⟨g,r,j,hk r (List.mem_of_getElem? hr),q i u r p hr,mi t (i*k) r (kE rows k i r hk hr)⟩
variable {N:Nat}{kv:KV}{K:KV→World→Prop}{ty:TypeId}{pos:String}{af:Array Edge}{g:Option (Nat × Bool)}{T:TypeId}
theorem OX.TR{x y:Operand}{f:Nat}{v:Value}(hT:(P.info? T).map (·.size)=some 1) (h:Ow R E k Z w a n c xs) (q:a=some ⟨b,0,none⟩) (hu:xs[i]?=some u) (G:f<k) (s:ev kv x=some (.pointer (some ⟨b,0+i*k+f,none⟩))) (hy:ev kv y=some v)
  (h1:v.oneCell'=true) (u':α) (H:∀r,r.length=k→R.r Z w u r→R.r Z w u' (r.set f v)) (I:∀w',aQ (bA a) w w'→OR 0 w' E k (R.r Z w) a n c (xs.set i u')→K kv w'):OX P ⟨none,.store T x y,ty,pos,af,g⟩ N kv w K:=by
 obtain⟨hn,rows,hl,hk,t,D⟩:=h;have hi:=(List.getElem?_eq_some_iff.1 hu).1;obtain⟨row,C⟩:∃r,rows[i]?=some r:=⟨rows[i],by simp [hl,hi]⟩;have F:=hk row (List.mem_of_getElem? C)
 rcases t.cases with⟨p,_⟩ | ⟨b',cur,p,J,L,O,U,V,W⟩
 ·
  rw [q] at p;cases p
 rw [q] at p;simp at p;subst p;subst q
 have hb:bJ w b E cur.toList:=by simpa [bJ] using L
 have Y:i*k+f<cur.toList.length:=by
  have:(i+1)*k≤c*k:=Nat.mul_le_mul_right _ (by omega)
  rw [Nat.succ_mul] at this
  simp;omega
 have gJ:=AE (P:=P) hT hb Y h1;refine⟨rfl,rfl,by simp [known,opers,s,hy],?_⟩
 have TS:0+i*k+f=i*k+f:=by omega
 rw [TS] at s;simp only [execOp,aI s,aI hy,Sem.run_bind,gJ,Result.andThen_ok];refine I _ (jE _ _ _) ⟨by simp [hn],rows.set i (row.set f v),by simp [hl],?_,?_,?_⟩
 ·
  intro r hr
  rcases List.mem_or_eq_of_mem_set hr with hr | rfl
  ·
   exact hk r hr
  simp [F]
 ·
  rw [pD rows k i f v row hk C G];refine⟨fun z o=>?_,by simpa using t.2.1,.inr ⟨b,c,_,rfl,J,setRow_heap w b _ _ E _ hb,O,U,by simp [V],?_⟩⟩
  ·
   rcases List.mem_or_eq_of_mem_set o with o | rfl
   ·
    exact t.1 z o
   exact h1
  rw [← W]
  simp [List.take_set]
 intro j z r o hr
 by_cases e:i=j
 ·
  subst e;rw [List.getElem?_set,if_pos rfl,if_pos hi] at o;rw [List.getElem?_set,if_pos rfl,if_pos (by omega)] at hr
  simp at o hr
  subst o hr;exact H row F (D i u row hu C)
 rw [List.getElem?_set,if_neg e] at o hr;exact D j z r o hr
theorem OX.N5{x y:Operand}{us:List Value}(hT:(P.info? T).map (·.size)=some k) (h:Ow R E k Z w a n c xs) (t:a=some ⟨b,0,none⟩) (hi:i<xs.length) (D:ev kv x=some (.pointer (some ⟨b,0+i*k,none⟩))) (hy:ev kv y=some (.agg us.toArray))
  (hlen:us.length=k) (h1:∀v∈us,v.oneCell'=true) (u':α) (H:R.r Z w u' us) (I:∀w',aQ (bA a) w w'→OR 0 w' E k (R.r Z w) a n c (xs.set i u')→K kv w'):OX P ⟨none,.store T x y,ty,pos,af,g⟩ N kv w K:=by
 obtain⟨hn,rows,hl,hk,q,J⟩:=h
 rcases q.cases with⟨o,_⟩ | ⟨b',cur,o,L,O,F,U,V,W⟩
 ·
  rw [t] at o;cases o
 rw [t] at o;simp at o;subst o;subst t
 have hb:bJ w b E cur.toList:=by simpa [bJ] using O
 have hmul:(i+1)*k≤n*k:=Nat.mul_le_mul_right _ (by omega);have aap:n*k≤c*k:=Nat.mul_le_mul_right _ F;rw [Nat.succ_mul] at hmul
 have Y:0+i*k=i*k:=by omega
 rw [Y] at D
 refine OX.stA hT hb D hy hlen (by simp;omega) h1 rfl fun w' c1 _ hb'=>I w' c1 ⟨by simp [hn],rows.set i us,by simp [hl],?_,?_,?_⟩
 ·
  intro r hr
  rcases List.mem_or_eq_of_mem_set hr with hr | rfl
  ·
   exact hk r hr
  exact hlen
 ·
  have JO:rows.flatten.length=n*k:=q.2.1;rw [qv rows k i us hk (by omega) hlen]
  have G:cur.toList.length=c*k:=by simp [V]
  refine⟨fun z f=>?_,?_,.inr ⟨b,c,_,rfl,L,hb',F,U,?_,?_⟩⟩
  ·
   simp only [List.mem_append] at f
   rcases f with(f | f) | f
   ·
    exact q.1 z (List.mem_of_mem_take f)
   ·
    exact h1 z f
   exact q.1 z (List.mem_of_mem_drop f)
  ·
   rw [List.length_append,List.length_append,List.length_take,List.length_drop,JO,hlen];omega
  ·
   simp only [List.size_toArray,List.length_append,List.length_take,List.length_drop,G];omega
  rw [← W]
  apply List.ext_getElem?
  intro j;simp only [List.getElem?_take,List.getElem?_append,List.getElem?_drop,List.length_append,List.length_take,G,hlen]
  have e1:min (i*k) (c*k)=i*k:=by omega
  have e2:min (i*k) (min (n*k) (c*k))=i*k:=by omega
  simp only [e1,e2]
  by_cases C:j<n*k
  ·
   rw [if_pos C]
   by_cases s:j<i*k+k
   ·
    rw [if_pos s,if_pos s]
    by_cases p:j<i*k
    ·
     rw [if_pos p,if_pos p,if_pos p,if_pos p,if_pos C]
    rw [if_neg p,if_neg p]
   rw [if_neg s,if_neg s,if_pos (by omega)]
  rw [if_neg C,if_neg (by omega),if_neg (by omega)]
 intro j z r f hr
 by_cases e:i=j
 ·
  subst e;rw [List.getElem?_set,if_pos rfl,if_pos (by omega)] at f hr
  simp at f hr
  subst f hr;exact H
 rw [List.getElem?_set,if_neg e] at f hr;exact J j z r f hr
end
end Go.Rc

namespace Go.Rc
open Go
structure y8 (N E q s:Nat) (w w':World):Prop where
 os:w'.os=w.os
 tape:w'.tape=w.tape
 output:w'.output=w.output
 size:w.heap.size≤w'.heap.size
 drawn:w.drawn≤w'.drawn
 block:∀b,b<w.heap.size→w'.heap[b]?=w.heap[b]?∨(N≤b∧∃cur mn:Array Value,w.heap[b]?=some (.cells cur E (0,0))∧w'.heap[b]?=some (.cells mn E (0,0))∧mn.size=cur.size∧s<cur.size∧mn.toList.take q=cur.toList.take q)
theorem aQ.pfx{N E q s:Nat}{w w':World}(h:aQ [] w w'):y8 N E q s w w':=⟨h.os,h.tape,h.output,h.size,h.drawn,fun b hb=>.inl (h.block b hb (by simp))⟩
theorem y8.mO{N E q s:Nat}{w w':World}(h:y8 N E q s w w') {b:Nat}(hb:b<w.heap.size) (f:b<N):w'.heap[b]?=w.heap[b]?:=by
 rcases h.block b hb with h1 | ⟨h1,_⟩
 ·
  exact h1
 omega
variable {α:Type}{R:RR α}{E k n c N:Nat}{a:Option Addr}{xs:List α}{Z:Nat→Prop}{w w':World}
theorem y8.ow{s:Nat}(h:y8 N E (n*k) s w w') (C:∀x,Z x→x<N) (D:Ow R E k Z w a n c xs):Ow R E k Z w' a n c xs:=by
 obtain⟨hn,rows,hl,hk,h1,F⟩:=D;have G:∀x,Z x→x<w.heap.size→w'.heap[x]?=w.heap[x]?:=fun x H I=>h.mO I (C x H);refine⟨hn,rows,hl,hk,⟨h1.1,h1.2.1,?_⟩,fun i x r j f=>R.st h.size G (F i x r j f)⟩
 rcases h1.cases with⟨j,f,o,q⟩ | ⟨g,cur,j,f,o,q,t,y,z⟩
 ·
  exact .inl ⟨by rw [j,f,o],f⟩
 have J:g<w.heap.size:=(Array.getElem?_eq_some_iff.1 o).1
 rcases h.block g J with p | ⟨_,W,L,p,O,U,_,V⟩
 ·
  exact .inr ⟨g,c,cur,by rw [j],f,by rw [p];exact o,q,t,y,z⟩
 rw [o] at p
 simp at p
 subst p;exact .inr ⟨g,c,L,by rw [j],f,O,q,t,by rw [U];exact y,by rw [V];exact z⟩
theorem y8.blk{q b:Nat}{l:List Value}(h:y8 N E q l.length w w') (hb:bJ w b E l):bJ w' b E l:=by
 have f:w.heap[b]?=some (.cells l.toArray E (0,0)):=hb
 rcases h.block b hb.lt with h1 | ⟨_,o,p,h1,_,_,j,_⟩
 ·
  show _=_;rw [h1];exact f
 rw [f] at h1;simp at h1;subst h1;simp at j
theorem Dq{P:Program}{T bytes:Nat}(hT:AP P T E k bytes) {ty:TypeId}(D:Ow R E k Z w a n c xs) (t:∀x∈bA a,N≤x) {a2:Option Addr}{m c2:Nat}{A:Nat→Prop}{y:List α}(j:SR A w k (R.r Z w) a2 m c2 y)
  (F:(n+m)*bytes≤140737488355328) (G:n+m≤140737488355328) (hN:N≤w.heap.size) (H:∀x,Z x→x<N) {s:Nat}(I:∀c,a≠none→n+m≤c→s<c*k) :
  ∃f o w',(Builtin.append_ #[T,T] ty #[.slice a n c,.slice a2 m c2]).run P w=.ok (.slice f (n+m) o) w'∧Ow R E k Z w' f (n+m) o (xs++y)∧y8 N E (n*k) s w w'∧(∀x∈bA f,N≤x)∧(m=0→f=a)∧aQ (bA a) w w':=by
 obtain⟨hn,rows,hl,hk,h1,J⟩:=D;obtain⟨Dr,L,O,U,V,W⟩:=j;obtain⟨f,o,w',hr,Y,hc,hf,_,h0,dw⟩:=AG hT (ty:=ty) h1 V F G (Nat.zero_le _)
 have z:y8 N E (n*k) s w w':=by
  rcases dw with dw | ⟨N6,g,cur,mn,p,h4,h5,h6,h7,h8⟩
  ·
   exact dw.pfx
  refine⟨hc.os,hc.tape,hc.output,hc.size,hc.drawn,fun b hb=>?_⟩
  by_cases q:b∈bA a
  ·
   have Ng:g∈bA a:=by rw [p];simp [bA]
   have e:b=g:=by rw [p] at q;simpa [bA] using q
   subst e;exact .inr ⟨t b Ng,cur,mn,h4,h5,h6,by rw [h7];exact I c (by rw [p];simp) N6,h8⟩
  exact .inl (hc.block b hb q)
 have C:∀x,Z x→x<w.heap.size→w'.heap[x]?=w.heap[x]?:=fun x j hlx=>z.mO hlx (H x j);refine⟨f,o,w',hr,⟨by rw [List.length_append];omega,rows++L,by simp [hl,O],?_,by simpa using Y,?_⟩,z,fun x j=>by rcases hf x j with h | h;exact t x h;omega,h0,hc⟩
 ·
  intro r hr
  rcases List.mem_append.1 hr with h | h
  ·
   exact hk r h
  exact U r h
 intro i x r hi hr
 rcases Nat.lt_or_ge i xs.length with oQ | TT
 ·
  rw [List.getElem?_append_left oQ] at hi;rw [List.getElem?_append_left (by omega)] at hr;exact R.st hc.size C (J i x r hi hr)
 rw [List.getElem?_append_right TT] at hi;rw [List.getElem?_append_right (by omega)] at hr;exact R.st hc.size C (W (i - xs.length) x r hi (by rw [← hl];exact hr))
section
variable {P:Program}{kv:KV}{K:KV→World→Prop}{d:Tmp}{ty:TypeId}{pos:String}{af:Array Edge}{g:Option (Nat × Bool)}{T bytes mm:Nat}
theorem OX.N7(hT:AP P T E k bytes) {s x:Operand}{a2:Option Addr}{m c2:Nat}{A:Nat→Prop}{o:List α}(y:Nat.blt d mm=true) (p:ev kv s=some (.slice a n c)) (t:ev kv x=some (.slice a2 m c2))
  (z:Ow R E k Z w a n c xs) (C:∀x∈bA a,N≤x) (D:SR A w k (R.r Z w) a2 m c2 o) (F:(n+m)*bytes≤140737488355328) (G:n+m≤140737488355328) (H:N≤w.heap.size) (I:∀x,Z x→x<N) (q:Nat) (J:∀c,a≠none→n+m≤c→q<c*k)
  (h:∀f j w',Ow R E k Z w' f (n+m) j (xs++o)→y8 N E (n*k) q w w'→(∀x∈bA f,N≤x)→(m=0→f=a)→aQ (bA a) w w'→K ((d,.slice f (n+m) j)::kv) w') :
  OX P ⟨some d,.call {callee:=.builtin .append,args:=#[s,x],argTypes:=#[T,T]},ty,pos,af,g⟩ mm kv w K:=by
 refine⟨rfl,y,by simp [known,opers,p,t],?_⟩;obtain⟨f,j,w',hr,h1,L,O,U,V⟩:=Dq hT (ty:=ty) z C D F G H I J
 have W:(execOp (hh kv) ⟨some d,.call {callee:=.builtin .append,args:=#[s,x],argTypes:=#[T,T]},ty,pos,af,g⟩).run P w=.ok (.value (.slice f (n+m) j)) w':=by
  simp only [execOp,resolve,invoke,builtin,Sem.run_bind,Sem.run_pure,Result.andThen_ok,List.map_toArray,List.map_cons,List.map_nil,aI p,aI t,hr]
 rw [W];exact h _ _ _ h1 L O U V
theorem y8.st{w0:World}{M:Nat→Prop}{l:List As}{q s:Nat}(h:y8 N E q s w w') (f:St w0 M Z w l) (hl:∀x,nZ l x→x<N) (p:∀x,Z x→x<N) (h0:w0.heap.size≤N):St w0 M Z w' l where
 cq:=⟨h.os.trans f.cq.os,h.tape.trans f.cq.tape,h.output.trans f.cq.output,Nat.le_trans f.cq.size h.size,Nat.le_trans f.cq.drawn h.drawn,fun k hk hn=>by
  rw [h.mO (Nat.lt_of_lt_of_le hk f.cq.size) (by omega)];exact f.cq.block k hk hn⟩
 jC x j:=Nat.lt_of_lt_of_le (f.jC x j) h.size
 lx:=f.lx
 lV:=f.lV
 sq:=f.sq
 ok A o:=A.st h.size (fun x j r=>h.mO r (by rcases j with j | j;exact hl x ⟨A,o,j⟩;exact p x j)) (f.ok A o)
end
theorem Ow.ext{α:Type}{R:RR α}{E k n c:Nat}{a:Option Addr}{xs:List α}{Z:Nat→Prop}{w w':World}(h:Ow R E k Z w a n c xs) (s:aQ [] w w'):Ow R E k Z w' a n c xs:=
 (As.os R E k a n c xs).st s.size (fun x _ f=>s.block x f (by simp)) h
section
variable {P:Program}{n:Nat}{kv:KV}{w:World}{K:KV→World→Prop}{d:Tmp}{ty:TypeId}{pos:String}{af:Array Edge}{g:Option (Nat × Bool)}{op:Op}{v:Value}
theorem OX.pv(h:PV P op ty kv w v) (f:Nat.blt d n=true) (j:K ((d,v)::kv) w):OX P ⟨some d,op,ty,pos,af,g⟩ n kv w K:=⟨h.1,f,h.2.1,by rw [h.2.2];exact j⟩
end
section
variable {κ:Type} [DecidableEq κ] {enc:κ→Value}{P:Program}{kt e ty T:TypeId}{w:World}{b:Nat}{l:List (κ × Value)}{kv:KV}
theorem PV.j6(f:KK P kt enc) (hT:P.underlying T=some (.map kt e)) {z:Value}(h:∀w,(zeroValue e).run P w=.ok z w) (hb:KM enc w b l) {x y:Operand}{k:κ}{v:Value}(j:(bq l k).getD z=v) (o:ev kv x=some (.map (some b))) (hy:ev kv y=some (enc k)):PV P (.lookup T x y false) ty kv w v:=by
 have:=PV.look (ty:=ty) f hT h hb o hy
 rw [j] at this;exact this
end
theorem St.rb{w:World}{M Z:Nat→Prop}(h:St w M Z w []):St w (fun _=>False) Z w []:=St.start h.jC
theorem St.wk{w0 w:World}{M Z:Nat→Prop}{l:List As}(h:St w0 (fun _=>False) Z w l):St w0 M Z w l:=h.N2 fun _ _ h=>h.elim
theorem St.fresh{w0 w:World}{Z:Nat→Prop}{l:List As}{A:As}(h:St w0 (fun _=>False) Z w (A::l)):∀x,A.fp x→w0.heap.size≤x:=fun x f=>by
 rcases h.lV A (by simp) x f with h1 | h1
 ·
  exact h1.elim
 exact h1
end Go.Rc

namespace Go.Rc
open Go
section
variable {P:Program}{Q:Exit→Act→World→Prop}{n:Nat}{kv:KV}{w0 w:World}{M Z:Nat→Prop}
theorem St.sr{A B:As}{l:List As}(h:St w0 M Z w (A::l)) (e:A=B):St w0 M Z w (B::l):=by subst e;exact h
def PS(N T len:Nat) (cs:List Value) (v:Value) (w:World):Prop:=∃b,v=.slice (some ⟨b,0,none⟩) len len∧N≤b∧bJ w b T cs
theorem PS.st{N T len:Nat}{cs:List Value}{F:Nat→Prop}(j:∀x,F x→x<N) {v:Value}{w w':World}(c:fZ F w w') (h:PS N T len cs v w):PS N T len cs v w':=by
 obtain⟨b,h1,o,f⟩:=h;exact⟨b,h1,o,by have p:_=_:=f;show _=_;rw [c.block b f.lt fun q=>by have:=j b q;omega];exact p⟩
theorem PS.pb{N T len b:Nat}{cs:List Value}{w:World}(h:PS N T len cs (.slice (some ⟨b,0,none⟩) len len) w):PB N T cs (.pointer (some ⟨b,0,none⟩)) w:=by
 obtain⟨b',h1,f,j⟩:=h
 simp at h1;subst h1;exact⟨_,rfl,f,j⟩
end
end Go.Rc

namespace Go.Rc
open Go
inductive Kd where
 | pure
 | side (sh:Value→Prop) (it:Value→As)
 | chain
def Kd.E:Kd→Option (Value→World→Prop)
 | .pure=>none
 | .side sh _=>some fun v _=>sh v
 | .chain=>some fun _ _=>True
def mP(ops:Array Oper) (aU:Nat→Value):List Nat→KV→KV
 | [],kv=>kv
 | j::r,kv=>mP ops aU r (iL kv (eh ops j) (aU j))
theorem pY(ops:Array Oper) (aU:Nat→Value):∀(a b:List Nat) (kv:KV),mP ops aU (a++b) kv=mP ops aU b (mP ops aU a kv)
 | [],_,_=>rfl
 | _::r,b,_=>pY ops aU r b _
theorem jv{ops:Array Oper}{aU bS:Nat→Value}:∀{l:List Nat}{kv:KV},(∀j∈l,aU j=bS j)→mP ops aU l kv=mP ops bS l kv
 | [],_,_=>rfl
 | j::r,kv,h=>by simp only [mP];rw [h j (by simp),jv fun x f=>h x (by simp [f])]
theorem qw{ops:Array Oper}{aU:Nat→Value}{t:Nat}{u:Value}:∀{l:List Nat}{kv:KV},look (mP ops aU l kv) t=some u→
  (∃j∈l,eh ops j=some t∧u=aU j)∨((∀j∈l,eh ops j≠some t)∧look kv t=some u)
 | [],_,h=>.inr ⟨by simp,h⟩
 | j::r,kv,h=>by
  rcases qw (l:=r) h with⟨x,f,h1,o⟩ | ⟨h1,o⟩
  ·
   exact .inl ⟨x,by simp [f],h1,o⟩
  rcases wN o with⟨p,q⟩ | ⟨p,q⟩
  ·
   exact .inl ⟨j,by simp,p,q⟩
  refine .inr ⟨fun x f=>?_,q⟩
  rcases List.mem_cons.1 f with rfl | f
  ·
   exact p
  exact h1 x f
def CG(w0:World) (M:Nat→Prop) (N:Nat) (ed:List As) (w:World):Prop:=N≤w.heap.size∧∃Z R,St w0 M Z w R∧∀A∈ed,A∈R
section
variable (P:Program) (ops:Array Oper) (n:Nat) (w0:World) (M:Nat→Prop) (N:Nat) (ed:List As) (K:Nat→Kd) (Fin:KV→World→Prop)
def DG:List Nat→KV→List (Nat × As)→(Nat→Prop)→List As→Prop
 | [],kv,sd,Z,ls=>∀w,N≤w.heap.size→St w0 M Z w (sd.map (·.2)++ls)→Fin kv w
 | i::l,kv,sd,Z,ls=>∃o,ops[i]?=some o∧ba o.op=false∧mS n o.dst=true∧
  ((gd ops kv o=some false∧DG l (iL kv o.dst undef) sd Z ls)∨
   (gd ops kv o=some true∧known kv o.op=true∧
   ((K i=.pure∧∃e,(∀w,CG w0 M N ed w→(execOp (hh kv) o).run P w=.ok (.value e) w)∧DG l (iL kv o.dst e) sd Z ls)∨
    (∃sh it,K i=.side sh it∧(∀w Zx R,N≤w.heap.size→St w0 M Zx w R→mT P ((execOp (hh kv) o).run P w) fun v w'=>w.heap.size≤w'.heap.size∧sh v∧St w0 M Zx w' (it v::R))∧
    (∀v,sh v→DG l (iL kv o.dst v) ((i,it v)::sd) Z ls))∨
    (K i=.chain∧∀w R,N≤w.heap.size→St w0 M Z w (ls++R)→(∀p∈sd,p.2∈R)→mT P ((execOp (hh kv) o).run P w) fun v w'=>w.heap.size≤w'.heap.size∧∃Z' TU,St w0 M Z' w' (TU++R)∧(∀A∈ed,A∈TU)∧
    DG l (iL kv o.dst v) sd Z' TU))))
end
structure wY (ops:Array Oper) (m:Nat) (K:Nat→Kd) (σ:List Nat):Prop where
 lt:∀i∈σ,i<m
 all:∀i,i<m→i∈σ
 nd:σ.Nodup
 Gk:∀a i b,σ=a++i::b→∀o,ops[i]?=some o→∀d∈cz o,d∈a
 TV:∀a i b,σ=a++i::b→K i=.chain→∀(D:Nat→Prop),(∀(j:Nat) o,D j→ops[j]?=some o→∀d∈cz o,D d)→(∀o,ops[i]?=some o→∀d∈cz o,D d)→∀j∈a,D j
theorem wZ:∀{l SL:List (Nat × As)},(SL.map (·.1)).Nodup→(l.map (·.1)).Nodup→(∀q∈l,q∈SL)→∃ex,List.Perm SL (l++ex)
 | [],SL,_,_,_=>⟨SL,.refl _⟩
 | q::l,SL,h1,f,j=>by
  obtain⟨s,t,rfl⟩:=List.append_of_mem (j q (by simp));have o:List.Perm (s++q::t) (q::(s++t)):=List.perm_middle;have p:=(o.map (·.1)).nodup_iff.1 h1;simp only [List.map_cons,List.nodup_cons] at f p
  obtain⟨ex,he⟩:=wZ p.2 f.2 fun x r=>by
   have:=j x (by simp [r])
   rcases List.mem_append.1 this with h | h
   ·
    exact List.mem_append_left _ h
   rcases List.mem_cons.1 h with rfl | h
   ·
    exact absurd (List.mem_map.2 ⟨x,r,rfl⟩) f.1
   exact List.mem_append_right _ h
  exact⟨ex,o.trans (.cons q he)⟩
theorem St.hK{w0 w:World}{M Z:Nat→Prop}:∀{ex l:List As},St w0 M Z w (l++ex)→St w0 M Z w l
 | [],l,h=>by simpa using h
 | A::ex,l,h=>by
  have h1:St w0 M Z w (A::(l++ex)):=h.perm (List.perm_middle.symm);exact St.hK h1.drop
section
variable {P:Program}{ops:Array Oper}{Q:Exit→Act→World→Prop}{n m N:Nat}{X σ:List Nat}{w0:World}{M:Nat→Prop}{ed:List As}{K:Nat→Kd}{Fin:KV→World→Prop}
def TC(ops:Array Oper) (τ:List Nat):Prop:=∀j∈τ,∀k∈eI ops j,k∈τ
theorem TC.snoc{τ:List Nat}{i:Nat}{o:Oper}(h:TC ops τ) (p:ops[i]?=some o) (q:∀k∈cz o,k∈τ):TC ops (τ++[i]):=fun j f k hk=>by
 rcases List.mem_append.1 f with f | f
 ·
  simp [h j f k hk]
 simp only [List.mem_singleton] at f;subst f;simp only [eI,p] at hk
 simp [q k hk]
theorem wY.tc(h:wY ops m K σ) {τ ρ:List Nat}(e:σ=τ++ρ):TC ops τ:=fun j p k hk=>by
 obtain⟨x,y,rfl⟩:=List.append_of_mem p
 unfold eI at hk
 cases f:ops[j]? with
 | none=>rw [f] at hk;cases hk
 | some o=>rw [f] at hk;simp [h.Gk x j (y++ρ) (by rw [e];simp) o f k hk]
theorem uF{a0 a:Act}{ig:KV}(s:RegB ops m) (h0:Fr n a0 ig) {aU bS:Nat→Value}{i:Nat}{o:Oper}(p:F8 ops m a0 aU o a) {τ:List Nat}(q:∀j∈τ,j<m) (x:TC ops τ) (y:i∉τ)
  (hi:i<m) (z:ops[i]?=some o) (C:∀k∈cz o,bS k=aU k) (D:∀k∈cz o,k∈τ):lQ ops o a (mP ops bS τ ig):=by
 intro t v ht hl
 rcases qw hl with⟨j,f,r,rfl⟩ | ⟨F,G⟩
 ·
  rcases s.waits i o hi z t ht j (q j f) r with h | h
  ·
   rw [C j h];exact p.dep t ht j h (q j f) r
  exact absurd (x j f i h) y
 rw [p.mO t ht fun k hk=>F k (D k hk)];exact h0.val t v G
abbrev IG(P:Program) (ops:Array Oper) (n m N:Nat) (w0:World) (M:Nat→Prop) (ed:List As) (K:Nat→Kd):=Inv P ops n m (CG w0 M N ed) (fun j=>(K j).E)
structure FG (P:Program) (ops:Array Oper) (n m N:Nat) (w0:World) (M:Nat→Prop) (ed:List As) (K:Nat→Kd) (Fin:KV→World→Prop) (ig:KV) (L:Nat→Bool) (aU:Nat→Value) (w:World) (τ ρ:List Nat) (sd SL:List (Nat × As)) (Z:Nat→Prop) (ls:List As):Prop where
 N8:∀j∈τ,L j=true
 N9:∀j∈ρ,K j=.chain→L j=false
 node:DG P ops n w0 M N ed K Fin ρ (mP ops aU τ ig) sd Z ls
 st:St w0 M Z w (SL.map (·.2)++ls)
 sub:∀A∈ed,A∈ls
 nd:(SL.map (·.1)).Nodup
 key:∀q∈SL,L q.1=true
 Oa:∀q∈sd,q∈SL
 SJ:(sd.map (·.1)).Nodup
 SK:∀q∈sd,q.1∈τ
 own:∀j sh it,j<m→L j=true→K j=.side sh it→sh (aU j)→(j,it (aU j))∈SL
theorem Ob{a0 a:Act}{ig:KV}(JP:RegB ops m) (h0:Fr n a0 ig) {L:Nat→Bool}{aU:Nat→Value}{w:World}(hI:IG P ops n m N w0 M ed K a0 L aU a w)
  {SL:List As}(JQ:∀j sh it,j<m→L j=true→K j=.side sh it→sh (aU j)→it (aU j)∈SL) :
  ∀(f:List Nat) (τ:List Nat) (ρ:List Nat) (bS:Nat→Value) (sd:List (Nat × As)) (Z:Nat→Prop) (ls R:List As) (z:World),TC ops τ→(∀j,L j=true→bS j=aU j)→(∀j∈τ++f,j<m)→(τ++f).Nodup→
   (∀x i y,f=x++i::y→∀o,ops[i]?=some o→∀d∈cz o,d∈τ++x)→(∀j∈f,K j=.chain→L j=false)→
   DG P ops n w0 M N ed K Fin (f++ρ) (mP ops bS τ ig) sd Z ls→N≤z.heap.size→St w0 M Z z (ls++R)→(∀A∈SL,A∈R)→(∀p∈sd,p.2∈R)→
   ∃bS sd Z ls,(∀j,L j=true→bS j=aU j)∧DG P ops n w0 M N ed K Fin ρ (mP ops bS (τ++f) ig) sd Z ls:=by
 intro f
 induction f with
 | nil=>intro τ ρ bS sd Z ls R z _ hv _ _ _ _ Y _ _ _ _;exact⟨bS,sd,Z,ls,hv,by simpa using Y⟩
 | cons i f ih=>
  intro τ ρ bS sd Z ls R z htc hv oQ BO xa BP Y C H D F;obtain⟨o,s,nW,uw,kB⟩:=Y;have O:i<m:=oQ i (by simp)
  have yV:eh ops i=o.dst:=by simp [eh,s]
  have Iu:∀d∈cz o,d∈τ:=fun d I=>by simpa using xa [] i f rfl o s d I
  have BQ:i∉τ:=fun h=>by
   have:=(List.nodup_append.1 BO).2.2 i h i (by simp)
   exact this rfl
  have TW:∀j∈(τ++[i])++f,j<m:=fun j t=>oQ j (by simpa using t)
  have TX:((τ++[i])++f).Nodup:=by simpa using BO
  have JR:∀x k y,f=x++k::y→∀o,ops[k]?=some o→∀d∈cz o,d∈(τ++[i])++x:=fun x k y e o s d I=>by
   have:=xa (i::x) k y (by rw [e];rfl) o s d I
   simpa using this
  have next:∀u,mP ops (fun j=>if j=i then u else bS j) (τ++[i]) ig=iL (mP ops bS τ ig) o.dst u:=fun u=>by
   rw [pY,jv (bS:=bS) (l:=τ) fun j t=>by rw [if_neg fun e=>BQ (by rw [← e];exact t)]];simp only [mP,yV,if_true]
  have hv':∀u,(L i=true→u=aU i)→∀j,L j=true→(if j=i then u else bS j)=aU j:=fun u hu j t=>by
   by_cases e:j=i
   ·
    subst e;rw [if_pos rfl];exact hu t
   rw [if_neg e];exact hv j t
  have fin:∀u Ds Z' U R' G,(L i=true→u=aU i)→DG P ops n w0 M N ed K Fin (f++ρ) (iL (mP ops bS τ ig) o.dst u) Ds Z' U→N≤G.heap.size→St w0 M Z' G (U++R')→(∀A∈SL,A∈R')→(∀p∈Ds,p.2∈R')→
    ∃bS sd Z ls,(∀j,L j=true→bS j=aU j)∧DG P ops n w0 M N ed K Fin ρ (mP ops bS (τ++i::f) ig) sd Z ls:=fun u Ds Z' U R' G hu Y C H D F=>by
   have:=ih (τ++[i]) ρ (fun j=>if j=i then u else bS j) Ds Z' U R' G (htc.snoc s Iu) (hv' u hu) TW TX JR (fun j t=>BP j (by simp [t])) (by rw [next];exact Y) C H D F
   simpa using this
  have SM:∀{aj},L i=true→F8 ops m a0 aU o aj→lQ ops o aj (mP ops bS τ ig):=fun q r=>uF JP h0 r (fun j t=>oQ j (by simp [t])) htc BQ O s (fun k hk=>hv k (hI.closed i o O q s k hk)) Iu
  rcases kB with⟨hg,V⟩ | ⟨hg,hk,kB⟩
  ·
   exact fin undef sd Z ls R z (fun q=>by obtain⟨aj,r,hn,_⟩:=hI.Ip i o O q s;exact(hn ((SM q r).wanted hg)).symm) V C H D F
  rcases kB with⟨W,e,ux,V⟩ | ⟨sh,it,W,nh,V⟩ | ⟨W,nh⟩
  ·
   refine fin e sd Z ls R z (fun q=>?_) V C H D F;obtain⟨aj,r,_,I⟩:=hI.Ip i o O q s;obtain⟨wj,NT,Iq⟩:=(I ((SM q r).wanted hg)).1 (by show(K i).E=none;rw [W];rfl);rw [(SM q r).exec nW hk,ux wj NT] at Iq
   simpa using Iq
  ·
   by_cases q:L i=true
   ·
    obtain⟨aj,TY,_,I⟩:=hI.Ip i o O q s;have r:sh (aU i):=(I ((SM q TY).wanted hg)).2 (fun v _=>sh v) (by show(K i).E=_;rw [W];rfl)
    exact fin (aU i) _ Z ls R z (fun _=>rfl) (V _ r) C H D (fun p J=>by
     rcases List.mem_cons.1 J with rfl | J
     ·
      exact D _ (JQ i sh it O q W r)
     exact F p J)
   obtain⟨v,G,wu,r,BR⟩:=(nh z Z _ C H).exists
   exact fin v _ Z ls (it v::R) G (fun h=>absurd h q) (V v r) (Nat.le_trans C wu) (BR.perm List.perm_middle) (fun A hA=>by simp [D A hA]) (fun p J=>by
    rcases List.mem_cons.1 J with rfl | J
    ·
     simp
    simp [F p J])
  obtain⟨v,G,wu,Z',U,BR,_,SN⟩:=(nh z R C H F).exists;exact fin v sd Z' U R G (fun h=>by rw [BP i (by simp) W] at h;cases h) SN (Nat.le_trans C wu) BR D F
theorem Iv{a0 a:Act}{ig:KV}(JP:RegB ops m) (h0:Fr n a0 ig) {L:Nat→Bool}{aU:Nat→Value}{w:World}(hI:IG P ops n m N w0 M ed K a0 L aU a w)
  {SL:List (Nat × As)}(JQ:∀j sh it,j<m→L j=true→K j=.side sh it→sh (aU j)→(j,it (aU j))∈SL) {Z:Nat→Prop}{ls:List As} :
  ∀(p:List Nat) (τ:List Nat) (ρ:List Nat) (sd:List (Nat × As)),TC ops τ→(∀j∈τ++p,j<m)→(τ++p).Nodup→
   (∀x i y,p=x++i::y→∀o,ops[i]?=some o→∀d∈cz o,d∈τ++x)→(∀j∈p,L j=true)→(∀j∈p,K j=.chain→L j=false)→
   DG P ops n w0 M N ed K Fin (p++ρ) (mP ops aU τ ig) sd Z ls→(∀q∈sd,q∈SL)→(sd.map (·.1)).Nodup→(∀q∈sd,q.1∈τ)→
   ∃f,DG P ops n w0 M N ed K Fin ρ (mP ops aU (τ++p) ig) f Z ls∧(∀q∈f,q∈SL)∧(f.map (·.1)).Nodup∧(∀q∈f,q.1∈τ++p):=by
 intro p
 induction p with
 | nil=>intro τ ρ sd _ _ _ _ _ _ F h1 G z;exact⟨sd,by simpa using F,h1,G,by simpa using z⟩
 | cons i p ih=>
  intro τ ρ sd Y U BO xa lL BP F h1 G z;obtain⟨o,s,nW,uw,V⟩:=F;have W:i<m:=U i (by simp)
  have yV:eh ops i=o.dst:=by simp [eh,s]
  have Iu:∀d∈cz o,d∈τ:=fun d C=>by simpa using xa [] i p rfl o s d C
  have BQ:i∉τ:=fun h=>by
   have:=(List.nodup_append.1 BO).2.2 i h i (by simp)
   exact this rfl
  have I:=lL i (by simp)
  have next:mP ops aU (τ++[i]) ig=iL (mP ops aU τ ig) o.dst (aU i):=by rw [pY];simp only [mP,yV]
  have fin:∀f,DG P ops n w0 M N ed K Fin (p++ρ) (iL (mP ops aU τ ig) o.dst (aU i)) f Z ls→(∀q∈f,q∈SL)→(f.map (·.1)).Nodup→(∀q∈f,q.1∈τ++[i])→
    ∃f,DG P ops n w0 M N ed K Fin ρ (mP ops aU (τ++i::p) ig) f Z ls∧(∀q∈f,q∈SL)∧(f.map (·.1)).Nodup∧(∀q∈f,q.1∈τ++i::p):=fun f F g1 g2 g3=>by
   have:=ih (τ++[i]) ρ f (Y.snoc s Iu) (fun j t=>U j (by simpa using t)) (by simpa using BO) (fun x k y e o s d C=>by
    have:=xa (i::x) k y (by rw [e];rfl) o s d C
    simpa using this) (fun j t=>lL j (by simp [t])) (fun j t=>BP j (by simp [t])) (by rw [next];exact F) g1 g2 g3
   simpa using this
  obtain⟨aj,TY,FR,C⟩:=hI.Ip i o W I s;have J:lQ ops o aj (mP ops aU τ ig):=uF JP h0 TY (fun j t=>U j (by simp [t])) Y BQ W s (fun _ _=>rfl) Iu
  rcases V with⟨O,H⟩ | ⟨O,hk,V⟩
  ·
   have:=FR (J.wanted O)
   exact fin sd (by rw [this];exact H) h1 G (fun q r=>by simp [z q r])
  rcases V with⟨D,e,ux,H⟩ | ⟨sh,it,D,nh,H⟩ | ⟨D,nh⟩
  ·
   obtain⟨wj,NT,Iq⟩:=(C (J.wanted O)).1 (by show(K i).E=none;rw [D];rfl);rw [J.exec nW hk,ux wj NT] at Iq
   have he:e=aU i:=by simpa using Iq
   exact fin sd (by rw [← he];exact H) h1 G (fun q r=>by simp [z q r])
  ·
   have hs:sh (aU i):=(C (J.wanted O)).2 (fun v _=>sh v) (by show(K i).E=_;rw [D];rfl);refine fin _ (H _ hs) (fun q r=>?_) ?_ (fun q r=>?_)
   ·
    rcases List.mem_cons.1 r with rfl | r
    ·
     exact JQ i sh it W I D hs
    exact h1 q r
   ·
    simp only [List.map_cons,List.nodup_cons];exact⟨fun h=>by obtain⟨q,r,e⟩:=List.mem_map.1 h;exact BQ (by rw [← e];exact z q r),G⟩
   rcases List.mem_cons.1 r with rfl | r
   ·
    simp
   simp [z q r]
  rw [BP i (by simp) D] at I;cases I
theorem FG.pass{ig:KV}{L:Nat→Bool}{aU:Nat→Value}{w:World}{τ ρ:List Nat}{sd SL:List (Nat × As)}{Z:Nat→Prop}{ls:List As}(h:FG P ops n m N w0 M ed K Fin ig L aU w τ ρ sd SL Z ls) {i:Nat}{v:Value}(s:L i=false) (t:K i≠.chain) (x:∀sh it,K i=.side sh it→¬sh v) :
  FG P ops n m N w0 M ed K Fin ig (fun j=>if j=i then true else L j) (fun j=>if j=i then v else aU j) w τ ρ sd SL Z ls:=by
 have hit:i∉τ:=fun h1=>by have:=h.N8 i h1;rw [s] at this;cases this
 refine⟨fun j f=>?_,fun j f hc=>?_,?_,h.st,h.sub,h.nd,fun q y=>?_,h.Oa,h.SJ,h.SK,fun j sh it f p r o=>?_⟩
 ·
  by_cases e:j=i <;> simp [e];exact h.N8 j f
 ·
  rw [if_neg fun e=>t (by rw [← e];exact hc)];exact h.N9 j f hc
 ·
  rw [jv (bS:=aU) fun j f=>by rw [if_neg fun e=>hit (by rw [← e];exact f)]];exact h.node
 ·
  by_cases e:q.1=i <;> simp [e];exact h.key q y
 by_cases e:j=i
 ·
  subst e;simp only [if_true] at o;exact absurd o (x sh it r)
 simp only [if_neg e] at p o ⊢;exact h.own j sh it f p r o
theorem FG.side{ig:KV}{L:Nat→Bool}{aU:Nat→Value}{w w':World}{τ ρ:List Nat}{sd SL:List (Nat × As)}{Z:Nat→Prop}{ls:List As}(h:FG P ops n m N w0 M ed K Fin ig L aU w τ ρ sd SL Z ls) {i:Nat}{v:Value}{sh:Value→Prop}{it:Value→As}(s:L i=false) (r:K i=.side sh it)
  (y:St w0 M Z w' (it v::(SL.map (·.2)++ls))) :
  FG P ops n m N w0 M ed K Fin ig (fun j=>if j=i then true else L j) (fun j=>if j=i then v else aU j) w' τ ρ sd ((i,it v)::SL) Z ls:=by
 have hit:i∉τ:=fun h1=>by have:=h.N8 i h1;rw [s] at this;cases this
 refine⟨fun j f=>?_,fun j f hc=>?_,?_,y,h.sub,?_,fun q o=>?_,fun q o=>by simp [h.Oa q o],h.SJ,h.SK,fun j z C f t p x=>?_⟩
 ·
  by_cases e:j=i <;> simp [e];exact h.N8 j f
 ·
  rw [if_neg fun e=>by rw [← e,hc] at r;cases r];exact h.N9 j f hc
 ·
  rw [jv (bS:=aU) fun j f=>by rw [if_neg fun e=>hit (by rw [← e];exact f)]];exact h.node
 ·
  simp only [List.map_cons,List.nodup_cons];exact⟨fun hm=>by(obtain⟨q,o,e⟩:=List.mem_map.1 hm;have:=h.key q o;rw [e,s] at this;exact Bool.noConfusion this),h.nd⟩
 ·
  rcases List.mem_cons.1 o with rfl | o
  ·
   simp
  by_cases e:q.1=i <;> simp [e];exact h.key q o
 by_cases e:j=i
 ·
  subst e;rw [r] at p;simp only [Kd.side.injEq] at p;obtain⟨rfl,rfl⟩:=p
  simp
 simp only [if_neg e] at t x ⊢;exact List.mem_cons_of_mem _ (h.own j z C f t p x)
theorem agG{a0 a:Act}{ig:KV}(F:RegB ops m) (q:wY ops m K σ) (h0:Fr n a0 ig) {L:Nat→Bool}{aU:Nat→Value}{w:World}{τ ρ:List Nat}{sd SL:List (Nat × As)}{Z:Nat→Prop}{ls:List As}(r:σ=τ++ρ) (G:IG P ops n m N w0 M ed K a0 L aU a w) (s:FG P ops n m N w0 M ed K Fin ig L aU w τ ρ sd SL Z ls)
  {i:Nat}{o:Oper}(t:i<m) (x:ops[i]?=some o) (y:L i=false):∃f p,ρ=f++i::p∧(∀j∈τ++f,j<m)∧((τ++f)++i::p).Nodup∧(∀k∈cz o,k∈τ++f):=by
 have z:i∈τ++ρ:=by rw [← r];exact q.all i t
 have C:i∈ρ:=by
  rcases List.mem_append.1 z with h | h
  ·
   have:=s.N8 i h;rw [y] at this;cases this
  exact h
 obtain⟨f,p,hr⟩:=List.append_of_mem C
 have e:σ=(τ++f)++i::p:=by rw [r,hr,List.append_assoc]
 exact⟨f,p,hr,fun j D=>q.lt j (by rw [e];exact List.mem_append_left _ D),by rw [← e];exact q.nd,q.Gk (τ++f) i p e o x⟩
theorem stepG{a0:Act}{ig:KV}{Q':Exit→Act→World→Prop}(hXp:∀x∈X,K x=.pure) (O:F7 ops m X) (D:wY ops m K σ) (hsh:∀j sh it,K j=.side sh it→¬sh undef) (h0:Fr n a0 ig) (hQ:X=[]∨∀c a w,¬Q' (.panic c) a w) :
  ∀(fuel:Nat) (listed:Array Bool) (a:Act) (w:World),listed.size=ops.size→left (fun j=>listed.getD j false) ops.size≤fuel→(∀j,m≤j→listed.getD j false=false)→
  (∃aU τ ρ sd SL Z ls,σ=τ++ρ∧IG P ops n m N w0 M ed K a0 (fun j=>listed.getD j false) aU a w∧FG P ops n m N w0 M ed K (fun kv w=>WL P ops Q' (ops.toList.drop m) n kv w) ig (fun j=>listed.getD j false) aU w τ ρ sd SL Z ls)→wpAny P .any ops Q' fuel listed a w:=by
 have Oc:∀{τ ρ:List Nat},σ=τ++ρ→∀j∈τ++ρ,j<m:=fun e j f=>D.lt j (by rw [e];exact f);refine Dc (J:=fun L a w=>∃aU τ ρ sd SL Z ls,σ=τ++ρ∧IG P ops n m N w0 M ed K a0 L aU a w∧FG P ops n m N w0 M ed K (fun kv w=>WL P ops Q' (ops.toList.drop m) n kv w) ig L aU w τ ρ sd SL Z ls) O hQ (fun L a w ⟨aU,_,_,_,_,_,_,_,s,_⟩ j p f hL F=>s.closed j p f hL F) ?_ ?_
 ·
  intro L a w ⟨aU,τ,ρ,sd,SL,Z,ls,z,s,r⟩ lL;obtain⟨Ds,hD,h1,h2,_⟩:=Iv (ρ:=[]) O.toRegB h0 s (fun j sh it f pB G z=>r.own j sh it f pB G z) ρ τ sd (D.tc z) (Oc z) (by rw [← z];exact D.nd) (fun x i y e=>D.Gk (τ++x) i y (by rw [z,e,List.append_assoc])) (fun j f=>lL j (Oc z j (List.mem_append_right _ f))) r.N9 (by simpa using r.node) r.Oa r.SJ r.SK;obtain⟨ex,F⟩:=wZ r.nd h2 h1
  have sn:List.Perm ((Ds.map (·.2)++ls)++ex.map (·.2)) (SL.map (·.2)++ls):=by
   have h3:List.Perm (SL.map (·.2)) (Ds.map (·.2)++ex.map (·.2)):=by simpa using F.map (·.2)
   refine List.Perm.trans ?_ (h3.symm.append_right ls);rw [List.append_assoc,List.append_assoc];exact List.Perm.append_left _ List.perm_append_comm
  refine hD w s.c.1 ((r.st.perm sn).hK) a ⟨s.size,s.jq,fun t v hl=>?_⟩;rw [← z] at hl
  rcases qw hl with⟨j,f,TJ,rfl⟩ | ⟨FR,NV⟩
  ·
   exact s.here j (D.lt j f) (lL j (D.lt j f)) t TJ
  rw [s.mO t fun j f _=>FR j (D.all j f)];exact h0.val t v NV
 intro L a w i o ⟨aU,τ,ρ,sd,SL,Z,ls,z,s,r⟩ Od Nh U JS hd;obtain⟨H,ρ2,hr,Gl,pE,Iu⟩:=agG O.toRegB D h0 z s r Nh U JS;have Oe:=(List.nodup_append.1 pE).1;have hd1:=fun x j y (e:H=x++j::y)=>D.Gk (τ++x) j (y++i::ρ2) (by rw [z,hr,e];simp);have Of:=fun j (f:j∈H)=>r.N9 j (by rw [hr];simp [f]);have tr:=r.node;rw [hr] at tr;have put:=fun(v:Value) w'=>s.put (v:=v) (w':=w') O.toRegB Nh U JS hd
 have kK:∀w' j S u,j<m→L j=true→(K j).E=some S→S u w→S u w':=fun w' j S u _ _ Ni h=>by
  cases G:K j with
  | pure=>simp only [G,Kd.E] at Ni;cases Ni
  | side sh it=>simp only [G,Kd.E,Option.some.injEq] at Ni;subst Ni;exact h
  | chain=>simp only [G,Kd.E,Option.some.injEq] at Ni;subst Ni;trivial
 by_cases I:K i=.chain
 ·
  have hX:i∉X:=fun h=>by rw [hXp i h] at I;cases I
  have Iw:∀j∈τ++H,L j=true:=D.TV (τ++H) i ρ2 (by rw [z,hr,List.append_assoc]) I (fun j=>L j=true) (fun j p f F=>s.closed j p (by
   rcases Nat.lt_or_ge j m with h | h
   ·
    exact h
   rw [Od j h] at f;cases f) f F) (fun p F=>by rw [U] at F;simp at F;subst F;exact hd)
  have BQ:i∉τ++H:=fun h=>(List.nodup_append.1 pE).2.2 i h i (by simp) rfl
  have TZ:i∉ρ2:=by have:=(List.nodup_append.1 pE).2.1;simp only [List.nodup_cons] at this;exact this.1
  obtain⟨Ds,⟨o',Is,nW,uw,kB⟩,h1,h2,h3⟩:=Iv (ρ:=i::ρ2) O.toRegB h0 s r.own H τ sd (D.tc z) Gl Oe hd1 (fun j f=>Iw j (by simp [f])) Of tr r.Oa r.SJ r.SK;have V:lQ ops o a (mP ops aU (τ++H) ig):=uF O.toRegB h0 (s.now O.toRegB Nh U JS hd) Gl (D.tc (by rw [z,hr,List.append_assoc])) (fun h=>(List.nodup_append.1 pE).2.2 i h i (by simp) rfl) Nh U (fun _ _=>rfl) Iu
  have eo:o'=o:=by rw [U] at Is;exact(Option.some.inj Is).symm
  subst eo
  have yV:eh ops i=o'.dst:=by simp [eh,U]
  have adv:∀v w' Z' W,IG P ops n m N w0 M ed K a0 (fun j=>if j=i then true else L j) (fun j=>if j=i then v else aU j) (a.put o'.dst v) w'→St w0 M Z' w' (W++SL.map (·.2))→(∀A∈ed,A∈W)→DG P ops n w0 M N ed K (fun kv w=>WL P ops Q' (ops.toList.drop m) n kv w) ρ2 (iL (mP ops aU (τ++H) ig) o'.dst v) Ds Z' W→
    ∃aU τ ρ sd SL Z ls,σ=τ++ρ∧IG P ops n m N w0 M ed K a0 (fun j=>if j=i then true else L j) aU (a.put o'.dst v) w'∧FG P ops n m N w0 M ed K (fun kv w=>WL P ops Q' (ops.toList.drop m) n kv w) ig (fun j=>if j=i then true else L j) aU w' τ ρ sd SL Z ls:=fun v w' Z' W hI' gJ Gm hD=>by
   refine⟨_,(τ++H)++[i],ρ2,Ds,SL,Z',W,by rw [z,hr];simp,hI',fun j f=>?_,fun j f hc=>?_,?_,gJ.perm List.perm_append_comm,Gm,r.nd,fun q hq=>?_,h1,h2,fun q hq=>by simp only [List.mem_append];exact .inl (List.mem_append.1 (h3 q hq)),fun j sh it f pB G z=>?_⟩
   ·
    rcases List.mem_append.1 f with f | f
    ·
     show(if j=i then true else L j)=true
     split
     ·
      rfl
     exact Iw j f
    simp at f;simp [f]
   ·
    rw [if_neg fun e=>TZ (by rw [← e];exact f)];exact r.N9 j (by rw [hr];simp [f]) hc
   ·
    rw [pY,jv (bS:=aU) (l:=τ++H) fun j f=>by rw [if_neg fun e=>BQ (by rw [← e];exact f)]];simp only [mP,yV,if_true];exact hD
   ·
    show(if q.1=i then true else L q.1)=true
    split
    ·
     rfl
    exact r.key q hq
   by_cases e:j=i
   ·
    subst e;rw [I] at G;cases G
   simp only [if_neg e] at pB z ⊢;exact r.own j sh it f pB G z
  rcases kB with⟨Y,Og⟩ | ⟨Y,hk,⟨C,_⟩ | ⟨sh,it,C,_⟩ | ⟨_,nh⟩⟩
  ·
   have hw:=V.wanted Y;exact .inl ⟨hw,adv undef w Z ls (put _ _ uw s.c (fun _ _ _ _ _ _ h=>h) (fun _=>rfl) (fun h=>by rw [hw] at h;cases h) (fun S h=>by rw [hw] at h;cases h)) (r.st.perm List.perm_append_comm) r.sub Og⟩
  ·
   rw [I] at C;cases C
  ·
   rw [I] at C;cases C
  have hw:=V.wanted Y;refine .inr ⟨hw,?_,fun h=>absurd h hX⟩;rw [V.exec nW hk];refine(nh w (SL.map (·.2)) s.c.1 (r.st.perm List.perm_append_comm) (fun p F=>List.mem_map.2 ⟨p,h1 p F,rfl⟩)).mono fun v w' ⟨JT,Z',W,gJ,Gm,hD⟩=>?_;exact adv v w' Z' W (put _ _ uw ⟨Nat.le_trans s.c.1 JT,Z',_,gJ,fun A hA=>List.mem_append_left _ (Gm A hA)⟩ (kK _) (fun h=>by rw [hw] at h;cases h) (fun _ h=>by simp only [I,Kd.E] at h;cases h) (fun S' _ h=>by simp only [I,Kd.E,Option.some.injEq] at h;subst h;trivial)) gJ Gm hD
 obtain⟨bS,Ds,Z',W,hv,o',Is,nW,uw,kB⟩:=Ob O.toRegB h0 s (SL:=SL.map (·.2)) (fun j sh it f pB G z=>List.mem_map.2 ⟨_,r.own j sh it f pB G z,rfl⟩) H τ (i::ρ2) aU sd Z ls (SL.map (·.2)) w (D.tc z) (fun _ _=>rfl) Gl Oe hd1 Of tr s.c.1 (r.st.perm List.perm_append_comm) (fun A h=>h) (fun p F=>List.mem_map.2 ⟨p,r.Oa p F,rfl⟩);have V:=uF O.toRegB h0 (s.now O.toRegB Nh U JS hd) Gl (D.tc (by rw [z,hr,List.append_assoc])) (fun h=>(List.nodup_append.1 pE).2.2 i h i (by simp) rfl) Nh U (fun k hk=>hv k (hd k hk)) Iu
 have eo:o'=o:=by rw [U] at Is;exact(Option.some.inj Is).symm
 subst eo
 rcases kB with⟨Y,_⟩ | ⟨Y,hk,⟨C,e,ux,_⟩ | ⟨sh,it,C,nh,_⟩ | ⟨C,_⟩⟩
 ·
  have hw:=V.wanted Y;exact .inl ⟨hw,_,τ,ρ,sd,SL,Z,ls,z,put _ _ uw s.c (fun _ _ _ _ _ _ h=>h) (fun _=>rfl) (fun h=>by rw [hw] at h;cases h) (fun S h=>by rw [hw] at h;cases h),r.pass JS I (fun sh it h=>hsh i sh it h)⟩
 ·
  have hw:=V.wanted Y;have hr:=ux w s.c;rw [← V.exec nW hk] at hr;refine .inr ⟨hw,?_,fun _=>⟨e,hr⟩⟩;rw [hr];exact⟨_,τ,ρ,sd,SL,Z,ls,z,put _ _ uw s.c (fun _ _ _ _ _ _ h=>h) (fun h=>by rw [hw] at h;cases h) (fun _ _=>⟨w,s.c,hr⟩) (fun S _ h=>by simp only [C,Kd.E] at h;cases h),r.pass JS I (fun sh it h=>by rw [C] at h;cases h)⟩
 ·
  have hw:=V.wanted Y;refine .inr ⟨hw,?_,fun h=>by rw [hXp i h] at C;cases C⟩;rw [V.exec nW hk];refine(nh w Z _ s.c.1 r.st).mono fun v w' ⟨JT,hs',gJ⟩=>?_;exact⟨_,τ,ρ,sd,_,Z,ls,z,put _ _ uw ⟨Nat.le_trans s.c.1 JT,Z,_,gJ,fun A hA=>by simp [r.sub A hA]⟩ (kK _) (fun h=>by rw [hw] at h;cases h) (fun _ h=>by simp only [C,Kd.E] at h;cases h) (fun S' _ h=>by simp only [C,Kd.E,Option.some.injEq] at h;subst h;exact hs'),r.side JS C gJ⟩
 exact absurd C I
end
/-! ### the checks, and the walk -/
def kn:List Oper→Nat→Option Oper
 | [],_=>none
 | o::_,0=>some o
 | _::r,i+1=>kn r i
theorem jK:∀(l:List Oper) (i:Nat),kn l i=l[i]?
 | [],_=>rfl
 | _::_,0=>rfl
 | _::r,i+1=>by simp [kn,jK r i]
def AM(l:List Oper) (ms Nj:List Nat):Nat→List Nat→Bool
 | _,[]=>true
 | k,i::r=>(match kn l i with | some o=>Nat.beq (Nat.land (jt (cz o)) k) (jt (cz o)) | none=>true) &&
  (match gM i Nj with | true=>Nat.beq (Nat.land k (ms.getD i 0)) k | false=>true) && AM l ms Nj (k ||| 2 ^ i) r
def Ix(l:List Oper) (m:Nat) (Nj σ:List Nat):Bool:=
 σ.all (fun i=>Nat.blt i m) && (List.range m).all (fun i=>gM i σ) && decide σ.Nodup && AM l (lR l []) Nj 0 σ
theorem qx{l:List Oper}{ms p:List Nat}:∀{σ:List Nat}{k:Nat}{a:List Nat},(∀d,k.testBit d=true↔d∈a)→AM l ms p k σ=true→∀x i y,σ=x++i::y→
  (∀o,l[i]?=some o→∀d∈cz o,d∈a++x)∧(gM i p=true→∀j∈a++x,(ms.getD i 0).testBit j=true)
 | [],_,_,_,_,x,i,y,e=>by simp at e
 | i0::r,k,a,hk,h,x,i,y,e=>by
  simp only [AM,Bool.and_eq_true] at h
  cases x with
  | nil=>
   simp only [List.nil_append,List.cons.injEq] at e;obtain⟨rfl,rfl⟩:=e;refine⟨fun o q d s=>?_,fun hc j t=>?_⟩
   ·
    have h1:=h.1.1;rw [jK,q] at h1;have he:(jt (cz o)) &&& k=jt (cz o):=Nat.eq_of_beq_eq_true h1;have f:=nV s;rw [← he,Nat.testBit_and] at f;simp only [Bool.and_eq_true] at f
    simpa using (hk d).1 f.2
   have h1:=h.1.2;rw [hc] at h1;have he:k &&& (ms.getD i0 0)=k:=Nat.eq_of_beq_eq_true h1;have f:=(hk j).2 (by simpa using t);rw [← he,Nat.testBit_and] at f;simp only [Bool.and_eq_true] at f;exact f.2
  | cons z x=>
   simp only [List.cons_append,List.cons.injEq] at e;obtain⟨rfl,e⟩:=e
   have:=qx (a:=a++[i0]) (fun d=>by
    simp only [Nat.testBit_or,Bool.or_eq_true,hk,Nat.testBit_two_pow,decide_eq_true_eq,List.mem_append,List.mem_singleton];exact or_congr_right eq_comm) h.2 x i y e
   simpa using this
inductive iK where
 | blk (T:TypeId) (cs:List Value)
 | map
 | sl (T:TypeId) (len:Nat) (cs:List Value)
 | val (p:Value→Prop)
def As.nil:As where
 fp _:=False
 ok _ _:=True
 lt _ _ hx:=hx.elim
 mono _ h:=h
 st _ _ h:=h
def iK.sh:iK→Value→Prop
 | .blk _ _,v=>∃b,v=.pointer (some ⟨b,0,none⟩)
 | .map,v=>∃b,v=.map (some b)
 | .sl _ len _,v=>∃b,v=.slice (some ⟨b,0,none⟩) len len
 | .val p,v=>v≠undef∧p v
def iK.it:iK→Value→As
 | .blk T cs,.pointer (some ⟨b,_,_⟩)=>As.blk b T cs
 | .map,.map (some b)=>As.map Key.val b []
 | .sl T _ cs,.slice (some ⟨b,_,_⟩) _ _=>As.blk b T cs
 | _,_=>As.nil
def oR:List (Nat × iK)→Nat→Kd
 | [],_=>.pure
 | (j,s)::r,i=>match Nat.beq j i with
  | true=>.side s.sh s.it
  | false=>oR r i
def BU(Nj:List Nat) (Oh:List (Nat × iK)) (i:Nat):Kd:=match gM i Nj with
 | true=>.chain
 | false=>oR Oh i
def Kd.jL:Kd→Bool
 | .pure=>true
 | _=>false
theorem Kd.AQ:∀{k:Kd},k.jL=true→k=.pure
 | .pure,_=>rfl
 | .side _ _,h=>by cases h
 | .chain,h=>by cases h
theorem qy{i:Nat}{sh:Value→Prop}{it:Value→As}:∀{l:List (Nat × iK)},oR l i=.side sh it→∃s:iK,sh=s.sh
 | [],h=>by simp [oR] at h
 | (j,s)::r,h=>by
  simp only [oR] at h
  split at h
  ·
   simp only [Kd.side.injEq] at h;exact⟨s,h.1.symm⟩
  exact qy h
theorem oS{i:Nat}:∀{l:List (Nat × iK)},oR l i≠.chain
 | [],h=>by simp [oR] at h
 | (j,s)::r,h=>by
  simp only [oR] at h
  split at h
  ·
   cases h
  exact oS h
section
variable {P:Program}{Q:Exit→Act→World→Prop}{n m N:Nat}{w0 w:World}{M Z:Nat→Prop}{ls ed:List As}{Fin:KV→World→Prop}
theorem WC.cu{id:Nat}{kv:KV}{l:List Oper}(X f σ:List Nat) (z:List (Nat × iK)) (O:St w0 M Z w ls) (h1:∀A∈ed,A∈ls) (hm:P.follows .mixedOrders=true) (U:wP l m X=true) (t:Ix l m f σ=true) (V:(X.all fun x=>(BU f z x).jL)=true)
  (W:DG P l.toArray n w0 M w.heap.size ed (BU f z) (fun kv w=>WL P l.toArray (NP Q) (l.drop m) n kv w) σ kv [] Z ls):WC P (.region id l.toArray true) Q n kv w:=by
 intro a F
 refine wp_mono (Q:=NP Q) ?_ fun _ _ _ h=>h.2
 refine wp_region_any hm ?_;have I:=tq U;simp only [Ix,Bool.and_eq_true] at t
 have Y:wY l.toArray m (BU f z) σ:=by
  have J:=qx (a:=[]) (fun d=>by simp) t.2;refine⟨fun i hi=>?_,fun i hi=>fQ.1 (List.all_eq_true.1 t.1.1.2 i (by simpa using hi)),by simpa using t.1.2,fun x i y e o q d hd=>by simpa using (J x i y e).1 o (by simpa using q) d hd,fun x i y e hc D hD hk j G=>?_⟩
  ·
   have:=List.all_eq_true.1 t.1.1.1 i hi
   simp only [Nat.blt] at this
   have:=Nat.le_of_ble_eq_true this
   omega
  have Oi:gM i f=true:=by
   unfold BU at hc
   cases he:gM i f with
   | true=>rfl
   | false=>rw [he] at hc;exact absurd hc oS
  have hb:=(J x i y e).2 Oi j (by simpa using G)
  cases H:l[i]? with
  | none=>
   exfalso
   have h3:∀(l:List Oper) (acc:List Nat),(lR l acc).length=acc.length+l.length:=by
    intro l
    induction l with
    | nil=>intro acc;rfl
    | cons p r ih=>intro acc;simp only [lR];rw [ih];simp;omega
   have h2:(lR l [])[i]?=none:=List.getElem?_eq_none (by rw [h3];simpa using List.getElem?_eq_none_iff.1 H);rw [List.getD_eq_getElem?_getD,h2] at hb
   simp at hb
  | some o=>
   exact qf D l [] [] rfl (fun j o G q=>hD j o G (by simpa using q)) (fun k o q=>by simp at q) (fun k o q=>I.back k o (by simpa using q)) i o (by simpa using H) (hk o (by simpa using H)) j hb
 have C:=uz l;have L:St w0 M Z {w with drawn:=w.drawn+1} ls:=O.step (aQ.drew [] w);refine stepG (X:=X) (K:=BU f z) (fun x hx=>Kd.AQ (List.all_eq_true.1 V x hx)) I Y (fun j sh it h=>?_) F (.inr fun c _ _ h=>h.1 c rfl) l.toArray.size _ a _ (by simp) (uy _ _) (fun j _=>C j) ⟨fun _=>undef,[],σ,[],[],Z,ls,rfl,⟨⟨Nat.le_refl _,Z,ls,L,h1⟩,F.size,F.jq,?_,fun _ _=>rfl,?_,?_⟩,
  ⟨by simp,fun j _ _=>C j,by simpa [mP] using W,by simpa using L,h1,by simp,by simp,by simp,by simp,by simp,fun j _ _ _ h=>by rw [C j] at h;cases h⟩⟩
 ·
  unfold BU at h
  split at h
  ·
   cases h
  obtain⟨s,rfl⟩:=qy h;intro hu
  cases s <;> (simp only [iK.sh] at hu;first | (obtain⟨b,hb⟩:=hu;cases hb;done) | exact hu.1 rfl)
 all_goals (intro j;intros;rename_i h _ ;first | (have:=C j;simp_all;done) | skip)
variable {l:List Oper}{i:Nat}{σ':List Nat}{kv:KV}{sd:List (Nat × As)}{K:Nat→Kd}{d:Tmp}{op:Op}{ty:TypeId}{pos:String}{af:Array Edge}{g:Option (Nat × Bool)}
theorem DG.no(f:kn l i=some ⟨some d,op,ty,pos,af,g⟩) (h:gd l.toArray kv ⟨some d,op,ty,pos,af,g⟩=some false) (j:ba op=false) (o:Nat.blt d n=true)
  (next:DG P l.toArray n w0 M N ed K Fin σ' ((d,undef)::kv) sd Z ls):DG P l.toArray n w0 M N ed K Fin (i::σ') kv sd Z ls:=
 ⟨⟨some d,op,ty,pos,af,g⟩,by(rw [jK] at f;simpa using f),j,o,.inl ⟨h,next⟩⟩
theorem DG.p{v:Value}(j:kn l i=some ⟨some d,op,ty,pos,af,g⟩) (o:gd l.toArray kv ⟨some d,op,ty,pos,af,g⟩=some true) (q:ba op=false) (hk:known kv op=true) (r:Nat.blt d n=true) (s:(K i).jL=true)
  (h:∀w f R,N≤w.heap.size→St w0 M f w R→(∀A∈ed,A∈R)→PV P op ty kv w v)
  (next:DG P l.toArray n w0 M N ed K Fin σ' ((d,v)::kv) sd Z ls):DG P l.toArray n w0 M N ed K Fin (i::σ') kv sd Z ls:=
 ⟨⟨some d,op,ty,pos,af,g⟩,by(rw [jK] at j;simpa using j),q,r,.inr ⟨o,hk,.inl ⟨Kd.AQ s,v,fun w ⟨h1,f,R,t,x⟩=>(h w f R h1 t x).2.2 _ _ _ _,next⟩⟩⟩
theorem DG.side(s:iK) (j:kn l i=some ⟨some d,op,ty,pos,af,g⟩) (o:gd l.toArray kv ⟨some d,op,ty,pos,af,g⟩=some true) (p:ba op=false) (hk:known kv op=true) (q:Nat.blt d n=true) (r:K i=.side s.sh s.it)
  (h:∀w f R,N≤w.heap.size→St w0 M f w R→OX P ⟨some d,op,ty,pos,af,g⟩ n kv w fun t w'=>w.heap.size≤w'.heap.size∧∃v,t=(d,v)::kv∧s.sh v∧St w0 M f w' (s.it v::R))
  (next:∀v,s.sh v→DG P l.toArray n w0 M N ed K Fin σ' ((d,v)::kv) ((i,s.it v)::sd) Z ls):DG P l.toArray n w0 M N ed K Fin (i::σ') kv sd Z ls:=
 ⟨⟨some d,op,ty,pos,af,g⟩,by(rw [jK] at j;simpa using j),p,q,.inr ⟨o,hk,.inr (.inl ⟨s.sh,s.it,r,fun w f R h1 x=>(h w f R h1 x).2.2.2.mono fun v w' ⟨a,u,e,b,c⟩=>by
  simp only [iL,List.cons.injEq,Prod.mk.injEq,true_and,and_true] at e;subst e;exact⟨a,b,c⟩,next⟩)⟩⟩
theorem DG.c(j:kn l i=some ⟨some d,op,ty,pos,af,g⟩) (o:gd l.toArray kv ⟨some d,op,ty,pos,af,g⟩=some true) (q:ba op=false) (hk:known kv op=true) (r:Nat.blt d n=true) (s:K i=.chain)
  (h:∀w R,N≤w.heap.size→St w0 M Z w (ls++R)→(∀p∈sd,p.2∈R)→OX P ⟨some d,op,ty,pos,af,g⟩ n kv w fun t w'=>w.heap.size≤w'.heap.size∧∃v,t=(d,v)::kv∧∃Z' f,St w0 M Z' w' (f++R)∧(∀A∈ed,A∈f)∧
   DG P l.toArray n w0 M N ed K Fin σ' ((d,v)::kv) sd Z' f):DG P l.toArray n w0 M N ed K Fin (i::σ') kv sd Z ls:=
 ⟨⟨some d,op,ty,pos,af,g⟩,by(rw [jK] at j;simpa using j),q,r,.inr ⟨o,hk,.inr (.inr ⟨s,fun w R h1 x y=>(h w R h1 x y).2.2.2.mono fun v w' ⟨a,u,e,b⟩=>by
  simp only [iL,List.cons.injEq,Prod.mk.injEq,true_and,and_true] at e;subst e;exact⟨a,b⟩⟩)⟩⟩
theorem DG.nil(h:∀w,N≤w.heap.size→St w0 M Z w (sd.map (·.2)++ls)→Fin kv w):DG P l.toArray n w0 M N ed K Fin [] kv sd Z ls:=h
end
end Go.Rc

namespace Go.Rc
open Go
structure SV (w0:World) (M Z:Nat→Prop) (w:World) (l:List As):Prop where
 cq:fZ M w0 w
 jC:∀x,Z x→x<w.heap.size
 ok:∀A∈l,A.ok Z w
section
variable {w0 w:World}{M Z:Nat→Prop}{l R ls:List As}{A0 A1 A2 A3 A4 A5 A6 A7 A8 A9 jD lK oP:As}
theorem St.sv(h:St w0 M Z w R) (hi:∀A∈l,A∈R):SV w0 M Z w l:=⟨h.cq,h.jC,fun A f=>h.ok A (hi A f)⟩
theorem SV.g0(h:SV w0 M Z w (A0::l)):A0.ok Z w:=h.ok _ M0
theorem SV.tl(h:SV w0 M Z w (A0::l)):SV w0 M Z w l:=⟨h.cq,h.jC,fun A f=>h.ok A (.tail _ f)⟩
theorem SV.g1(h:SV w0 M Z w (A0::A1::l)):A1.ok Z w:=h.tl.g0
theorem SV.g2(h:SV w0 M Z w (A0::A1::A2::l)):A2.ok Z w:=h.tl.g1
theorem SV.g3(h:SV w0 M Z w (A0::A1::A2::A3::l)):A3.ok Z w:=h.tl.g2
theorem SV.g4(h:SV w0 M Z w (A0::A1::A2::A3::A4::l)):A4.ok Z w:=h.tl.g3
theorem SV.g5(h:SV w0 M Z w (A0::A1::A2::A3::A4::A5::l)):A5.ok Z w:=h.tl.g4
theorem SV.g6(h:SV w0 M Z w (A0::A1::A2::A3::A4::A5::A6::l)):A6.ok Z w:=h.tl.g5
theorem SV.g7(h:SV w0 M Z w (A0::A1::A2::A3::A4::A5::A6::A7::l)):A7.ok Z w:=h.tl.g6
theorem SV.g8(h:SV w0 M Z w (A0::A1::A2::A3::A4::A5::A6::A7::A8::l)):A8.ok Z w:=h.tl.g7
theorem SV.g9(h:SV w0 M Z w (A0::A1::A2::A3::A4::A5::A6::A7::A8::A9::l)):A9.ok Z w:=h.tl.g8
theorem SV.g10(h:SV w0 M Z w (A0::A1::A2::A3::A4::A5::A6::A7::A8::A9::jD::l)):jD.ok Z w:=h.tl.g9
theorem SV.g11(h:SV w0 M Z w (A0::A1::A2::A3::A4::A5::A6::A7::A8::A9::jD::lK::l)):lK.ok Z w:=h.tl.g10
theorem SV.g12(h:SV w0 M Z w (A0::A1::A2::A3::A4::A5::A6::A7::A8::A9::jD::lK::oP::l)):oP.ok Z w:=h.tl.g11
theorem av.nil:∀A∈([]:List As),A∈ls:=by simp
theorem av.cons(h:A0∈ls) (t:∀A∈l,A∈ls):∀A∈A0::l,A∈ls:=List.forall_mem_cons.2 ⟨h,t⟩
theorem aC.nil:R=[]++R:=rfl
theorem aC.cons{L:List As}(h:L=l++R):A0::L=(A0::l)++R:=by rw [h];rfl
end
section
variable {P:Program}{n m N:Nat}{w0 w:World}{M Z:Nat→Prop}{ls ed:List As}{Fin:KV→World→Prop}
variable {l:List Oper}{i:Nat}{σ':List Nat}{kv:KV}{sd:List (Nat × As)}{K:Nat→Kd}{d:Tmp}{op:Op}{ty:TypeId}{pos:String}{af:Array Edge}{g:Option (Nat × Bool)}
theorem DG.ch(j:kn l i=some ⟨some d,op,ty,pos,af,g⟩) (o:gd l.toArray kv ⟨some d,op,ty,pos,af,g⟩=some true) (q:ba op=false) (hk:known kv op=true) (r:Nat.blt d n=true) (s:K i=.chain)
  (h:∀w R,N≤w.heap.size→St w0 M Z w (ls++R)→(∀p∈sd,p.2∈R)→OX P ⟨some d,op,ty,pos,af,g⟩ n kv w fun t w'=>w.heap.size≤w'.heap.size∧∃v,t=(d,v)::kv∧∃Z' L f,St w0 M Z' w' L∧L=f++R∧(∀A∈ed,A∈f)∧
   DG P l.toArray n w0 M N ed K Fin σ' ((d,v)::kv) sd Z' f):DG P l.toArray n w0 M N ed K Fin (i::σ') kv sd Z ls:=
 DG.c j o q hk r s fun w R h1 x y=>by grind
theorem DG.cs(D:kn l i=some ⟨none,op,ty,pos,af,g⟩) (j:gd l.toArray kv ⟨none,op,ty,pos,af,g⟩=some true) (o:ba op=false) (hk:known kv op=true) (q:K i=.chain)
  (h:∀w R,N≤w.heap.size→St w0 M Z w (ls++R)→(∀p∈sd,p.2∈R)→OX P ⟨none,op,ty,pos,af,g⟩ n kv w fun r w'=>w.heap.size≤w'.heap.size∧r=kv∧∃Z' L f,St w0 M Z' w' L∧L=f++R∧(∀A∈ed,A∈f)∧
   DG P l.toArray n w0 M N ed K Fin σ' kv sd Z' f):DG P l.toArray n w0 M N ed K Fin (i::σ') kv sd Z ls:=
 ⟨⟨none,op,ty,pos,af,g⟩,by grind [jK],o,rfl,.inr ⟨j,hk,.inr (.inr ⟨q,fun w R h1 s t=>(h w R h1 s t).2.2.2.mono fun v w' ⟨a,_,Z',L,f,x,y,z,C⟩=>⟨a,Z',f,by rw [← y];exact x,z,C⟩⟩)⟩⟩
end
/-! ### loops of a known number of rounds -/
end Go.Rc

