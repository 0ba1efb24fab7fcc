/- Base of the proof: frames, memory, ownership, and the plain meaning of rule systems. Conditions: as each lemma says. -/
import Derived.Test.YtfamnpoplgkkcaaGreatDoorKBb
import Derived.Lib.SliceRun
set_option linter.all false
namespace Go.Rc
open Go
variable {E EK ER EI base:Nat}{w w':World}{a:Option Addr}{n c:Nat}{S:List Nat}
structure Rec where
 key:Key
 value:ByteArray
 reads:List Key
 changed:Int
 ak:Int
 cost:Int
 bU:Bool
 deriving DecidableEq
instance:Inhabited Rec:=⟨⟨de,⟨#[]⟩,[],0,0,0,false⟩⟩
def jB:Rec:=⟨de,⟨#[]⟩,[],0,0,0,false⟩
def Rec.row(x:Rec) (a:Option Addr) (n c:Nat):List Value:=[.int .i64 x.key.kind,.string x.key.text,.string x.value,.slice a n c,.int .i64 x.changed,.int .i64 x.ak,.int .i64 x.cost,.bool x.bU]
structure bG where
 key:Key
 value:ByteArray
 changed:Int
 deriving DecidableEq
def bG.cells(x:bG):List Value:=[.int .i64 x.key.kind,.string x.key.text,.string x.value,.int .i64 x.changed]
structure bZ where
 ad:Int
 ab:List bG
 ai:List Rec
 deriving DecidableEq
/-! the plain meaning -/
def ay(l:List Rec) (k:Key):Option Rec:=l.find? fun r=>r.key == k
def aL(l:List bG) (k:Key):bG:=(l.find? fun x=>x.key == k).getD ⟨k,⟨#[]⟩,0⟩
def gp(l:List Rec) (k:Key):List Rec:=l.filter fun r=>!(r.key == k)
end Go.Rc
namespace Go.Rc
open Go
theorem fV{α:Type}{p:α→Bool}{l:List α}{i:Nat}(hi:i<l.length) (h:∀j x,j<i→l[j]?=some x→p x=false) (f:p l[i]=true):l.find? p=some l[i]:=by
 induction l generalizing i with
 | nil=>simp at hi
 | cons y r o=>
  cases i with
  | zero=>simp at f;simp [f]
  | succ i=>
   have h0:p y=false:=h 0 y (by omega) rfl
   grind
theorem lD{α:Type}{p:α→Bool}{l:List α}{i:Nat}(hi:l.length≤i) (f:∀j x,j<i→l[j]?=some x→p x=false):l.find? p=none:=by
 rw [List.find?_eq_none];intro x h;obtain⟨j,o,rfl⟩:=List.mem_iff_getElem.1 h
 simp [f j _ (by omega) (List.getElem?_eq_getElem o)]
theorem Rec.one(x:Rec) (a:Option Addr) (n c:Nat):∀u∈x.row a n c,u.oneCell'=true:=by simp [Rec.row,Value.oneCell']
end Go.Rc
namespace Go.Rc
theorem Qu{l:List Go.Value}{j:Nat}{v:Go.Value}(h:nth l j=some v):nth l j≠none:=by rw [h];simp
end Go.Rc
namespace Go.Rc
open Go
def eB(r:Rec):List Rec→Bool→List Rec
 | [],put=>if put then [] else [r]
 | x::xs,put=>(if decide (0≤bj x.key r.key) && !put then [r] else [])++(if bj x.key r.key=0 then [] else [x])++eB r xs (put || decide (0≤bj x.key r.key))
def ez(l:List Rec) (r:Rec):List Rec:=eB r l false
theorem zr(r:Rec):∀(l:List Rec) (b:Bool),(eB r l b).length≤l.length+1:=by
 intro l
 induction l with
 | nil=>intro b;cases b <;> simp [eB]
 | cons x xs f=>
  intro b;have h1:=f (b || decide (0≤bj x.key r.key));simp only [eB,List.length_append,List.length_cons]
  have h:∀l:List Rec,(eB r l true).length≤l.length:=by
   intro l
   induction l with
   | nil=>simp [eB]
   | cons y j o=>simp only [eB,Bool.not_true,Bool.and_false,Bool.false_eq_true,if_false,Bool.true_or,List.length_append,List.length_cons,List.nil_append];split <;> simp <;> omega
  grind
end Go.Rc
namespace Go.Rc
open Go
def dL(x:Rec):Bool:=
 dZ x.key && (!ax x.key && (decide ((x.value.size:Int)≤1073741824) && (decide ((x.reads.length:Int)≤4000) && (decide (0≤x.changed) && (decide (x.changed≤x.ak) && (decide (x.ak≤1073741824) &&
  (decide (1≤x.cost) && (decide (x.cost≤1073741824) && (!x.bU || aw x.key)))))))))
def cR(x:Rec):Bool:=x.reads.all dZ && dL x
def mD(l:List Rec) (i:Nat):Bool:=!cR l[i]! || (decide (0<(i:Int)) && decide (0≤bj l[i - 1]!.key l[i]!.key))
def lE(l:List Rec) (i:Nat) (x:Rec):Prop:=cR x=true∧(0<i→bj l[i - 1]!.key x.key<0)
def jC(l:List Rec):Prop:=l.length≤4000∧∀i x,l[i]?=some x→lE l i x
theorem lF{l:List Rec}{i:Nat}(hi:i<l.length):mD l i=false↔lE l i l[i]:=by
 simp only [mD,lE,getElem!_pos l i hi,Bool.or_eq_false_iff,Bool.and_eq_false_iff,decide_eq_false_iff_not,Bool.not_eq_false']
 grind
end Go.Rc

namespace Go.Rc
open Go
structure fD (M:Nat→Prop) (w w':World):Prop where
 os:w'.os=w.os
 tape:w'.tape=w.tape
 output:w'.output=w.output
 size:w.heap.size≤w'.heap.size
 drawn:w.drawn≤w'.drawn
 block:∀k,k<w.heap.size→¬M k→w'.heap[k]?=w.heap[k]?
theorem aQ.p{S:List Nat}{w w':World}(h:aQ S w w'):fD (fun x=>x∈S) w w':=⟨h.os,h.tape,h.output,h.size,h.drawn,h.block⟩
theorem fD.cH{M:Nat→Prop}{w w':World}(h:fD M w w') (f:∀x,M x→w.heap.size≤x):aQ [] w w':=
 ⟨h.os,h.tape,h.output,h.size,h.drawn,fun k hk _=>h.block k hk fun hm=>by have:=f k hm;omega⟩
theorem fD.refl(M:Nat→Prop) (w:World):fD M w w:=⟨rfl,rfl,rfl,Nat.le_refl _,Nat.le_refl _,fun _ _ _=>rfl⟩
theorem fD.mono{M f:Nat→Prop}{w w':World}(h:fD M w w') (j:∀x,x<w.heap.size→M x→f x):fD f w w':=⟨h.os,h.tape,h.output,h.size,h.drawn,fun k hk hn=>h.block k hk fun hm=>hn (j k hk hm)⟩
structure As where
 fp:Nat→Prop
 ok:(Nat→Prop)→World→Prop
 lt:∀{Z w},ok Z w→∀x,fp x→x<w.heap.size
 mono:∀{Z Z':Nat→Prop}{w},(∀x,Z x→Z' x)→ok Z w→ok Z' w
 st:∀{Z:Nat→Prop}{w w':World},w.heap.size≤w'.heap.size→(∀x,fp x∨Z x→x<w.heap.size→w'.heap[x]?=w.heap[x]?)→ok Z w→ok Z w'
structure St (w0:World) (M Z:Nat→Prop) (w:World) (l:List As):Prop where
 cH:fD M w0 w
 kc:∀x,Z x→x<w.heap.size
 ks:∀A∈l,∀x,A.fp x→¬Z x
 lg:∀A∈l,∀x,A.fp x→M x∨w0.heap.size≤x
 rC:l.Pairwise fun A B=>∀x,A.fp x→¬B.fp x
 ok:∀A∈l,A.ok Z w
structure eI (n:Nat) (Z Z':Nat→Prop):Prop where
 up:∀x,Z x→Z' x
 new:∀x,Z' x→Z x∨n≤x
theorem eI.refl(n:Nat) (Z:Nat→Prop):eI n Z Z:=⟨fun _ h=>h,fun _ h=>.inl h⟩
theorem eI.trans{n j:Nat}{Z Z' o:Nat→Prop}(h:eI n Z Z') (k:eI j Z' o) (hn:n≤j):eI n Z o:=
 ⟨fun x f=>k.up x (h.up x f),fun x f=>by rcases k.new x f with h1 | h1;exact h.new x h1;exact .inr (Nat.le_trans hn h1)⟩
theorem eI.le{n f:Nat}{Z Z':Nat→Prop}(h:eI n Z Z') (hn:f≤n):eI f Z Z':=⟨h.up,fun x j=>by rcases h.new x j with h1 | h1;exact .inl h1;exact .inr (Nat.le_trans hn h1)⟩
def nY(l:List As) (x:Nat):Prop:=∃A∈l,A.fp x
section
variable {w0 w w':World}{M Z Z':Nat→Prop}{l l0 l1 rest:List As}{A B:As}
theorem St.size(h:St w0 M Z w l):w0.heap.size≤w.heap.size:=h.cH.size
theorem St.start(f:∀x,Z x→x<w.heap.size):St w M Z w []:=⟨fD.refl _ _,f,by simp,by simp,.nil,by simp⟩
theorem St.perm{l':List As}(h:St w0 M Z w l) (j:List.Perm l' l):St w0 M Z w l':=
 ⟨h.cH,h.kc,fun A f=>h.ks A (j.mem_iff.1 f),fun A f=>h.lg A (j.mem_iff.1 f),
  h.rC.perm j.symm (fun o x hb p=>o x p hb),fun A f=>h.ok A (j.mem_iff.1 f)⟩
theorem St.enter(h:St w0 M Z w (l0++rest)):St w (nY l0) Z w l0:=
 ⟨fD.refl _ _,h.kc,fun A f=>h.ks A (by simp [f]),fun A f x j=>.inl ⟨A,f,j⟩,(List.pairwise_append.1 h.rC).1,fun A f=>h.ok A (by simp [f])⟩
theorem St.leave(h:St w0 M Z w (l0++rest)) (j:St w (nY l0) Z' w' l1) (p:eI w.heap.size Z Z'):St w0 M Z' w' (l1++rest):=by
 obtain⟨H,z,D⟩:=List.pairwise_append.1 h.rC;have F:∀x,nY l0 x→M x∨w0.heap.size≤x:=fun x ⟨A,f,o⟩=>h.lg A (by simp [f]) x o;have q:∀A∈rest,∀x,A.fp x→x<w.heap.size:=fun A f=>A.lt (h.ok A (by simp [f]));have I:∀x,nY l0 x→¬Z x:=fun x ⟨A,f,o⟩=>h.ks A (by simp [f]) x o;refine⟨⟨j.cH.os.trans h.cH.os,j.cH.tape.trans h.cH.tape,j.cH.output.trans h.cH.output,Nat.le_trans h.cH.size j.cH.size,Nat.le_trans h.cH.drawn j.cH.drawn,fun k hk hn=>?_⟩,j.kc,?_,?_,?_,?_⟩
 ·
  rw [j.cH.block k (Nat.lt_of_lt_of_le hk h.cH.size) fun J=>by grind];exact h.cH.block k hk hn
 ·
  intro A f x o r
  rcases List.mem_append.1 f with f | f
  ·
   exact j.ks A f x o r
  rcases p.new x r with h1 | h1
  ·
   exact h.ks A (by simp [f]) x o h1
  have:=q A f x o;omega
 ·
  intro A f x o
  rcases List.mem_append.1 f with f | f
  ·
   rcases j.lg A f x o with h1 | h1
   ·
    exact F x h1
   exact .inr (Nat.le_trans h.cH.size h1)
  exact h.lg A (by simp [f]) x o
 ·
  refine List.pairwise_append.2 ⟨j.rC,z,fun A f B s x o hb=>?_⟩
  rcases j.lg A f x o with⟨C,t,h1⟩ | h1
  ·
   exact D C t B s x h1 hb
  have:=q B s x hb;omega
 intro A f
 rcases List.mem_append.1 f with f | f
 ·
  exact j.ok A f
 refine A.mono (Z:=Z) p.up (A.st j.cH.size (fun x o G=>j.cH.block x G fun⟨C,t,hc⟩=>?_) (h.ok A (by simp [f])))
 grind
theorem St.step(h:St w0 M Z w l) (s:aQ [] w w'):St w0 M Z w' l:=
 St.leave (l0:=[]) (l1:=[]) h ⟨s.p.mono (by simp),fun x f=>Nat.lt_of_lt_of_le (h.kc x f) s.size,by simp,by simp,.nil,by simp⟩ (eI.refl _ _)
theorem St.new(h:St w0 M Z w l) (s:aQ [] w w') (o:B.ok Z w') (q:∀x,B.fp x→w.heap.size≤x):St w0 M Z w' (B::l):=
 St.leave (l0:=[]) (l1:=[B]) h ⟨s.p.mono (by simp),fun x j=>Nat.lt_of_lt_of_le (h.kc x j) s.size,fun A f x j r=>by simp at f;subst f;have:=q x j;have:=h.kc x r;omega,
  fun A f x j=>by grind,by simp,fun A f=>by simp at f;subst f;exact o⟩ (eI.refl _ _)
theorem St.fact(h:St w0 M Z w l) (f:B.ok Z w) (j:∀x,¬B.fp x):St w0 M Z w (B::l):=h.new (aQ.refl _ _) f fun x o=>absurd o (j x)
theorem St.gS(h:St w0 M Z w (A::l)) (s:fD A.fp w w') (q:B.ok Z w') (o:∀x,B.fp x→A.fp x∨w.heap.size≤x):St w0 M Z w' (B::l):=
 St.leave (l0:=[A]) (l1:=[B]) h ⟨s.mono fun x _ j=>⟨A,by simp,j⟩,fun x j=>Nat.lt_of_lt_of_le (h.kc x j) s.size,fun C f x j p=>by
   simp at f;subst f
   rcases o x j with h1 | h1
   ·
    exact h.ks A (by simp) x h1 p
   have:=h.kc x p;omega,
  fun C f x j=>by
   simp at f;subst f
   rcases o x j with h1 | h1
   ·
    exact .inl ⟨A,by simp,h1⟩
   exact .inr h1,by simp,fun C f=>by simp at f;subst f;exact q⟩ (eI.refl _ _)
theorem St.freeze(h:St w0 M Z w (A::l)) (q:B.ok (fun x=>Z x∨A.fp x) w) (p:∀x,¬B.fp x):St w0 M (fun x=>Z x∨A.fp x) w (B::l):=by
 refine⟨h.cH,fun x f=>?_,?_,?_,?_,?_⟩
 ·
  rcases f with f | f
  ·
   exact h.kc x f
  exact A.lt (h.ok A (by simp)) x f
 ·
  intro C j x f o;simp only [List.mem_cons] at j
  rcases j with rfl | j
  ·
   exact p x f
  rcases o with o | o
  ·
   exact h.ks C (by simp [j]) x f o
  exact(List.pairwise_cons.1 h.rC).1 C j x o f
 ·
  intro C j x f;simp only [List.mem_cons] at j
  rcases j with rfl | j
  ·
   exact absurd f (p x)
  exact h.lg C (by simp [j]) x f
 ·
  exact List.pairwise_cons.2 ⟨fun C _ x f=>absurd f (p x),(List.pairwise_cons.1 h.rC).2⟩
 intro C j;simp only [List.mem_cons] at j
 rcases j with rfl | j
 ·
  exact q
 exact C.mono (fun x f=>.inl f) (h.ok C (by simp [j]))
theorem St.drop(h:St w0 M Z w (A::l)):St w0 M Z w l:=
 ⟨h.cH,h.kc,fun C f=>h.ks C (by simp [f]),fun C f=>h.lg C (by simp [f]),(List.pairwise_cons.1 h.rC).2,fun C f=>h.ok C (by simp [f])⟩
theorem St.conv(h:St w0 M Z w (A::l)) (f:B.ok Z w) (j:∀x,B.fp x→A.fp x):St w0 M Z w (B::l):=h.gS (fD.refl _ _) f fun x o=>.inl (j x o)
theorem St.Lr{f:Nat→Prop}(h:St w0 M Z w l) (j:∀x,x<w0.heap.size→M x→f x):St w0 f Z w l:=
 ⟨h.cH.mono j,h.kc,h.ks,fun A o x p=>by
  rcases h.lg A o x p with h1 | h1
  ·
   grind
  exact .inr h1,h.rC,h.ok⟩
theorem St.ke{l0:List As}(h:St w0 M Z w (l0++l)):St w0 M Z w l0:=⟨h.cH,h.kc,fun C f=>h.ks C (by simp [f]),fun C f=>h.lg C (by simp [f]),(List.pairwise_append.1 h.rC).1,fun C f=>h.ok C (by simp [f])⟩
theorem St.k0(h:St w0 M Z w l):St w0 M Z w []:=St.ke (l0:=[]) h
theorem St.k1{A0:As}(h:St w0 M Z w (A0::l)):St w0 M Z w [A0]:=St.ke (l0:=[A0]) h
theorem St.k2{A0 A1:As}(h:St w0 M Z w (A0::A1::l)):St w0 M Z w [A0,A1]:=St.ke (l0:=[A0,A1]) h
theorem St.k3{A0 A1 A2:As}(h:St w0 M Z w (A0::A1::A2::l)):St w0 M Z w [A0,A1,A2]:=St.ke (l0:=[A0,A1,A2]) h
theorem St.e0(h:St w0 M Z w l):St w (nY []) Z w []:=St.enter (l0:=[]) h
theorem St.e1{A0:As}(h:St w0 M Z w (A0::l)):St w (nY [A0]) Z w [A0]:=St.enter (l0:=[A0]) h
theorem St.e2{A0 A1:As}(h:St w0 M Z w (A0::A1::l)):St w (nY [A0,A1]) Z w [A0,A1]:=St.enter (l0:=[A0,A1]) h
theorem St.e3{A0 A1 A2:As}(h:St w0 M Z w (A0::A1::A2::l)):St w (nY [A0,A1,A2]) Z w [A0,A1,A2]:=St.enter (l0:=[A0,A1,A2]) h
theorem St.e5{A0 A1 A2 A3 A4:As}(h:St w0 M Z w (A0::A1::A2::A3::A4::l)):St w (nY [A0,A1,A2,A3,A4]) Z w [A0,A1,A2,A3,A4]:=St.enter (l0:=[A0,A1,A2,A3,A4]) h
theorem St.e6{A0 A1 A2 A3 A4 A5:As}(h:St w0 M Z w (A0::A1::A2::A3::A4::A5::l)):St w (nY [A0,A1,A2,A3,A4,A5]) Z w [A0,A1,A2,A3,A4,A5]:=St.enter (l0:=[A0,A1,A2,A3,A4,A5]) h
theorem St.g0{A0:As}(h:St w0 M Z w (A0::l)):A0.ok Z w:=h.ok _ (by simp)
theorem St.g1{A0 A1:As}(h:St w0 M Z w (A0::A1::l)):A1.ok Z w:=h.ok _ (by simp)
theorem St.g2{A0 A1 A2:As}(h:St w0 M Z w (A0::A1::A2::l)):A2.ok Z w:=h.ok _ (by simp)
theorem St.g3{A0 A1 A2 A3:As}(h:St w0 M Z w (A0::A1::A2::A3::l)):A3.ok Z w:=h.ok _ (by simp)
theorem St.g4{A0 A1 A2 A3 A4:As}(h:St w0 M Z w (A0::A1::A2::A3::A4::l)):A4.ok Z w:=h.ok _ (by simp)
theorem St.g5{A0 A1 A2 A3 A4 A5:As}(h:St w0 M Z w (A0::A1::A2::A3::A4::A5::l)):A5.ok Z w:=h.ok _ (by simp)
theorem St.g6{A0 A1 A2 A3 A4 A5 A6:As}(h:St w0 M Z w (A0::A1::A2::A3::A4::A5::A6::l)):A6.ok Z w:=h.ok _ (by simp)
theorem St.g7{A0 A1 A2 A3 A4 A5 A6 A7:As}(h:St w0 M Z w (A0::A1::A2::A3::A4::A5::A6::A7::l)):A7.ok Z w:=h.ok _ (by simp)
theorem St.g8{A0 A1 A2 A3 A4 A5 A6 A7 A8:As}(h:St w0 M Z w (A0::A1::A2::A3::A4::A5::A6::A7::A8::l)):A8.ok Z w:=h.ok _ (by simp)
theorem St.g9{A0 A1 A2 A3 A4 A5 A6 A7 A8 A9:As}(h:St w0 M Z w (A0::A1::A2::A3::A4::A5::A6::A7::A8::A9::l)):A9.ok Z w:=h.ok _ (by simp)
theorem St.g10{A0 A1 A2 A3 A4 A5 A6 A7 A8 A9 ir:As}(h:St w0 M Z w (A0::A1::A2::A3::A4::A5::A6::A7::A8::A9::ir::l)):ir.ok Z w:=h.ok _ (by simp)
theorem St.g11{A0 A1 A2 A3 A4 A5 A6 A7 A8 A9 ir j4:As}(h:St w0 M Z w (A0::A1::A2::A3::A4::A5::A6::A7::A8::A9::ir::j4::l)):j4.ok Z w:=h.ok _ (by simp)
theorem St.g12{A0 A1 A2 A3 A4 A5 A6 A7 A8 A9 ir j4 mE:As}(h:St w0 M Z w (A0::A1::A2::A3::A4::A5::A6::A7::A8::A9::ir::j4::mE::l)):mE.ok Z w:=h.ok _ (by simp)
theorem St.g13{A0 A1 A2 A3 A4 A5 A6 A7 A8 A9 ir j4 mE f:As}(h:St w0 M Z w (A0::A1::A2::A3::A4::A5::A6::A7::A8::A9::ir::j4::mE::f::l)):f.ok Z w:=h.ok _ (by simp)
theorem St.g14{A0 A1 A2 A3 A4 A5 A6 A7 A8 A9 ir j4 mE j f:As}(h:St w0 M Z w (A0::A1::A2::A3::A4::A5::A6::A7::A8::A9::ir::j4::mE::j::f::l)):f.ok Z w:=h.ok _ (by simp)
theorem St.g15{A0 A1 A2 A3 A4 A5 A6 A7 A8 A9 ir j4 mE j o f:As}(h:St w0 M Z w (A0::A1::A2::A3::A4::A5::A6::A7::A8::A9::ir::j4::mE::j::o::f::l)):f.ok Z w:=h.ok _ (by simp)
theorem St.p1{A0 A1:As}(h:St w0 M Z w (A0::A1::l)):St w0 M Z w (A1::A0::l):=h.perm (List.perm_middle (l₁:=[A0])).symm
theorem St.p2{A0 A1 A2:As}(h:St w0 M Z w (A0::A1::A2::l)):St w0 M Z w (A2::A0::A1::l):=h.perm (List.perm_middle (l₁:=[A0,A1])).symm
theorem St.p3{A0 A1 A2 A3:As}(h:St w0 M Z w (A0::A1::A2::A3::l)):St w0 M Z w (A3::A0::A1::A2::l):=h.perm (List.perm_middle (l₁:=[A0,A1,A2])).symm
theorem St.p4{A0 A1 A2 A3 A4:As}(h:St w0 M Z w (A0::A1::A2::A3::A4::l)):St w0 M Z w (A4::A0::A1::A2::A3::l):=h.perm (List.perm_middle (l₁:=[A0,A1,A2,A3])).symm
theorem St.p5{A0 A1 A2 A3 A4 A5:As}(h:St w0 M Z w (A0::A1::A2::A3::A4::A5::l)):St w0 M Z w (A5::A0::A1::A2::A3::A4::l):=h.perm (List.perm_middle (l₁:=[A0,A1,A2,A3,A4])).symm
theorem St.p6{A0 A1 A2 A3 A4 A5 A6:As}(h:St w0 M Z w (A0::A1::A2::A3::A4::A5::A6::l)):St w0 M Z w (A6::A0::A1::A2::A3::A4::A5::l):=h.perm (List.perm_middle (l₁:=[A0,A1,A2,A3,A4,A5])).symm
theorem St.p7{A0 A1 A2 A3 A4 A5 A6 A7:As}(h:St w0 M Z w (A0::A1::A2::A3::A4::A5::A6::A7::l)):St w0 M Z w (A7::A0::A1::A2::A3::A4::A5::A6::l):=h.perm (List.perm_middle (l₁:=[A0,A1,A2,A3,A4,A5,A6])).symm
theorem St.p8{A0 A1 A2 A3 A4 A5 A6 A7 A8:As}(h:St w0 M Z w (A0::A1::A2::A3::A4::A5::A6::A7::A8::l)):St w0 M Z w (A8::A0::A1::A2::A3::A4::A5::A6::A7::l):=h.perm (List.perm_middle (l₁:=[A0,A1,A2,A3,A4,A5,A6,A7])).symm
theorem St.p9{A0 A1 A2 A3 A4 A5 A6 A7 A8 A9:As}(h:St w0 M Z w (A0::A1::A2::A3::A4::A5::A6::A7::A8::A9::l)):St w0 M Z w (A9::A0::A1::A2::A3::A4::A5::A6::A7::A8::l):=h.perm (List.perm_middle (l₁:=[A0,A1,A2,A3,A4,A5,A6,A7,A8])).symm
theorem St.oU{A0 A1 A2 A3 A4 A5 A6 A7 A8 A9 ir:As}(h:St w0 M Z w (A0::A1::A2::A3::A4::A5::A6::A7::A8::A9::ir::l)):St w0 M Z w (ir::A0::A1::A2::A3::A4::A5::A6::A7::A8::A9::l):=h.perm (List.perm_middle (l₁:=[A0,A1,A2,A3,A4,A5,A6,A7,A8,A9])).symm
theorem St.nZ{A0 A1 A2 A3 A4 A5 A6 A7 A8 A9 ir j4:As}(h:St w0 M Z w (A0::A1::A2::A3::A4::A5::A6::A7::A8::A9::ir::j4::l)):St w0 M Z w (j4::A0::A1::A2::A3::A4::A5::A6::A7::A8::A9::ir::l):=h.perm (List.perm_middle (l₁:=[A0,A1,A2,A3,A4,A5,A6,A7,A8,A9,ir])).symm
theorem St.oV{A0 A1 A2 A3 A4 A5 A6 A7 A8 A9 ir j4 mE:As}(h:St w0 M Z w (A0::A1::A2::A3::A4::A5::A6::A7::A8::A9::ir::j4::mE::l)):St w0 M Z w (mE::A0::A1::A2::A3::A4::A5::A6::A7::A8::A9::ir::j4::l):=h.perm (List.perm_middle (l₁:=[A0,A1,A2,A3,A4,A5,A6,A7,A8,A9,ir,j4])).symm
theorem St.Bl{A0 A1 A2 A3 A4 A5 A6 A7 A8 A9 ir j4 mE f:As}(h:St w0 M Z w (A0::A1::A2::A3::A4::A5::A6::A7::A8::A9::ir::j4::mE::f::l)):St w0 M Z w (f::A0::A1::A2::A3::A4::A5::A6::A7::A8::A9::ir::j4::mE::l):=h.perm (List.perm_middle (l₁:=[A0,A1,A2,A3,A4,A5,A6,A7,A8,A9,ir,j4,mE])).symm
theorem St.Qv{A0 A1 A2 A3 A4 A5 A6 A7 A8 A9 ir j4 mE f j:As}(h:St w0 M Z w (A0::A1::A2::A3::A4::A5::A6::A7::A8::A9::ir::j4::mE::f::j::l)):St w0 M Z w (j::A0::A1::A2::A3::A4::A5::A6::A7::A8::A9::ir::j4::mE::f::l):=h.perm (List.perm_middle (l₁:=[A0,A1,A2,A3,A4,A5,A6,A7,A8,A9,ir,j4,mE,f])).symm
theorem St.p15{A0 A1 A2 A3 A4 A5 A6 A7 A8 A9 ir j4 mE f j o:As}(h:St w0 M Z w (A0::A1::A2::A3::A4::A5::A6::A7::A8::A9::ir::j4::mE::f::j::o::l)):St w0 M Z w (o::A0::A1::A2::A3::A4::A5::A6::A7::A8::A9::ir::j4::mE::f::j::l):=h.perm (List.perm_middle (l₁:=[A0,A1,A2,A3,A4,A5,A6,A7,A8,A9,ir,j4,mE,f,j])).symm
end
/-! what may be said -/
def As.blk(b T:Nat) (cs:List Value):As where
 fp x:=x=b
 ok _ w:=bC w b T cs
 lt h x hx:=by subst hx;exact h.lt
 mono _ h:=h
 st hs hc h:=by
  have h':_=_:=h
  show _=_
  grind
def As.map{κ:Type}(enc:κ→Value) (b:Nat) (l:List (κ × Value)):As where
 fp x:=x=b
 ok _ w:=KM enc w b l
 lt h x hx:=by subst hx;exact h.lt
 mono _ h:=h
 st hs hc h:=by
  have hl:=h.lt;obtain⟨es,c,h1,h2⟩:=h;exact⟨es,c,by rw [hc b (.inl rfl) hl];exact h1,h2⟩
structure RR (α:Type) where
 r:(Nat→Prop)→World→α→List Value→Prop
 mono:∀{Z Z':Nat→Prop}{w x row},(∀x,Z x→Z' x)→r Z w x row→r Z' w x row
 st:∀{Z:Nat→Prop}{w w':World}{x row},w.heap.size≤w'.heap.size→(∀x,Z x→x<w.heap.size→w'.heap[x]?=w.heap[x]?)→r Z w x row→r Z w' x row
 cut:∀{Z:Nat→Prop}{w:World}{x row},r Z w x row→r (fun b=>Z b∧b<w.heap.size) w x row
theorem SL.st{Z:Nat→Prop}{w w':World}{k n c:Nat}{a:Option Addr}{cs:List Value}(f:w.heap.size≤w'.heap.size) (hc:∀x,Z x→x<w.heap.size→w'.heap[x]?=w.heap[x]?) (h:SL Z w k a n c cs):SL Z w' k a n c cs:=by
 refine⟨h.len,h.le,h.one,?_⟩
 rcases h.at_ with h1 | ⟨b,o,h1,p,q,r,s,t⟩
 ·
  exact .inl h1
 exact .inr ⟨b,o,h1,p,q,r,Nat.lt_of_lt_of_le s f,fun j v z=>by rw [← t j v z];grind [World.cell?_of_block]⟩
theorem SR.st{α:Type}{R f:α→List Value→Prop}{Z:Nat→Prop}{w w':World}{k n c:Nat}{a:Option Addr}{xs:List α}(j:w.heap.size≤w'.heap.size) (hc:∀x,Z x→x<w.heap.size→w'.heap[x]?=w.heap[x]?) (o:∀x r,R x r→f x r)
  (h:SR Z w k R a n c xs):SR Z w' k f a n c xs:=by
 obtain⟨hn,rows,hl,hk,h1,p⟩:=h;exact⟨hn,rows,hl,hk,SL.st j hc h1,fun i x r h1 q=>o x r (p i x r h1 q)⟩
def RR.flat{α:Type}(f:α→List Value):RR α:=⟨fun _ _ x row=>row=f x,fun _ h=>h,fun _ _ h=>h,fun h=>h⟩
def Rd{α:Type}(R:RR α) (k:Nat) (Z:Nat→Prop) (w:World) (a:Option Addr) (n c:Nat) (xs:List α):Prop:=SR Z w k (R.r Z w) a n c xs
theorem Rd.mono{α:Type}{R:RR α}{k:Nat}{Z Z':Nat→Prop}{w:World}{a:Option Addr}{n c:Nat}{xs:List α}(f:∀x,Z x→Z' x) (h:Rd R k Z w a n c xs):Rd R k Z' w a n c xs:=
 SR.mono h (fun b hb _=>f b hb) fun _ _=>R.mono f
theorem Rd.st{α:Type}{R:RR α}{k:Nat}{Z:Nat→Prop}{w w':World}{a:Option Addr}{n c:Nat}{xs:List α}(f:w.heap.size≤w'.heap.size) (hc:∀x,Z x→x<w.heap.size→w'.heap[x]?=w.heap[x]?) (h:Rd R k Z w a n c xs):Rd R k Z w' a n c xs:=
 SR.st f hc (fun _ _=>R.st f hc) h
theorem Rd.len{α:Type}{R:RR α}{k:Nat}{Z:Nat→Prop}{w:World}{a:Option Addr}{n c:Nat}{xs:List α}(h:Rd R k Z w a n c xs):n=xs.length:=SR.len h
theorem Rd.le{α:Type}{R:RR α}{k:Nat}{Z:Nat→Prop}{w:World}{a:Option Addr}{n c:Nat}{xs:List α}(h:Rd R k Z w a n c xs):n≤140737488355328:=SR.le h
theorem Rd.at{α:Type}{R:RR α}{k:Nat}{Z:Nat→Prop}{w:World}{a:Option Addr}{n c:Nat}{xs:List α}(h:Rd R k Z w a n c xs) {i:Nat}(hi:i<xs.length) :
  ∃b o r,a=some ⟨b,o,none⟩∧r.length=k∧R.r Z w xs[i] r∧w.rangeAt b (o+i*k) r∧Z b:=SR.at h (List.getElem?_eq_getElem hi)
theorem Rd.ext{α:Type}{R:RR α}{k:Nat}{Z:Nat→Prop}{w w':World}{a:Option Addr}{n c:Nat}{xs:List α}(h:Rd R k Z w a n c xs) (s:aQ [] w w'):Rd R k Z w' a n c xs:=
 h.st s.size fun x _ f=>s.block x f (by simp)
theorem Rd.cut{α:Type}{R:RR α}{k:Nat}{Z:Nat→Prop}{w:World}{a:Option Addr}{n c:Nat}{xs:List α}(h:Rd R k Z w a n c xs):Rd R k (fun b=>Z b∧b<w.heap.size) w a n c xs:=
 SR.mono h (fun _ hb f=>⟨hb,f⟩) fun _ _ h=>R.cut h
theorem Rd.nil{α:Type}(R:RR α) (k:Nat) (Z:Nat→Prop) (w:World):Rd R k Z w none 0 0 []:=SR.nil _ _ _ _
def As.ro{α:Type}(R:RR α) (k:Nat) (a:Option Addr) (n c:Nat) (xs:List α):As where
 fp _:=False
 ok Z w:=Rd R k Z w a n c xs
 lt _ _ hx:=hx.elim
 mono hZ h:=Rd.mono hZ h
 st hs hc h:=Rd.st hs (fun x hx=>hc x (.inr hx)) h
def Ow{α:Type}(R:RR α) (E k:Nat) (Z:Nat→Prop) (w:World) (a:Option Addr) (n c:Nat) (xs:List α):Prop:=OR 0 w E k (R.r Z w) a n c xs
theorem OL.st{base:Nat}{w w':World}{E k n c:Nat}{a:Option Addr}{cs:List Value}(hc:∀x,x∈bN a→x<w.heap.size→w'.heap[x]?=w.heap[x]?) (h:OL base w E k a n c cs):OL base w' E k a n c cs:=by
 refine⟨h.1,h.2.1,?_⟩;have j:=h.lt
 rcases h.2.2 with hn | ⟨g,cap,cur,h1,f,o,rest⟩
 ·
  exact .inl hn
 simp at h1
 obtain⟨rfl,rfl⟩:=h1;exact .inr ⟨g,c,cur,rfl,f,by grind [bN],rest⟩
def As.os{α:Type}(R:RR α) (E k:Nat) (a:Option Addr) (n c:Nat) (xs:List α):As where
 fp x:=x∈bN a
 ok Z w:=Ow R E k Z w a n c xs
 lt h:=OR.lt h
 mono hZ h:=by
  obtain⟨hn,rows,hl,hk,h1,hx⟩:=h;exact⟨hn,rows,hl,hk,h1,fun i x r h1 h2=>R.mono hZ (hx i x r h1 h2)⟩
 st hs hc h:=by
  obtain⟨hn,rows,hl,hk,h1,hx⟩:=h;exact⟨hn,rows,hl,hk,OL.st (fun x hx=>hc x (.inl hx)) h1,fun i x r h1 h2=>R.st hs (fun x hx=>hc x (.inr hx)) (hx i x r h1 h2)⟩
theorem As.Ho{α:Type}(R:RR α) (E k:Nat) (Z:Nat→Prop) (w:World):(As.os R E k none 0 0 []).ok Z w:=OR.nil _ _ _ _ _
theorem As.DY{α:Type}(R:RR α) (E k n c:Nat) (xs:List α):∀x,¬(As.os R E k none n c xs).fp x:=fun x f=>by simp [As.os,bN] at f
section
variable {w0 w w':World}{M Z Z':Nat→Prop}{l:List As}{α:Type}{R:RR α}
theorem St.dG(h:St w0 M Z w l) {b T:Nat}{cs:List Value}(f:uE w w' b) (hb:bC w' b T cs):St w0 M Z w' (As.blk b T cs::l):=
 h.new f.ext hb fun x j=>by have h1:x=b:=j;subst h1;exact f.nt (aQ.refl [] _)
theorem St.Hp{κ:Type}{enc:κ→Value}(h:St w0 M Z w l) {b:Nat}{cs:List (κ × Value)}(f:uE w w' b) (hb:KM enc w' b cs):St w0 M Z w' (As.map enc b cs::l):=
 h.new f.ext hb fun x j=>by have h1:x=b:=j;subst h1;exact f.nt (aQ.refl [] _)
theorem St.Hq{b T j:Nat}{cs o:List Value}(h:St w0 M Z w (As.blk b T cs::l)) (s:aQ [b] w w') (hb:bC w' b j o):St w0 M Z w' (As.blk b j o::l):=
 h.gS (s.p.mono fun x _ f=>by simpa [As.blk] using f) hb fun x f=>.inl f
theorem St.kM{κ:Type}{enc:κ→Value}{b:Nat}{cs j:List (κ × Value)}(h:St w0 M Z w (As.map enc b cs::l)) (s:aQ [b] w w') (hb:KM enc w' b j):St w0 M Z w' (As.map enc b j::l):=
 h.gS (s.p.mono fun x _ f=>by simpa [As.map] using f) hb fun x f=>.inl f
theorem St.gx(h:St w0 M Z w l) (R:RR α) (E k:Nat):St w0 M Z w (As.os R E k none 0 0 []::l):=h.fact (As.Ho _ _ _ _ _) (As.DY _ _ _ _ _ _)
theorem St.gK{E k n c o q:Nat}{a f:Option Addr}{xs t:List α}(h:St w0 M Z w (As.os R E k a n c xs::l)) (s:aQ (bN a) w w') (z:OR 0 w' E k (R.r Z w) f o q t) (C:∀x∈bN f,x∈bN a∨w.heap.size≤x) :
  St w0 M Z w' (As.os R E k f o q t::l):=by
 refine h.gS (s.p.mono fun x _ j=>j) ?_ C;obtain⟨hn,rows,hl,hk,h1,j⟩:=z;refine⟨hn,rows,hl,hk,h1,fun i x r h1 D=>R.st s.size (fun x F G=>?_) (j i x r h1 D)⟩
 exact s.block x G fun hm=>h.ks (As.os R E k a n c xs) (by simp) x hm F
theorem St.n0(h:St w0 M Z w l) {E k n c:Nat}{a:Option Addr}{xs:List α}(s:aQ [] w w') (f:Ow R E k Z w' a n c xs) (j:∀x∈bN a,w.heap.size≤x):St w0 M Z w' (As.os R E k a n c xs::l):=h.new s f j
theorem Ow.rd{E k n c:Nat}{a:Option Addr}{xs:List α}(h:Ow R E k Z w a n c xs) (hle:xs.length≤140737488355328):Rd R k (fun x=>Z x∨x∈bN a) w a n c xs:=by
 obtain⟨hn,rows,hl,hk,h1,j⟩:=h;refine⟨hn,rows,hl,hk,?_,fun i x r h1 o=>R.mono (fun _ h=>.inl h) (j i x r h1 o)⟩;have f:=h1.sl (A:=fun _=>True) (fun _ _=>trivial) (by omega);refine⟨f.len,f.le,f.one,?_⟩
 grind [SL.at_,bN]
theorem St.dM{E k n c:Nat}{a:Option Addr}{xs:List α}(h:St w0 M Z w (As.os R E k a n c xs::l)) (hle:xs.length≤140737488355328):St w0 M (fun x=>Z x∨x∈bN a) w (As.ro R k a n c xs::l):=
 h.freeze (A:=As.os R E k a n c xs) (B:=As.ro R k a n c xs) (Ow.rd (h.g0) hle) fun _ f=>f
theorem eI.uS{n:Nat}{Z F:Nat→Prop}(h:∀x,F x→n≤x):eI n Z (fun x=>Z x∨F x):=⟨fun _ h=>.inl h,fun x f=>by grind⟩
theorem Ow.len{E k n c:Nat}{a:Option Addr}{xs:List α}(h:Ow R E k Z w a n c xs):n=xs.length:=OR.len h
theorem As.gb{b T:Nat}{cs:List Value}(h:(As.blk b T cs).ok Z w):bC w b T cs:=h
theorem As.gm{κ:Type}{enc:κ→Value}{b:Nat}{cs:List (κ × Value)}(h:(As.map enc b cs).ok Z w):KM enc w b cs:=h
theorem As.gs{E k n c:Nat}{a:Option Addr}{xs:List α}(h:(As.os R E k a n c xs).ok Z w):Ow R E k Z w a n c xs:=h
theorem As.gr{k n c:Nat}{a:Option Addr}{xs:List α}(h:(As.ro R k a n c xs).ok Z w):Rd R k Z w a n c xs:=h
end
theorem aQ.p0{M:Nat→Prop}{w w':World}(h:aQ [] w w'):fD M w w':=h.p.mono (by simp)
theorem St.cg{w0 w:World}{Z:Nat→Prop}{l:List As}(h:St w0 (fun _=>False) Z w l):aQ [] w0 w:=h.cH.cH (fun _ h=>h.elim)
theorem St.cu{w0 w:World}{M Z:Nat→Prop}{l:List As}(h:St w0 M Z w l):∀x,nY l x→x<w.heap.size:=fun x ⟨A,f,j⟩=>A.lt (h.ok A f) x j
def As.rg(b o:Nat) (r:List Value):As where
 fp _:=False
 ok Z w:=Z b∧b<w.heap.size∧w.rangeAt b o r
 lt _ _ hx:=hx.elim
 mono hZ h:=⟨hZ _ h.1,h.2⟩
 st hs hc h:=⟨h.1,Nat.lt_of_lt_of_le h.2.1 hs,fun j v hv=>by rw [← h.2.2 j v hv];grind [World.cell?_of_block]⟩
theorem As.DZ{α:Type}{R:RR α}{k n c:Nat}{a:Option Addr}{xs:List α}{Z:Nat→Prop}{w:World}(h:Rd R k Z w a n c xs):(As.ro R k a n c xs).ok Z w:=h
theorem St.gg{w w':World}{Z:Nat→Prop}{l:List As}{A:As}(h:St w (nY []) Z w' (A::l)):∀x,A.fp x→w.heap.size≤x:=fun x f=>by
 rcases h.lg A (by simp) x f with⟨B,j,_⟩ | h1
 ·
  cases j
 exact h1
theorem As.mF{w:World}{Z:Nat→Prop}{b o:Nat}{r:List Value}(h:(As.rg b o r).ok Z w):w.rangeAt b o r:=h.2.2
theorem As.Ls{w:World}{Z:Nat→Prop}{b o:Nat}{r:List Value}(h:Z b) (f:b<w.heap.size) (hr:w.rangeAt b o r):(As.rg b o r).ok Z w:=⟨h,f,hr⟩
theorem RR.bp{α:Type}{f:α→List Value}{Z:Nat→Prop}{w:World}{x:α}{r:List Value}(h:(RR.flat f).r Z w x r):r=f x:=h
section
variable {P:Program}{n:Nat}{kv:KV}{w:World}{Q:Exit→Act→World→Prop}{w0:World}{M Z:Nat→Prop}
theorem WC.bq{σ:Type}{c:Code}{rest:List As}{cX:σ→KV}{F:σ→List As}{I:σ→Prop}{μ:σ→Nat}(f:σ) (j:St w0 M Z w (F f++rest)) (o:Sub kv (cX f)) (p:I f)
  (round:∀s w',St w0 M Z w' (F s++rest)→I s→WC P c (Exit.then (fun q r=>∃h,Fr n q (cX h)∧(St w0 M Z r (F h++rest)∧I h)∧μ h<μ s) Q) n (cX s) w'):WC P (.loop c) Q n kv w:=
 WC.loop (σ:=σ) (cX:=cX) (I:=fun s w'=>St w0 M Z w' (F s++rest)∧I s) (μ:=μ) f o ⟨j,p⟩ fun s w' ⟨h1,t⟩=>round s w' h1 t
theorem WC.lG{σ:Type}{c:Code}{rest:List As}{cX:σ→KV}{F:σ→List As}{I:σ→Prop}{μ:σ→Nat}{Zf:σ→Nat→Prop}(f:σ) (j:St w0 M (Zf f) w (F f++rest)) (o:Sub kv (cX f)) (p:I f)
  (round:∀s w',St w0 M (Zf s) w' (F s++rest)→I s→WC P c (Exit.then (fun q r=>∃h,Fr n q (cX h)∧(St w0 M (Zf h) r (F h++rest)∧I h)∧μ h<μ s) Q) n (cX s) w'):WC P (.loop c) Q n kv w:=
 WC.loop (σ:=σ) (cX:=cX) (I:=fun s w'=>St w0 M (Zf s) w' (F s++rest)∧I s) (μ:=μ) f o ⟨j,p⟩ fun s w' ⟨h1,t⟩=>round s w' h1 t
theorem WC.eC{c:Code}{t:Nat}{v:Value}{l:List As}(_hst:St w0 M Z w l) (h:WC P c (ns n t v kv fun f=>St w0 M Z f l) n kv w) (j:∀w',St w0 M Z w' l→EX Q .normal n ((t,v)::kv) w'):WC P c Q n kv w:=
 WC.nX (fun f=>St w0 M Z f l) h j
theorem WC.iT{c:Code}{t:Nat}{v:Value}{l:List As}(_hst:St w0 M Z w l) (h:WC P c (ns n t v (fl t kv) fun f=>St w0 M Z f l) n kv w) (j:∀w',St w0 M Z w' l→EX Q .normal n ((t,v)::fl t kv) w'):WC P c Q n kv w:=
 WC.oI (fun f=>St w0 M Z f l) h j
theorem WC.Hr{id m:Nat}{l:List Oper}{ls:List As}(T:Nat→World→World→Prop) {E:Nat→Option (Value→World→Prop)}(h:St w0 M Z w ls)
  (o:∀i S,E i=some S→∀j p,E j=some p→j≠i→j∉fZ l.toArray i→∀v w1 w2,(w.heap.size≤w1.heap.size∧St w0 M Z w1 ls)→(w.heap.size≤w2.heap.size∧St w0 M Z w2 ls)→T j w1 w2→S v w1→S v w2) (hm:P.follows .mixedOrders=true) (q:uI l m []=true)
  (r:DW P l.toArray n (fun f=>w.heap.size≤f.heap.size∧St w0 M Z f ls) T E (fun kv w=>WL P l.toArray Q (l.drop m) n kv w) 0 (l.take m) kv []):WC P (.region id l.toArray true) Q n kv w:=
 WC.drawn (C:=fun f=>w.heap.size≤f.heap.size∧St w0 M Z f ls) (T:=T) o hm q ⟨Nat.le_refl _,h.step (aQ.drew [] w)⟩ r
theorem WC.dN{id m:Nat}{l:List Oper}{ls:List As}{E:Nat→Option (Value→World→Prop)}(h:St w0 M Z w ls)
  (o:∀i S,E i=some S→∀j p,E j=some p→j≠i→j∉fZ l.toArray i→∀v w1 w2,(w.heap.size≤w1.heap.size∧St w0 M Z w1 ls)→(w.heap.size≤w2.heap.size∧St w0 M Z w2 ls)→fD (nY ls) w1 w2→S v w1→S v w2) (hm:P.follows .mixedOrders=true) (q:uI l m []=true)
  (r:DW P l.toArray n (fun f=>w.heap.size≤f.heap.size∧St w0 M Z f ls) (fun _=>fD (nY ls)) E (fun kv w=>WL P l.toArray Q (l.drop m) n kv w) 0 (l.take m) kv []):WC P (.region id l.toArray true) Q n kv w:=
 WC.drawn (C:=fun f=>w.heap.size≤f.heap.size∧St w0 M Z f ls) (T:=fun _=>fD (nY ls)) o hm q ⟨Nat.le_refl _,h.step (aQ.drew [] w)⟩ r
end
def PB(N T:Nat) (cs:List Value) (v:Value) (w:World):Prop:=∃b,v=.pointer (some ⟨b,0,none⟩)∧N≤b∧bC w b T cs
theorem PB.st{N T:Nat}{cs:List Value}{F:Nat→Prop}(j:∀x,F x→x<N) {v:Value}{w w':World}(c:fD F w w') (h:PB N T cs v w):PB N T cs v w':=by
 obtain⟨b,h1,o,f⟩:=h;exact⟨b,h1,o,by have p:_=_:=f;show _=_;rw [c.block b f.lt fun q=>by have:=j b q;omega];exact p⟩
theorem PB.get{N T b:Nat}{cs:List Value}{w:World}(h:PB N T cs (.pointer (some ⟨b,0,none⟩)) w):N≤b∧bC w b T cs:=by
 obtain⟨b',h1,f,j⟩:=h
 grind
theorem St.add{w0 w:World}{M Z:Nat→Prop}{l:List As}{B:As}{N:Nat}(h:St w0 M Z w l) (o:B.ok Z w) (p:∀x,B.fp x→N≤x) (hl:∀x,nY l x→x<N) (r:∀x,Z x→x<N) (h0:w0.heap.size≤N):St w0 M Z w (B::l) where
 cH:=h.cH
 kc:=h.kc
 ks A f x j q:=by
  simp only [List.mem_cons] at f
  rcases f with rfl | f
  ·
   grind
  exact h.ks A f x j q
 lg A f x j:=by
  simp only [List.mem_cons] at f
  rcases f with rfl | f
  ·
   grind
  exact h.lg A f x j
 rC:=List.pairwise_cons.2 ⟨fun A f x j hb=>by have:=p x j;have:=hl x ⟨A,f,hb⟩;omega,h.rC⟩
 ok A f:=by
  simp only [List.mem_cons] at f
  rcases f with rfl | f
  ·
   exact o
  exact h.ok A f
theorem St.Hs{w0 w:World}{M Z:Nat→Prop}{l:List As}{N b T:Nat}{cs:List Value}(h:St w0 M Z w l) (f:PB N T cs (.pointer (some ⟨b,0,none⟩)) w) (hl:∀x,nY l x→x<N) (j:∀x,Z x→x<N) (h0:w0.heap.size≤N):St w0 M Z w (As.blk b T cs::l):=
 h.add (B:=As.blk b T cs) f.get.2 (fun x o=>by have h1:x=b:=o;subst h1;exact f.get.1) hl j h0
theorem St.same{w0 w w':World}{M Z:Nat→Prop}{l:List As}{A:As}(h:St w0 M Z w l) (f:A∈l) (s:fD A.fp w w') (j:A.ok Z w'):St w0 M Z w' l:=by
 obtain⟨p,q,rfl⟩:=List.append_of_mem f;exact((h.perm List.perm_middle.symm).gS s j fun x o=>.inl o).perm List.perm_middle
theorem D0{l:List As}{A:As}(f:A∈l) {x:Nat}(h:A.fp x):nY l x:=⟨A,f,h⟩
theorem St.Qw{α:Type}{R:RR α}{w0 w:World}{M Z:Nat→Prop}{l:List As}{E k n c:Nat}{a:Option Addr}{xs f:List α}(h:St w0 M Z w (As.os R E k a n c xs::l)) (e:xs=f):St w0 M Z w (As.os R E k a n c f::l):=by subst e;exact h
theorem Ow.addr{α:Type}{R:RR α}{w:World}{Z:Nat→Prop}{E k n c i:Nat}{a:Option Addr}{xs:List α}{y:α}(h:Ow R E k Z w a n c xs) (f:xs[i]?=some y):∃b,a=some ⟨b,0,none⟩:=by
 obtain⟨hn,rows,hl,hk,h1,_⟩:=h
 grind [OL.cases]
theorem Ow.n5{α:Type}{f:α→List Value}{w:World}{Z:Nat→Prop}{E k n c i b o:Nat}{a:Option Addr}{xs:List α}{y:α}(h:Ow (RR.flat f) E k Z w a n c xs) (hle:xs.length≤140737488355328) (p:a=some ⟨b,o,none⟩) (q:xs[i]?=some y):w.rangeAt b (o+i*k) (f y):=by
 obtain⟨b',t,r,h1,_,j,s,_⟩:=SR.at (Ow.rd h hle) q;rw [p] at h1
 simp at h1
 obtain⟨rfl,rfl⟩:=h1;have j:r=f y:=j;subst j;exact s
section
variable {P:Program}{n:Nat}{kv:KV}{w:World}{Q:Exit→Act→World→Prop}
theorem Fr.eqv{a:Act}{t:Nat}{v v':Value}(f:Fr n a kv) (h:look kv t=some v) (e:v=v'):Fr n a ((t,v')::kv):=⟨f.size,f.ju,fun s u hu=>by
 simp only [look] at hu
 cases hb:Nat.beq t s with
 | true=>rw [hb] at hu;simp at hu;have:t=s:=Nat.eq_of_beq_eq_true hb;subst this;rw [← hu,← e];exact f.val t v h
 | false=>rw [hb] at hu;exact f.val s u hu⟩
theorem WC.eqv{c:Code}{t:Nat}{v v':Value}(h:look kv t=some v) (e:v=v') (k:WC P c Q n ((t,v')::kv) w):WC P c Q n kv w:=fun a f=>k a (f.eqv h e)
end
section
variable {κ:Type} [DecidableEq κ] {enc:κ→Value}{P:Program}{kt e ty T:TypeId}{w:World}{b:Nat}{l:List (κ × Value)}{kv:KV}
theorem PV.bD(f:KK P kt enc) (hT:P.underlying T=some (.map kt e)) {z:Value}(h:∀w,(zeroValue e).run P w=.ok z w) (hb:KM enc w b l) {x y:Operand}{k:κ}{v:Value}(j:bw l k=some v) (o:ev kv x=some (.map (some b))) (p:ev kv y=some (enc k)):PV P (.lookup T x y false) ty kv w v:=by
 have:=PV.look (ty:=ty) f hT h hb o p
 rw [j] at this;exact this
end
end Go.Rc

namespace Go.Rc
open Go
theorem n9:∀(rows:List (List Value)) (k i f:Nat) (v:Value) (row:List Value),(∀r∈rows,r.length=k)→rows[i]?=some row→f<k→(rows.set i (row.set f v)).flatten=rows.flatten.set (i*k+f) v:=by
 intro rows
 induction rows with
 | nil=>intro k i f v row _ h;simp at h
 | cons x xs o=>
  intro k i f v row hk h p;have j:x.length=k:=hk x (by simp)
  cases i with
  | zero=>
   simp at h;subst h
   simp only [List.set_cons_zero,List.flatten_cons,Nat.zero_mul,Nat.zero_add];rw [List.set_append_left _ _ (by omega)]
  | succ i=>
   simp only [List.set_cons_succ,List.flatten_cons];rw [o k i f v row (fun r hr=>hk r (by simp [hr])) (by simpa using h) p,List.set_append_right _ _ (by rw [j,Nat.succ_mul];omega)]
   congr 2
   rw [j,Nat.succ_mul];omega
theorem oW:∀(rows:List (List Value)) (k i:Nat) (us:List Value),(∀r∈rows,r.length=k)→i<rows.length→us.length=k→(rows.set i us).flatten=rows.flatten.take (i*k)++us++rows.flatten.drop (i*k+k):=by
 intro rows
 induction rows with
 | nil=>intro k i us _ h;simp at h
 | cons x xs f=>
  intro k i us hk h hu;have j:x.length=k:=hk x (by simp)
  cases i with
  | zero=>
   simp only [List.set_cons_zero,List.flatten_cons,Nat.zero_mul,Nat.zero_add,List.take_zero,List.nil_append];rw [List.drop_append_of_le_length (by omega),List.drop_of_length_le (by omega),List.nil_append]
  | succ i=>
   simp only [List.set_cons_succ,List.flatten_cons];rw [f k i us (fun r hr=>hk r (by simp [hr])) (by simpa using h) hu]
   have e:(i+1)*k=x.length+i*k:=by rw [j,Nat.succ_mul];omega
   rw [e,List.take_length_add_append,Nat.add_assoc,List.drop_length_add_append]
   simp
section
variable {α:Type}{R:RR α}{P:Program}{E k n c i b:Nat}{a:Option Addr}{xs:List α}{u u':α}{Z:Nat→Prop}{w:World}
theorem Ow.at{R:RR α}(h:Ow R E k Z w a n c xs) (hle:xs.length≤140737488355328) (p:xs[i]?=some u):∃b r,a=some ⟨b,0,none⟩∧r.length=k∧R.r Z w u r∧w.rangeAt b (0+i*k) r:=by
 obtain⟨hn,rows,hl,hk,h1,q⟩:=h;have hi:=(List.getElem?_eq_some_iff.1 p).1;have s:=h1.sl (A:=fun _=>True) (fun _ _=>trivial) (by omega)
 rcases h1.cases with⟨_,j,_⟩ | ⟨g,cur,j,_⟩
 ·
  omega
 obtain⟨r,hr⟩:∃r,rows[i]?=some r:=⟨rows[i],by simp [hl,hi]⟩
 rcases s.at_ with⟨f,_⟩ | ⟨b',o,f,_,_,_,_,t⟩
 ·
  rw [j] at f;cases f
 rw [j] at f;simp at f;obtain⟨rfl,rfl⟩:=f;exact⟨g,r,j,hk r (List.mem_of_getElem? hr),q i u r p hr,kH t (i*k) r (jy rows k i r hk hr)⟩
variable {N:Nat}{kv:KV}{K:KV→World→Prop}{ty:TypeId}{pos:String}{af:Array Edge}{g:Option (Nat × Bool)}{T:TypeId}
theorem OX.RO{x y:Operand}{f:Nat}{v:Value}(hT:(P.info? T).map (·.size)=some 1) (h:Ow R E k Z w a n c xs) (q:a=some ⟨b,0,none⟩) (hu:xs[i]?=some u) (H:f<k) (s:ev kv x=some (.pointer (some ⟨b,0+i*k+f,none⟩))) (D:ev kv y=some v)
  (h1:v.oneCell'=true) (u':α) (I:∀r,r.length=k→R.r Z w u r→R.r Z w u' (r.set f v)) (J:∀w',aQ (bN a) w w'→OR 0 w' E k (R.r Z w) a n c (xs.set i u')→K kv w'):OX P ⟨none,.store T x y,ty,pos,af,g⟩ N kv w K:=by
 obtain⟨hn,rows,hl,hk,t,F⟩:=h;have hi:=(List.getElem?_eq_some_iff.1 hu).1;obtain⟨row,C⟩:∃r,rows[i]?=some r:=⟨rows[i],by simp [hl,hi]⟩;have G:=hk row (List.mem_of_getElem? C)
 rcases t.cases with⟨p,_⟩ | ⟨b',cur,p,L,O,V,W,Y,h8⟩
 ·
  rw [q] at p;cases p
 rw [q] at p;simp at p;subst p;subst q
 have hb:bC w b E cur.toList:=by simpa [bC] using O
 have rD:i*k+f<cur.toList.length:=by
  have:(i+1)*k≤c*k:=Nat.mul_le_mul_right _ (by omega)
  rw [Nat.succ_mul] at this
  simp;omega
 have gV:=yB (P:=P) hT hb rD h1;refine⟨rfl,rfl,by simp [known,opers,s,D],?_⟩
 have Ht:0+i*k+f=i*k+f:=by omega
 rw [Ht] at s;simp only [execOp,aH s,aH D,Sem.run_bind,gV,Result.andThen_ok];refine J _ (iP _ _ _) ⟨by simp [hn],rows.set i (row.set f v),by simp [hl],?_,?_,?_⟩
 ·
  intro r hr
  rcases List.mem_or_eq_of_mem_set hr with hr | rfl
  ·
   exact hk r hr
  simp [G]
 ·
  rw [n9 rows k i f v row hk C H];refine⟨fun z o=>?_,by simpa using t.2.1,.inr ⟨b,c,_,rfl,L,setRow_heap w b _ _ E _ hb,V,W,by simp [Y],?_⟩⟩
  ·
   rcases List.mem_or_eq_of_mem_set o with o | rfl
   ·
    exact t.1 z o
   exact h1
  rw [← h8]
  simp [List.take_set]
 intro j z r o hr
 by_cases e:i=j
 ·
  subst e;rw [List.getElem?_set,if_pos rfl,if_pos hi] at o;rw [List.getElem?_set,if_pos rfl,if_pos (by omega)] at hr
  simp at o hr
  subst o hr;exact I row G (F i u row hu C)
 rw [List.getElem?_set,if_neg e] at o hr;exact F j z r o hr
theorem OX.Lt{x y:Operand}{us:List Value}(hT:(P.info? T).map (·.size)=some k) (h:Ow R E k Z w a n c xs) (t:a=some ⟨b,0,none⟩) (hi:i<xs.length) (D:ev kv x=some (.pointer (some ⟨b,0+i*k,none⟩))) (H:ev kv y=some (.agg us.toArray))
  (hlen:us.length=k) (h1:∀v∈us,v.oneCell'=true) (u':α) (I:R.r Z w u' us) (J:∀w',aQ (bN a) w w'→OR 0 w' E k (R.r Z w) a n c (xs.set i u')→K kv w'):OX P ⟨none,.store T x y,ty,pos,af,g⟩ N kv w K:=by
 obtain⟨hn,rows,hl,hk,q,L⟩:=h
 rcases q.cases with⟨o,_⟩ | ⟨b',cur,o,O,V,F,W,Y,h8⟩
 ·
  rw [t] at o;cases o
 rw [t] at o;simp at o;subst o;subst t
 have hb:bC w b E cur.toList:=by simpa [bC] using V
 have hmul:(i+1)*k≤n*k:=Nat.mul_le_mul_right _ (by omega);have XJ:n*k≤c*k:=Nat.mul_le_mul_right _ F;rw [Nat.succ_mul] at hmul
 have Ht:0+i*k=i*k:=by omega
 rw [Ht] at D
 refine OX.XA hT hb D H hlen (by simp;omega) h1 rfl fun w' c1 _ hb'=>J w' c1 ⟨by simp [hn],rows.set i us,by simp [hl],?_,?_,?_⟩
 ·
  intro r hr
  rcases List.mem_or_eq_of_mem_set hr with hr | rfl
  ·
   exact hk r hr
  exact hlen
 ·
  have Kz:rows.flatten.length=n*k:=q.2.1;rw [oW rows k i us hk (by omega) hlen]
  have G:cur.toList.length=c*k:=by simp [Y]
  refine⟨fun z f=>?_,?_,.inr ⟨b,c,_,rfl,O,hb',F,W,?_,?_⟩⟩
  ·
   simp only [List.mem_append] at f
   rcases f with(f | f) | f
   ·
    exact q.1 z (List.mem_of_mem_take f)
   ·
    exact h1 z f
   exact q.1 z (List.mem_of_mem_drop f)
  ·
   rw [List.length_append,List.length_append,List.length_take,List.length_drop,Kz,hlen];omega
  ·
   simp only [List.size_toArray,List.length_append,List.length_take,List.length_drop,G];omega
  rw [← h8]
  apply List.ext_getElem?
  intro j;simp only [List.getElem?_take,List.getElem?_append,List.getElem?_drop,List.length_append,List.length_take,G,hlen]
  have e1:min (i*k) (c*k)=i*k:=by omega
  have e2:min (i*k) (min (n*k) (c*k))=i*k:=by omega
  simp only [e1,e2]
  by_cases C:j<n*k
  ·
   rw [if_pos C]
   by_cases s:j<i*k+k
   ·
    rw [if_pos s,if_pos s]
    by_cases p:j<i*k
    ·
     rw [if_pos p,if_pos p,if_pos p,if_pos p,if_pos C]
    rw [if_neg p,if_neg p]
   rw [if_neg s,if_neg s,if_pos (by omega)]
  rw [if_neg C,if_neg (by omega),if_neg (by omega)]
 intro j z r f hr
 by_cases e:i=j
 ·
  subst e;rw [List.getElem?_set,if_pos rfl,if_pos (by omega)] at f hr
  simp at f hr
  subst f hr;exact I
 rw [List.getElem?_set,if_neg e] at f hr;exact L j z r f hr
end
end Go.Rc

namespace Go.Rc
open Go
variable {α:Type}{R:RR α}{E k n c N:Nat}{a:Option Addr}{xs:List α}{Z:Nat→Prop}{w w':World}
section
variable {P:Program}{kv:KV}{K:KV→World→Prop}{d:Tmp}{ty:TypeId}{pos:String}{af:Array Edge}{g:Option (Nat × Bool)}{T bytes mm:Nat}
end
section
variable {P:Program}{n:Nat}{kv:KV}{w:World}{K:KV→World→Prop}{d:Tmp}{ty:TypeId}{pos:String}{af:Array Edge}{g:Option (Nat × Bool)}{op:Op}{v:Value}
theorem OX.pv(h:PV P op ty kv w v) (f:Nat.blt d n=true) (j:K ((d,v)::kv) w):OX P ⟨some d,op,ty,pos,af,g⟩ n kv w K:=⟨h.1,f,h.2.1,by rw [h.2.2];exact j⟩
end
section
variable {κ:Type} [DecidableEq κ] {enc:κ→Value}{P:Program}{kt e ty T:TypeId}{w:World}{b:Nat}{l:List (κ × Value)}{kv:KV}
theorem PV.jD(f:KK P kt enc) (hT:P.underlying T=some (.map kt e)) {z:Value}(h:∀w,(zeroValue e).run P w=.ok z w) (hb:KM enc w b l) {x y:Operand}{k:κ}{v:Value}(j:(bw l k).getD z=v) (o:ev kv x=some (.map (some b))) (p:ev kv y=some (enc k)):PV P (.lookup T x y false) ty kv w v:=by
 have:=PV.look (ty:=ty) f hT h hb o p
 rw [j] at this;exact this
end
theorem St.rb{w:World}{M Z:Nat→Prop}(h:St w M Z w []):St w (fun _=>False) Z w []:=St.start h.kc
theorem St.wk{w0 w:World}{M Z:Nat→Prop}{l:List As}(h:St w0 (fun _=>False) Z w l):St w0 M Z w l:=h.Lr fun _ _ h=>h.elim
theorem St.fresh{w0 w:World}{Z:Nat→Prop}{l:List As}{A:As}(h:St w0 (fun _=>False) Z w (A::l)):∀x,A.fp x→w0.heap.size≤x:=fun x f=>by
 rcases h.lg A (by simp) x f with h1 | h1
 ·
  exact h1.elim
 exact h1
end Go.Rc

namespace Go.Rc
open Go
section
variable {P:Program}{Q:Exit→Act→World→Prop}{n:Nat}{kv:KV}{w0 w:World}{M Z:Nat→Prop}
theorem St.rE{A B:As}{l:List As}(h:St w0 M Z w (A::l)) (e:A=B):St w0 M Z w (B::l):=by subst e;exact h
def PS(N T len:Nat) (cs:List Value) (v:Value) (w:World):Prop:=∃b,v=.slice (some ⟨b,0,none⟩) len len∧N≤b∧bC w b T cs
theorem PS.st{N T len:Nat}{cs:List Value}{F:Nat→Prop}(j:∀x,F x→x<N) {v:Value}{w w':World}(c:fD F w w') (h:PS N T len cs v w):PS N T len cs v w':=by
 obtain⟨b,h1,o,f⟩:=h;exact⟨b,h1,o,by have p:_=_:=f;show _=_;rw [c.block b f.lt fun q=>by have:=j b q;omega];exact p⟩
theorem PS.pb{N T len b:Nat}{cs:List Value}{w:World}(h:PS N T len cs (.slice (some ⟨b,0,none⟩) len len) w):PB N T cs (.pointer (some ⟨b,0,none⟩)) w:=by
 obtain⟨b',h1,f,j⟩:=h
 simp at h1;subst h1;exact⟨_,rfl,f,j⟩
end
end Go.Rc

namespace Go.Rc
open Go
inductive Kd where
 | pure
 | side (sh:Value→Prop) (it:Value→As)
 | chain
def Kd.E:Kd→Option (Value→World→Prop)
 | .pure=>none
 | .side sh _=>some fun v _=>sh v
 | .chain=>some fun _ _=>True
def lh(ops:Array Oper) (aV:Nat→Value):List Nat→KV→KV
 | [],kv=>kv
 | j::r,kv=>lh ops aV r (gS kv (dT ops j) (aV j))
theorem ox(ops:Array Oper) (aV:Nat→Value):∀(a b:List Nat) (kv:KV),lh ops aV (a++b) kv=lh ops aV b (lh ops aV a kv)
 | [],_,_=>rfl
 | _::r,b,_=>ox ops aV r b _
theorem iu{ops:Array Oper}{aV bz:Nat→Value}:∀{l:List Nat}{kv:KV},(∀j∈l,aV j=bz j)→lh ops aV l kv=lh ops bz l kv
 | [],_,_=>rfl
 | j::r,kv,h=>by simp only [lh];rw [h j (by simp),iu fun x f=>h x (by simp [f])]
theorem oX{ops:Array Oper}{aV:Nat→Value}{t:Nat}{u:Value}:∀{l:List Nat}{kv:KV},look (lh ops aV l kv) t=some u→
  (∃j∈l,dT ops j=some t∧u=aV j)∨((∀j∈l,dT ops j≠some t)∧look kv t=some u)
 | [],_,h=>.inr ⟨by simp,h⟩
 | j::r,kv,h=>by
  rcases oX (l:=r) h with⟨x,f,h1,o⟩ | ⟨h1,o⟩
  ·
   exact .inl ⟨x,by simp [f],h1,o⟩
  rcases uG o with⟨p,q⟩ | ⟨p,q⟩
  ·
   exact .inl ⟨j,by simp,p,q⟩
  refine .inr ⟨fun x f=>?_,q⟩
  rcases List.mem_cons.1 f with rfl | f
  ·
   exact p
  exact h1 x f
def CG(w0:World) (M:Nat→Prop) (N:Nat) (dr:List As) (w:World):Prop:=N≤w.heap.size∧∃Z R,St w0 M Z w R∧∀A∈dr,A∈R
section
variable (P:Program) (ops:Array Oper) (n:Nat) (w0:World) (M:Nat→Prop) (N:Nat) (dr:List As) (K:Nat→Kd) (Fin:KV→World→Prop)
def DG:List Nat→KV→List (Nat × As)→(Nat→Prop)→List As→Prop
 | [],kv,sd,Z,ls=>∀w,N≤w.heap.size→St w0 M Z w (sd.map (·.2)++ls)→Fin kv w
 | i::l,kv,sd,Z,ls=>∃o,ops[i]?=some o∧aU o.op=false∧ll n o.dst=true∧
  ((gd ops kv o=some false∧DG l (gS kv o.dst undef) sd Z ls)∨
   (gd ops kv o=some true∧known kv o.op=true∧
   ((K i=.pure∧∃e,(∀w,CG w0 M N dr w→(execOp (gw kv) o).run P w=.ok (.value e) w)∧DG l (gS kv o.dst e) sd Z ls)∨
    (∃sh it,K i=.side sh it∧(∀w Zx R,N≤w.heap.size→St w0 M Zx w R→lp P ((execOp (gw kv) o).run P w) fun v w'=>w.heap.size≤w'.heap.size∧sh v∧St w0 M Zx w' (it v::R))∧
    (∀v,sh v→DG l (gS kv o.dst v) ((i,it v)::sd) Z ls))∨
    (K i=.chain∧∀w R,N≤w.heap.size→St w0 M Z w (ls++R)→(∀p∈sd,p.2∈R)→lp P ((execOp (gw kv) o).run P w) fun v w'=>w.heap.size≤w'.heap.size∧∃Z' RP,St w0 M Z' w' (RP++R)∧(∀A∈dr,A∈RP)∧
    DG l (gS kv o.dst v) sd Z' RP))))
end
structure Bm (ops:Array Oper) (m:Nat) (K:Nat→Kd) (σ:List Nat):Prop where
 lt:∀i∈σ,i<m
 all:∀i,i<m→i∈σ
 nd:σ.Nodup
 Hu:∀a i b,σ=a++i::b→∀o,ops[i]?=some o→∀d∈cx o,d∈a
 RQ:∀a i b,σ=a++i::b→K i=.chain→∀(D:Nat→Prop),(∀(j:Nat) o,D j→ops[j]?=some o→∀d∈cx o,D d)→(∀o,ops[i]?=some o→∀d∈cx o,D d)→∀j∈a,D j
theorem uT:∀{l SL:List (Nat × As)},(SL.map (·.1)).Nodup→(l.map (·.1)).Nodup→(∀q∈l,q∈SL)→∃ex,List.Perm SL (l++ex)
 | [],SL,_,_,_=>⟨SL,.refl _⟩
 | q::l,SL,h1,f,j=>by
  obtain⟨s,t,rfl⟩:=List.append_of_mem (j q (by simp));have o:List.Perm (s++q::t) (q::(s++t)):=List.perm_middle;have p:=(o.map (·.1)).nodup_iff.1 h1;simp only [List.map_cons,List.nodup_cons] at f p
  obtain⟨ex,he⟩:=uT p.2 f.2 fun x r=>by
   have:=j x (by simp [r])
   rcases List.mem_append.1 this with h | h
   ·
    exact List.mem_append_left _ h
   rcases List.mem_cons.1 h with rfl | h
   ·
    exact absurd (List.mem_map.2 ⟨x,r,rfl⟩) f.1
   exact List.mem_append_right _ h
  exact⟨ex,o.trans (.cons q he)⟩
theorem St.gp{w0 w:World}{M Z:Nat→Prop}:∀{ex l:List As},St w0 M Z w (l++ex)→St w0 M Z w l
 | [],l,h=>by simpa using h
 | A::ex,l,h=>by
  have h1:St w0 M Z w (A::(l++ex)):=h.perm (List.perm_middle.symm);exact St.gp h1.drop
section
variable {P:Program}{ops:Array Oper}{Q:Exit→Act→World→Prop}{n m N:Nat}{X σ:List Nat}{w0:World}{M:Nat→Prop}{dr:List As}{K:Nat→Kd}{Fin:KV→World→Prop}
theorem sF{a0 a:Act}{gI:KV}{C:World→Prop}{E:Nat→Option (Value→World→Prop)}(q:RegB ops m) (h0:Fr n a0 gI) {L:Nat→Bool}{aV bz:Nat→Value}{w:World}(r:Inv P ops n m C E a0 L aV a w)
  (D:∀j,L j=true→bz j=aV j) {i:Nat}{o:Oper}{τ:List Nat}(s:∀j∈τ,j<m) (hi:i<m) (z:ops[i]?=some o) (F:∀k∈cx o,L k=true) (G:∀k∈cx o,k∈τ):lq ops o a (lh ops bz τ gI):=by
 intro t v ht hl
 rcases oX hl with⟨j,h,f,rfl⟩ | ⟨H,I⟩
 ·
  have J:=q.waits i o hi z t ht j (s j h) f;have p:=F j J;rw [D j p];exact r.here j (s j h) p t f
 rw [r.qt t fun j h p f=>?_]
 ·
  exact h0.val t v I
 exact H j (G j (q.waits i o hi z t ht j h f)) f
abbrev IG(P:Program) (ops:Array Oper) (n m N:Nat) (w0:World) (M:Nat→Prop) (dr:List As) (K:Nat→Kd):=Inv P ops n m (CG w0 M N dr) (fun j=>(K j).E)
structure FG (P:Program) (ops:Array Oper) (n m N:Nat) (w0:World) (M:Nat→Prop) (dr:List As) (K:Nat→Kd) (Fin:KV→World→Prop) (gI:KV) (L:Nat→Bool) (aV:Nat→Value) (w:World) (τ ρ:List Nat) (sd SL:List (Nat × As)) (Z:Nat→Prop) (ls:List As):Prop where
 Lu:∀j∈τ,L j=true
 Lv:∀j∈ρ,K j=.chain→L j=false
 node:DG P ops n w0 M N dr K Fin ρ (lh ops aV τ gI) sd Z ls
 st:St w0 M Z w (SL.map (·.2)++ls)
 sub:∀A∈dr,A∈ls
 nd:(SL.map (·.1)).Nodup
 key:∀q∈SL,L q.1=true
 Lx:∀q∈sd,q∈SL
 Qx:(sd.map (·.1)).Nodup
 Qy:∀q∈sd,q.1∈τ
 own:∀j sh it,j<m→L j=true→K j=.side sh it→sh (aV j)→(j,it (aV j))∈SL
theorem Ly{a0 a:Act}{gI:KV}(Hv:RegB ops m) (h0:Fr n a0 gI) {L:Nat→Bool}{aV:Nat→Value}{w:World}(W:IG P ops n m N w0 M dr K a0 L aV a w)
  {SL:List As}(Hw:∀j sh it,j<m→L j=true→K j=.side sh it→sh (aV j)→it (aV j)∈SL) :
  ∀(f:List Nat) (τ:List Nat) (ρ:List Nat) (bz:Nat→Value) (sd:List (Nat × As)) (Z:Nat→Prop) (ls R:List As) (s:World),(∀j,L j=true→bz j=aV j)→(∀j∈τ++f,j<m)→(τ++f).Nodup→
   (∀x i y,f=x++i::y→∀o,ops[i]?=some o→∀d∈cx o,d∈τ++x)→(∀j∈f,K j=.chain→L j=false)→
   DG P ops n w0 M N dr K Fin (f++ρ) (lh ops bz τ gI) sd Z ls→N≤s.heap.size→St w0 M Z s (ls++R)→(∀A∈SL,A∈R)→(∀p∈sd,p.2∈R)→
   ∃bz sd Z ls,(∀j,L j=true→bz j=aV j)∧DG P ops n w0 M N dr K Fin ρ (lh ops bz (τ++f) gI) sd Z ls:=by
 intro f
 induction f with
 | nil=>intro τ ρ bz sd Z ls R s hv _ _ _ _ Y _ _ _ _;exact⟨bz,sd,Z,ls,hv,by simpa using Y⟩
 | cons i f ih=>
  intro τ ρ bz sd Z ls R s hv rD zs uU D1 Y t G C D;obtain⟨o,z,mA,su,jw⟩:=Y;have I:i<m:=rD i (by simp)
  have xf:dT ops i=o.dst:=by simp [dT,z]
  have KA:∀d∈cx o,d∈τ:=fun d hd=>by simpa using uU [] i f rfl o z d hd
  have Gk:i∉τ:=fun h=>by
   have:=(List.nodup_append.1 zs).2.2 i h i (by simp)
   exact this rfl
  have RU:∀j∈(τ++[i])++f,j<m:=fun j r=>rD j (by simpa using r)
  have RV:((τ++[i])++f).Nodup:=by simpa using zs
  have Hx:∀x k y,f=x++k::y→∀o,ops[k]?=some o→∀d∈cx o,d∈(τ++[i])++x:=fun x k y e o z d hd=>by
   have:=uU (i::x) k y (by rw [e];rfl) o z d hd
   simpa using this
  have next:∀u,lh ops (fun j=>if j=i then u else bz j) (τ++[i]) gI=gS (lh ops bz τ gI) o.dst u:=fun u=>by
   rw [ox,iu (bz:=bz) (l:=τ) fun j r=>by rw [if_neg fun e=>Gk (by rw [← e];exact r)]];simp only [lh,xf,if_true]
  have hv':∀u,(L i=true→u=aV i)→∀j,L j=true→(if j=i then u else bz j)=aV j:=fun u hu j r=>by
   by_cases e:j=i
   ·
    subst e;rw [if_pos rfl];exact hu r
   rw [if_neg e];exact hv j r
  have fin:∀u Bn Z' J R' F,(L i=true→u=aV i)→DG P ops n w0 M N dr K Fin (f++ρ) (gS (lh ops bz τ gI) o.dst u) Bn Z' J→N≤F.heap.size→St w0 M Z' F (J++R')→(∀A∈SL,A∈R')→(∀p∈Bn,p.2∈R')→
    ∃bz sd Z ls,(∀j,L j=true→bz j=aV j)∧DG P ops n w0 M N dr K Fin ρ (lh ops bz (τ++i::f) gI) sd Z ls:=fun u Bn Z' J R' F hu Y t G C D=>by
   have:=ih (τ++[i]) ρ (fun j=>if j=i then u else bz j) Bn Z' J R' F (hv' u hu) RU RV Hx (fun j r=>D1 j (by simp [r])) (by rw [next];exact Y) t G C D
   simpa using this
  have Qz:L i=true→lq ops o a (lh ops bz τ gI):=fun q=>sF Hv h0 W hv (fun j r=>rD j (by simp [r])) I z (W.closed i o I q z) KA
  rcases jw with⟨hg,O⟩ | ⟨hg,hk,jw⟩
  ·
   exact fin undef sd Z ls R s (fun q=>(W.no i o I q z ((Qz q).wanted hg)).symm) O t G C D
  rcases jw with⟨V,e,sw,O⟩ | ⟨sh,it,V,sG,O⟩ | ⟨V,sG⟩
  ·
   refine fin e sd Z ls R s (fun q=>?_) O t G C D;obtain⟨wj,Lh,Gh⟩:=W.Qq i o I q z ((Qz q).wanted hg) (by show(K i).E=none;rw [V];rfl);rw [(Qz q).exec mA hk,sw wj Lh] at Gh
   simpa using Gh
  ·
   by_cases q:L i=true
   ·
    have hs:sh (aV i):=W.ss i o (fun v _=>sh v) I q z ((Qz q).wanted hg) (by show(K i).E=_;rw [V];rfl)
    exact fin (aV i) _ Z ls R s (fun _=>rfl) (O _ hs) t G C (fun p H=>by
     rcases List.mem_cons.1 H with rfl | H
     ·
      exact C _ (Hw i sh it I q V hs)
     exact D p H)
   obtain⟨v,F,uV,hs,zt⟩:=(sG s Z _ t G).exists
   exact fin v _ Z ls (it v::R) F (fun h=>absurd h q) (O v hs) (Nat.le_trans t uV) (zt.perm List.perm_middle) (fun A hA=>by simp [C A hA]) (fun p H=>by
    rcases List.mem_cons.1 H with rfl | H
    ·
     simp
    simp [D p H])
  obtain⟨v,F,uV,Z',J,zt,_,QA⟩:=(sG s R t G D).exists;exact fin v sd Z' J R F (fun h=>by rw [D1 i (by simp) V] at h;cases h) QA (Nat.le_trans t uV) zt C D
theorem Gl{a0 a:Act}{gI:KV}(Hv:RegB ops m) (h0:Fr n a0 gI) {L:Nat→Bool}{aV:Nat→Value}{w:World}(G:IG P ops n m N w0 M dr K a0 L aV a w)
  {SL:List (Nat × As)}(Hw:∀j sh it,j<m→L j=true→K j=.side sh it→sh (aV j)→(j,it (aV j))∈SL) {Z:Nat→Prop}{ls:List As} :
  ∀(p:List Nat) (τ:List Nat) (ρ:List Nat) (sd:List (Nat × As)),(∀j∈τ++p,j<m)→(τ++p).Nodup→
   (∀x i y,p=x++i::y→∀o,ops[i]?=some o→∀d∈cx o,d∈τ++x)→(∀j∈p,L j=true)→(∀j∈p,K j=.chain→L j=false)→
   DG P ops n w0 M N dr K Fin (p++ρ) (lh ops aV τ gI) sd Z ls→(∀q∈sd,q∈SL)→(sd.map (·.1)).Nodup→(∀q∈sd,q.1∈τ)→
   ∃f,DG P ops n w0 M N dr K Fin ρ (lh ops aV (τ++p) gI) f Z ls∧(∀q∈f,q∈SL)∧(f.map (·.1)).Nodup∧(∀q∈f,q.1∈τ++p):=by
 intro p
 induction p with
 | nil=>intro τ ρ sd _ _ _ _ _ H h1 I C;exact⟨sd,by simpa using H,h1,I,by simpa using C⟩
 | cons i p ih=>
  intro τ ρ sd W zs uU lH D1 H h1 I C;obtain⟨o,s,mA,su,Y⟩:=H;have D:i<m:=W i (by simp)
  have xf:dT ops i=o.dst:=by simp [dT,s]
  have KA:∀d∈cx o,d∈τ:=fun d hd=>by simpa using uU [] i p rfl o s d hd
  have Gk:i∉τ:=fun h=>by
   have:=(List.nodup_append.1 zs).2.2 i h i (by simp)
   exact this rfl
  have t:=lH i (by simp)
  have next:lh ops aV (τ++[i]) gI=gS (lh ops aV τ gI) o.dst (aV i):=by rw [ox];simp only [lh,xf]
  have fin:∀f,DG P ops n w0 M N dr K Fin (p++ρ) (gS (lh ops aV τ gI) o.dst (aV i)) f Z ls→(∀q∈f,q∈SL)→(f.map (·.1)).Nodup→(∀q∈f,q.1∈τ++[i])→
    ∃f,DG P ops n w0 M N dr K Fin ρ (lh ops aV (τ++i::p) gI) f Z ls∧(∀q∈f,q∈SL)∧(f.map (·.1)).Nodup∧(∀q∈f,q.1∈τ++i::p):=fun f H g1 g2 g3=>by
   have:=ih (τ++[i]) ρ f (fun j z=>W j (by simpa using z)) (by simpa using zs) (fun x k y e o s d hd=>by
    have:=uU (i::x) k y (by rw [e];rfl) o s d hd
    simpa using this) (fun j z=>lH j (by simp [z])) (fun j z=>D1 j (by simp [z])) (by rw [next];exact H) g1 g2 g3
   simpa using this
  have O:lq ops o a (lh ops aV τ gI):=sF Hv h0 G (fun _ _=>rfl) (fun j z=>W j (by simp [z])) D s (G.closed i o D t s) KA
  rcases Y with⟨V,J⟩ | ⟨V,hk,Y⟩
  ·
   have:=G.no i o D t s (O.wanted V)
   exact fin sd (by rw [this];exact J) h1 I (fun q r=>by simp [C q r])
  rcases Y with⟨F,e,sw,J⟩ | ⟨sh,it,F,sG,J⟩ | ⟨F,sG⟩
  ·
   obtain⟨wj,Lh,Gh⟩:=G.Qq i o D t s (O.wanted V) (by show(K i).E=none;rw [F];rfl);rw [O.exec mA hk,sw wj Lh] at Gh
   have he:e=aV i:=by simpa using Gh
   exact fin sd (by rw [← he];exact J) h1 I (fun q r=>by simp [C q r])
  ·
   have hs:sh (aV i):=G.ss i o (fun v _=>sh v) D t s (O.wanted V) (by show(K i).E=_;rw [F];rfl);refine fin _ (J _ hs) (fun q r=>?_) ?_ (fun q r=>?_)
   ·
    rcases List.mem_cons.1 r with rfl | r
    ·
     exact Hw i sh it D t F hs
    exact h1 q r
   ·
    simp only [List.map_cons,List.nodup_cons];exact⟨fun h=>by obtain⟨q,r,e⟩:=List.mem_map.1 h;exact Gk (by rw [← e];exact C q r),I⟩
   rcases List.mem_cons.1 r with rfl | r
   ·
    simp
   simp [C q r]
  rw [D1 i (by simp) F] at t;cases t
theorem FG.pass{gI:KV}{L:Nat→Bool}{aV:Nat→Value}{w:World}{τ ρ:List Nat}{sd SL:List (Nat × As)}{Z:Nat→Prop}{ls:List As}(h:FG P ops n m N w0 M dr K Fin gI L aV w τ ρ sd SL Z ls) {i:Nat}{v:Value}(s:L i=false) (t:K i≠.chain) (z:∀sh it,K i=.side sh it→¬sh v) :
  FG P ops n m N w0 M dr K Fin gI (fun j=>if j=i then true else L j) (fun j=>if j=i then v else aV j) w τ ρ sd SL Z ls:=by
 have hit:i∉τ:=fun h1=>by have:=h.Lu i h1;rw [s] at this;cases this
 refine⟨fun j f=>?_,fun j f hc=>?_,?_,h.st,h.sub,h.nd,fun q C=>?_,h.Lx,h.Qx,h.Qy,fun j sh it f p r o=>?_⟩
 ·
  by_cases e:j=i <;> simp [e];exact h.Lu j f
 ·
  rw [if_neg fun e=>t (by rw [← e];exact hc)];exact h.Lv j f hc
 ·
  rw [iu (bz:=aV) fun j f=>by rw [if_neg fun e=>hit (by rw [← e];exact f)]];exact h.node
 ·
  by_cases e:q.1=i <;> simp [e];exact h.key q C
 by_cases e:j=i
 ·
  subst e;simp only [if_true] at o;exact absurd o (z sh it r)
 simp only [if_neg e] at p o ⊢;exact h.own j sh it f p r o
theorem FG.side{gI:KV}{L:Nat→Bool}{aV:Nat→Value}{w w':World}{τ ρ:List Nat}{sd SL:List (Nat × As)}{Z:Nat→Prop}{ls:List As}(h:FG P ops n m N w0 M dr K Fin gI L aV w τ ρ sd SL Z ls) {i:Nat}{v:Value}{sh:Value→Prop}{it:Value→As}(s:L i=false) (r:K i=.side sh it)
  (C:St w0 M Z w' (it v::(SL.map (·.2)++ls))) :
  FG P ops n m N w0 M dr K Fin gI (fun j=>if j=i then true else L j) (fun j=>if j=i then v else aV j) w' τ ρ sd ((i,it v)::SL) Z ls:=by
 have hit:i∉τ:=fun h1=>by have:=h.Lu i h1;rw [s] at this;cases this
 refine⟨fun j f=>?_,fun j f hc=>?_,?_,C,h.sub,?_,fun q o=>?_,fun q o=>by simp [h.Lx q o],h.Qx,h.Qy,fun j D F f t p z=>?_⟩
 ·
  by_cases e:j=i <;> simp [e];exact h.Lu j f
 ·
  rw [if_neg fun e=>by rw [← e,hc] at r;cases r];exact h.Lv j f hc
 ·
  rw [iu (bz:=aV) fun j f=>by rw [if_neg fun e=>hit (by rw [← e];exact f)]];exact h.node
 ·
  simp only [List.map_cons,List.nodup_cons];exact⟨fun hm=>by(obtain⟨q,o,e⟩:=List.mem_map.1 hm;have:=h.key q o;rw [e,s] at this;exact Bool.noConfusion this),h.nd⟩
 ·
  rcases List.mem_cons.1 o with rfl | o
  ·
   simp
  by_cases e:q.1=i <;> simp [e];exact h.key q o
 by_cases e:j=i
 ·
  subst e;rw [r] at p;simp only [Kd.side.injEq] at p;obtain⟨rfl,rfl⟩:=p
  simp
 simp only [if_neg e] at t z ⊢;exact List.mem_cons_of_mem _ (h.own j D F f t p z)
theorem agG{a0 a:Act}{gI:KV}(H:RegB ops m) (q:Bm ops m K σ) (h0:Fr n a0 gI) {L:Nat→Bool}{aV:Nat→Value}{w:World}{τ ρ:List Nat}{sd SL:List (Nat × As)}{Z:Nat→Prop}{ls:List As}(r:σ=τ++ρ) (I:IG P ops n m N w0 M dr K a0 L aV a w) (s:FG P ops n m N w0 M dr K Fin gI L aV w τ ρ sd SL Z ls)
  {i:Nat}{o:Oper}(t:i<m) (z:ops[i]?=some o) (C:L i=false):∃f p,ρ=f++i::p∧(∀j∈τ++f,j<m)∧((τ++f)++i::p).Nodup∧(∀k∈cx o,k∈τ++f):=by
 have D:i∈τ++ρ:=by rw [← r];exact q.all i t
 have F:i∈ρ:=by
  rcases List.mem_append.1 D with h | h
  ·
   have:=s.Lu i h;rw [C] at this;cases this
  exact h
 obtain⟨f,p,hr⟩:=List.append_of_mem F
 have e:σ=(τ++f)++i::p:=by rw [r,hr,List.append_assoc]
 exact⟨f,p,hr,fun j G=>q.lt j (by rw [e];exact List.mem_append_left _ G),by rw [← e];exact q.nd,q.Hu (τ++f) i p e o z⟩
theorem stepG{a0:Act}{gI:KV}{Q':Exit→Act→World→Prop}(XK:∀x∈X,K x=.pure) (V:DL ops m X) (I:Bm ops m K σ) (hsh:∀j sh it,K j=.side sh it→¬sh undef) (h0:Fr n a0 gI) (hQ:X=[]∨∀c a w,¬Q' (.panic c) a w) :
  ∀(fuel:Nat) (listed:Array Bool) (a:Act) (w:World),listed.size=ops.size→left (fun j=>listed.getD j false) ops.size≤fuel→(∀j,m≤j→listed.getD j false=false)→
  (∃aV τ ρ sd SL Z ls,σ=τ++ρ∧IG P ops n m N w0 M dr K a0 (fun j=>listed.getD j false) aV a w∧FG P ops n m N w0 M dr K (fun kv w=>WL P ops Q' (ops.toList.drop m) n kv w) gI (fun j=>listed.getD j false) aV w τ ρ sd SL Z ls)→wpAny P .any ops Q' fuel listed a w:=by
 have Lz:∀{τ ρ:List Nat},σ=τ++ρ→∀j∈τ++ρ,j<m:=fun e j f=>I.lt j (by rw [e];exact f);refine AX (J:=fun L a w=>∃aV τ ρ sd SL Z ls,σ=τ++ρ∧IG P ops n m N w0 M dr K a0 L aV a w∧FG P ops n m N w0 M dr K (fun kv w=>WL P ops Q' (ops.toList.drop m) n kv w) gI L aV w τ ρ sd SL Z ls) V hQ (fun L a w ⟨aV,_,_,_,_,_,_,_,s,_⟩ j p f hL D=>s.closed j p f hL D) ?_ ?_
 ·
  intro L a w ⟨aV,τ,ρ,sd,SL,Z,ls,z,s,r⟩ lH;obtain⟨Bn,hD,h1,h2,_⟩:=Gl (ρ:=[]) V.toRegB h0 s (fun j sh it f yD F z=>r.own j sh it f yD F z) ρ τ sd (Lz z) (by rw [← z];exact I.nd) (fun x i y e=>I.Hu (τ++x) i y (by rw [z,e,List.append_assoc])) (fun j f=>lH j (Lz z j (List.mem_append_right _ f))) r.Lv (by simpa using r.node) r.Lx r.Qx r.Qy;obtain⟨ex,D⟩:=uT r.nd h2 h1
  have yE:List.Perm ((Bn.map (·.2)++ls)++ex.map (·.2)) (SL.map (·.2)++ls):=by
   have h3:List.Perm (SL.map (·.2)) (Bn.map (·.2)++ex.map (·.2)):=by simpa using D.map (·.2)
   refine List.Perm.trans ?_ (h3.symm.append_right ls);rw [List.append_assoc,List.append_assoc];exact List.Perm.append_left _ List.perm_append_comm
  refine hD w s.c.1 ((r.st.perm yE).gp) a ⟨s.size,s.ju,fun t v hl=>?_⟩;rw [← z] at hl
  rcases oX hl with⟨j,f,RD,rfl⟩ | ⟨He,RF⟩
  ·
   exact s.here j (I.lt j f) (lH j (I.lt j f)) t RD
  rw [s.qt t fun j f _=>He j (I.all j f)];exact h0.val t v RF
 intro L a w i o ⟨aV,τ,ρ,sd,SL,Z,ls,z,s,r⟩ LA QB W LD hd;obtain⟨G,ρ2,hr,D2,qA,KA⟩:=agG V.toRegB I h0 z s r QB W LD;have LF:=(List.nodup_append.1 qA).1;have XL:=fun x j y (e:G=x++j::y)=>I.Hu (τ++x) j (y++i::ρ2) (by rw [z,hr,e];simp);have LG:=fun j (f:j∈G)=>r.Lv j (by rw [hr];simp [f]);have rq:=r.node;rw [hr] at rq;have put:=fun(v:Value) w'=>s.put (v:=v) (w':=w') V.toRegB QB W LD hd
 have ke:∀w' j S u,j<m→L j=true→(K j).E=some S→S u w→S u w':=fun w' j S u _ _ KB h=>by
  cases F:K j with
  | pure=>simp only [F,Kd.E] at KB;cases KB
  | side sh it=>simp only [F,Kd.E,Option.some.injEq] at KB;subst KB;exact h
  | chain=>simp only [F,Kd.E,Option.some.injEq] at KB;subst KB;trivial
 by_cases H:K i=.chain
 ·
  have hX:i∉X:=fun h=>by rw [XK i h] at H;cases H
  have Gm:∀j∈τ++G,L j=true:=I.RQ (τ++G) i ρ2 (by rw [z,hr,List.append_assoc]) H (fun j=>L j=true) (fun j p f D=>s.closed j p (by
   rcases Nat.lt_or_ge j m with h | h
   ·
    exact h
   rw [LA j h] at f;cases f) f D) (fun p D=>by rw [W] at D;simp at D;subst D;exact hd)
  have Gk:i∉τ++G:=fun h=>(List.nodup_append.1 qA).2.2 i h i (by simp) rfl
  have RW:i∉ρ2:=by have:=(List.nodup_append.1 qA).2.1;simp only [List.nodup_cons] at this;exact this.1
  obtain⟨Bn,⟨o',Gj,mA,su,jw⟩,h1,h2,h3⟩:=Gl (ρ:=i::ρ2) V.toRegB h0 s r.own G τ sd D2 LF XL (fun j f=>Gm j (by simp [f])) LG rq r.Lx r.Qx r.Qy;have O:lq ops o a (lh ops aV (τ++G) gI):=sF V.toRegB h0 s (fun _ _=>rfl) D2 QB W hd KA
  have eo:o'=o:=by rw [W] at Gj;exact(Option.some.inj Gj).symm
  subst eo
  have xf:dT ops i=o'.dst:=by simp [dT,W]
  have XM:∀v w' Z' Y,IG P ops n m N w0 M dr K a0 (fun j=>if j=i then true else L j) (fun j=>if j=i then v else aV j) (a.put o'.dst v) w'→St w0 M Z' w' (Y++SL.map (·.2))→(∀A∈dr,A∈Y)→DG P ops n w0 M N dr K (fun kv w=>WL P ops Q' (ops.toList.drop m) n kv w) ρ2 (gS (lh ops aV (τ++G) gI) o'.dst v) Bn Z' Y→
    ∃aV τ ρ sd SL Z ls,σ=τ++ρ∧IG P ops n m N w0 M dr K a0 (fun j=>if j=i then true else L j) aV (a.put o'.dst v) w'∧FG P ops n m N w0 M dr K (fun kv w=>WL P ops Q' (ops.toList.drop m) n kv w) gI (fun j=>if j=i then true else L j) aV w' τ ρ sd SL Z ls:=fun v w' Z' Y hI' gV D3 hD=>by
   refine⟨_,(τ++G)++[i],ρ2,Bn,SL,Z',Y,by rw [z,hr];simp,hI',fun j f=>?_,fun j f hc=>?_,?_,gV.perm List.perm_append_comm,D3,r.nd,fun q hq=>?_,h1,h2,fun q hq=>by simp only [List.mem_append];exact .inl (List.mem_append.1 (h3 q hq)),fun j sh it f yD F z=>?_⟩
   ·
    rcases List.mem_append.1 f with f | f
    ·
     show(if j=i then true else L j)=true
     split
     ·
      rfl
     exact Gm j f
    simp at f;simp [f]
   ·
    rw [if_neg fun e=>RW (by rw [← e];exact f)];exact r.Lv j (by rw [hr];simp [f]) hc
   ·
    rw [ox,iu (bz:=aV) (l:=τ++G) fun j f=>by rw [if_neg fun e=>Gk (by rw [← e];exact f)]];simp only [lh,xf,if_true];exact hD
   ·
    show(if q.1=i then true else L q.1)=true
    split
    ·
     rfl
    exact r.key q hq
   by_cases e:j=i
   ·
    subst e;rw [H] at F;cases F
   simp only [if_neg e] at yD z ⊢;exact r.own j sh it f yD F z
  rcases jw with⟨hg,LH⟩ | ⟨hg,hk,⟨C,_⟩ | ⟨sh,it,C,_⟩ | ⟨_,sG⟩⟩
  ·
   have hw:=O.wanted hg;exact .inl ⟨hw,XM undef w Z ls (put _ _ su s.c (fun _ _ _ _ _ _ h=>h) (fun _=>rfl) (fun h=>by rw [hw] at h;cases h) (fun S h=>by rw [hw] at h;cases h)) (r.st.perm List.perm_append_comm) r.sub LH⟩
  ·
   rw [H] at C;cases C
  ·
   rw [H] at C;cases C
  have hw:=O.wanted hg;refine .inr ⟨hw,?_,fun h=>absurd h hX⟩;rw [O.exec mA hk];refine(sG w (SL.map (·.2)) s.c.1 (r.st.perm List.perm_append_comm) (fun p D=>List.mem_map.2 ⟨p,h1 p D,rfl⟩)).mono fun v w' ⟨Hy,Z',Y,gV,D3,hD⟩=>?_;exact XM v w' Z' Y (put _ _ su ⟨Nat.le_trans s.c.1 Hy,Z',_,gV,fun A hA=>List.mem_append_left _ (D3 A hA)⟩ (ke _) (fun h=>by rw [hw] at h;cases h) (fun _ h=>by simp only [H,Kd.E] at h;cases h) (fun S' _ h=>by simp only [H,Kd.E,Option.some.injEq] at h;subst h;trivial)) gV D3 hD
 obtain⟨bz,Bn,Z',Y,hv,o',Gj,mA,su,jw⟩:=Ly V.toRegB h0 s (SL:=SL.map (·.2)) (fun j sh it f yD F z=>List.mem_map.2 ⟨_,r.own j sh it f yD F z,rfl⟩) G τ (i::ρ2) aV sd Z ls (SL.map (·.2)) w (fun _ _=>rfl) D2 LF XL LG rq s.c.1 (r.st.perm List.perm_append_comm) (fun A h=>h) (fun p D=>List.mem_map.2 ⟨p,r.Lx p D,rfl⟩);have O:=sF V.toRegB h0 s hv D2 QB W hd KA
 have eo:o'=o:=by rw [W] at Gj;exact(Option.some.inj Gj).symm
 subst eo
 rcases jw with⟨hg,_⟩ | ⟨hg,hk,⟨C,e,sw,_⟩ | ⟨sh,it,C,sG,_⟩ | ⟨C,_⟩⟩
 ·
  have hw:=O.wanted hg;exact .inl ⟨hw,_,τ,ρ,sd,SL,Z,ls,z,put _ _ su s.c (fun _ _ _ _ _ _ h=>h) (fun _=>rfl) (fun h=>by rw [hw] at h;cases h) (fun S h=>by rw [hw] at h;cases h),r.pass LD H (fun sh it h=>hsh i sh it h)⟩
 ·
  have hw:=O.wanted hg;have hr:=sw w s.c;rw [← O.exec mA hk] at hr;refine .inr ⟨hw,?_,fun _=>⟨e,hr⟩⟩;rw [hr];exact⟨_,τ,ρ,sd,SL,Z,ls,z,put _ _ su s.c (fun _ _ _ _ _ _ h=>h) (fun h=>by rw [hw] at h;cases h) (fun _ _=>⟨w,s.c,hr⟩) (fun S _ h=>by simp only [C,Kd.E] at h;cases h),r.pass LD H (fun sh it h=>by rw [C] at h;cases h)⟩
 ·
  have hw:=O.wanted hg;refine .inr ⟨hw,?_,fun h=>by rw [XK i h] at C;cases C⟩;rw [O.exec mA hk];refine(sG w Z _ s.c.1 r.st).mono fun v w' ⟨Hy,hs',gV⟩=>?_;exact⟨_,τ,ρ,sd,_,Z,ls,z,put _ _ su ⟨Nat.le_trans s.c.1 Hy,Z,_,gV,fun A hA=>by simp [r.sub A hA]⟩ (ke _) (fun h=>by rw [hw] at h;cases h) (fun _ h=>by simp only [C,Kd.E] at h;cases h) (fun S' _ h=>by simp only [C,Kd.E,Option.some.injEq] at h;subst h;exact hs'),r.side LD C gV⟩
 exact absurd C H
end
/-! ### the checks, and the walk -/
def jm:List Oper→Nat→Option Oper
 | [],_=>none
 | o::_,0=>some o
 | _::r,i+1=>jm r i
theorem iU:∀(l:List Oper) (i:Nat),jm l i=l[i]?
 | [],_=>rfl
 | _::_,0=>rfl
 | _::r,i+1=>by simp [jm,iU r i]
def yI(l:List Oper) (ms KC:List Nat):Nat→List Nat→Bool
 | _,[]=>true
 | k,i::r=>(match jm l i with | some o=>Nat.beq (Nat.land (im (cx o)) k) (im (cx o)) | none=>true) &&
  (match gn i KC with | true=>Nat.beq (Nat.land k (ms.getD i 0)) k | false=>true) && yI l ms KC (k ||| 2 ^ i) r
def Gn(l:List Oper) (m:Nat) (KC σ:List Nat):Bool:=
 σ.all (fun i=>Nat.blt i m) && (List.range m).all (fun i=>gn i σ) && decide σ.Nodup && yI l (kj l []) KC 0 σ
theorem oY{l:List Oper}{ms p:List Nat}:∀{σ:List Nat}{k:Nat}{a:List Nat},(∀d,k.testBit d=true↔d∈a)→yI l ms p k σ=true→∀x i y,σ=x++i::y→
  (∀o,l[i]?=some o→∀d∈cx o,d∈a++x)∧(gn i p=true→∀j∈a++x,(ms.getD i 0).testBit j=true)
 | [],_,_,_,_,x,i,y,e=>by simp at e
 | i0::r,k,a,hk,h,x,i,y,e=>by
  simp only [yI,Bool.and_eq_true] at h
  cases x with
  | nil=>
   simp only [List.nil_append,List.cons.injEq] at e;obtain⟨rfl,rfl⟩:=e;refine⟨fun o q d s=>?_,fun hc j t=>?_⟩
   ·
    have h1:=h.1.1;rw [iU,q] at h1;have he:(im (cx o)) &&& k=im (cx o):=Nat.eq_of_beq_eq_true h1;have f:=mz s;rw [← he,Nat.testBit_and] at f;simp only [Bool.and_eq_true] at f
    simpa using (hk d).1 f.2
   have h1:=h.1.2;rw [hc] at h1;have he:k &&& (ms.getD i0 0)=k:=Nat.eq_of_beq_eq_true h1;have f:=(hk j).2 (by simpa using t);rw [← he,Nat.testBit_and] at f;simp only [Bool.and_eq_true] at f;exact f.2
  | cons z x=>
   simp only [List.cons_append,List.cons.injEq] at e;obtain⟨rfl,e⟩:=e
   have:=oY (a:=a++[i0]) (fun d=>by
    simp only [Nat.testBit_or,Bool.or_eq_true,hk,Nat.testBit_two_pow,decide_eq_true_eq,List.mem_append,List.mem_singleton];exact or_congr_right eq_comm) h.2 x i y e
   simpa using this
inductive iv where
 | blk (T:TypeId) (cs:List Value)
 | map
 | sl (T:TypeId) (len:Nat) (cs:List Value)
 | val (p:Value→Prop)
def As.nil:As where
 fp _:=False
 ok _ _:=True
 lt _ _ hx:=hx.elim
 mono _ h:=h
 st _ _ h:=h
def iv.sh:iv→Value→Prop
 | .blk _ _,v=>∃b,v=.pointer (some ⟨b,0,none⟩)
 | .map,v=>∃b,v=.map (some b)
 | .sl _ len _,v=>∃b,v=.slice (some ⟨b,0,none⟩) len len
 | .val p,v=>v≠undef∧p v
def iv.it:iv→Value→As
 | .blk T cs,.pointer (some ⟨b,_,_⟩)=>As.blk b T cs
 | .map,.map (some b)=>As.map Key.val b []
 | .sl T _ cs,.slice (some ⟨b,_,_⟩) _ _=>As.blk b T cs
 | _,_=>As.nil
def nA:List (Nat × iv)→Nat→Kd
 | [],_=>.pure
 | (j,s)::r,i=>match Nat.beq j i with
  | true=>.side s.sh s.it
  | false=>nA r i
def zu(KC:List Nat) (LI:List (Nat × iv)) (i:Nat):Kd:=match gn i KC with
 | true=>.chain
 | false=>nA LI i
def Kd.iV:Kd→Bool
 | .pure=>true
 | _=>false
theorem Kd.yJ:∀{k:Kd},k.iV=true→k=.pure
 | .pure,_=>rfl
 | .side _ _,h=>by cases h
 | .chain,h=>by cases h
theorem oZ{i:Nat}{sh:Value→Prop}{it:Value→As}:∀{l:List (Nat × iv)},nA l i=.side sh it→∃s:iv,sh=s.sh
 | [],h=>by simp [nA] at h
 | (j,s)::r,h=>by
  simp only [nA] at h
  split at h
  ·
   simp only [Kd.side.injEq] at h;exact⟨s,h.1.symm⟩
  exact oZ h
theorem nB{i:Nat}:∀{l:List (Nat × iv)},nA l i≠.chain
 | [],h=>by simp [nA] at h
 | (j,s)::r,h=>by
  simp only [nA] at h
  split at h
  ·
   cases h
  exact nB h
section
variable {P:Program}{Q:Exit→Act→World→Prop}{n m N:Nat}{w0 w:World}{M Z:Nat→Prop}{ls dr:List As}{Fin:KV→World→Prop}
theorem WC.cz{id:Nat}{kv:KV}{l:List Oper}(X f σ:List Nat) (z:List (Nat × iv)) (O:St w0 M Z w ls) (h1:∀A∈dr,A∈ls) (hm:P.follows .mixedOrders=true) (V:uI l m X=true) (t:Gn l m f σ=true) (W:(X.all fun x=>(zu f z x).iV)=true)
  (Y:DG P l.toArray n w0 M w.heap.size dr (zu f z) (fun kv w=>WL P l.toArray (NP Q) (l.drop m) n kv w) σ kv [] Z ls):WC P (.region id l.toArray true) Q n kv w:=by
 intro a F
 refine wp_mono (Q:=NP Q) ?_ fun _ _ _ h=>h.2
 refine wp_region_any hm ?_;have I:=rp V;simp only [Gn,Bool.and_eq_true] at t
 have RX:Bm l.toArray m (zu f z) σ:=by
  have J:=oY (a:=[]) (fun d=>by simp) t.2;refine⟨fun i hi=>?_,fun i hi=>fH.1 (List.all_eq_true.1 t.1.1.2 i (by simpa using hi)),by simpa using t.1.2,fun x i y e o q d hd=>by simpa using (J x i y e).1 o (by simpa using q) d hd,fun x i y e hc D hD hk j G=>?_⟩
  ·
   have:=List.all_eq_true.1 t.1.1.1 i hi
   simp only [Nat.blt] at this
   have:=Nat.le_of_ble_eq_true this
   omega
  have LJ:gn i f=true:=by
   unfold zu at hc
   cases he:gn i f with
   | true=>rfl
   | false=>rw [he] at hc;exact absurd hc nB
  have hb:=(J x i y e).2 LJ j (by simpa using G)
  cases H:l[i]? with
  | none=>
   exfalso
   have h3:∀(l:List Oper) (acc:List Nat),(kj l acc).length=acc.length+l.length:=by
    intro l
    induction l with
    | nil=>intro acc;rfl
    | cons p r ih=>intro acc;simp only [kj];rw [ih];simp;omega
   have h2:(kj l [])[i]?=none:=List.getElem?_eq_none (by rw [h3];simpa using List.getElem?_eq_none_iff.1 H);rw [List.getD_eq_getElem?_getD,h2] at hb
   simp at hb
  | some o=>
   exact oH D l [] [] rfl (fun j o G q=>hD j o G (by simpa using q)) (fun k o q=>by simp at q) (fun k o q=>I.back k o (by simpa using q)) i o (by simpa using H) (hk o (by simpa using H)) j hb
 have C:=sz l;have L:St w0 M Z {w with drawn:=w.drawn+1} ls:=O.step (aQ.drew [] w);refine stepG (X:=X) (K:=zu f z) (fun x hx=>Kd.yJ (List.all_eq_true.1 W x hx)) I RX (fun j sh it h=>?_) F (.inr fun c _ _ h=>h.1 c rfl) l.toArray.size _ a _ (by simp) (sy _ _) (fun j _=>C j) ⟨fun _=>undef,[],σ,[],[],Z,ls,rfl,⟨⟨Nat.le_refl _,Z,ls,L,h1⟩,F.size,F.ju,?_,fun _ _=>rfl,?_,?_,?_,?_⟩,
  ⟨by simp,fun j _ _=>C j,by simpa [lh] using Y,by simpa using L,h1,by simp,by simp,by simp,by simp,by simp,fun j _ _ _ h=>by rw [C j] at h;cases h⟩⟩
 ·
  unfold zu at h
  split at h
  ·
   cases h
  obtain⟨s,rfl⟩:=oZ h;intro hu
  cases s <;> (simp only [iv.sh] at hu;first | (obtain⟨b,hb⟩:=hu;cases hb;done) | exact hu.1 rfl)
 all_goals (intro j;intros;rename_i h _ ;first | (have:=C j;simp_all;done) | skip)
variable {l:List Oper}{i:Nat}{σ':List Nat}{kv:KV}{sd:List (Nat × As)}{K:Nat→Kd}{d:Tmp}{op:Op}{ty:TypeId}{pos:String}{af:Array Edge}{g:Option (Nat × Bool)}
theorem DG.no(f:jm l i=some ⟨some d,op,ty,pos,af,g⟩) (h:gd l.toArray kv ⟨some d,op,ty,pos,af,g⟩=some false) (j:aU op=false) (o:Nat.blt d n=true)
  (next:DG P l.toArray n w0 M N dr K Fin σ' ((d,undef)::kv) sd Z ls):DG P l.toArray n w0 M N dr K Fin (i::σ') kv sd Z ls:=
 ⟨⟨some d,op,ty,pos,af,g⟩,by(rw [iU] at f;simpa using f),j,o,.inl ⟨h,next⟩⟩
theorem DG.p{v:Value}(j:jm l i=some ⟨some d,op,ty,pos,af,g⟩) (o:gd l.toArray kv ⟨some d,op,ty,pos,af,g⟩=some true) (q:aU op=false) (hk:known kv op=true) (r:Nat.blt d n=true) (s:(K i).iV=true)
  (h:∀w f R,N≤w.heap.size→St w0 M f w R→(∀A∈dr,A∈R)→PV P op ty kv w v)
  (next:DG P l.toArray n w0 M N dr K Fin σ' ((d,v)::kv) sd Z ls):DG P l.toArray n w0 M N dr K Fin (i::σ') kv sd Z ls:=
 ⟨⟨some d,op,ty,pos,af,g⟩,by(rw [iU] at j;simpa using j),q,r,.inr ⟨o,hk,.inl ⟨Kd.yJ s,v,fun w ⟨h1,f,R,t,z⟩=>(h w f R h1 t z).2.2 _ _ _ _,next⟩⟩⟩
theorem DG.side(s:iv) (j:jm l i=some ⟨some d,op,ty,pos,af,g⟩) (o:gd l.toArray kv ⟨some d,op,ty,pos,af,g⟩=some true) (p:aU op=false) (hk:known kv op=true) (q:Nat.blt d n=true) (r:K i=.side s.sh s.it)
  (h:∀w f R,N≤w.heap.size→St w0 M f w R→OX P ⟨some d,op,ty,pos,af,g⟩ n kv w fun t w'=>w.heap.size≤w'.heap.size∧∃v,t=(d,v)::kv∧s.sh v∧St w0 M f w' (s.it v::R))
  (next:∀v,s.sh v→DG P l.toArray n w0 M N dr K Fin σ' ((d,v)::kv) ((i,s.it v)::sd) Z ls):DG P l.toArray n w0 M N dr K Fin (i::σ') kv sd Z ls:=
 ⟨⟨some d,op,ty,pos,af,g⟩,by(rw [iU] at j;simpa using j),p,q,.inr ⟨o,hk,.inr (.inl ⟨s.sh,s.it,r,fun w f R h1 z=>(h w f R h1 z).2.2.2.mono fun v w' ⟨a,u,e,b,c⟩=>by
  simp only [gS,List.cons.injEq,Prod.mk.injEq,true_and,and_true] at e;subst e;exact⟨a,b,c⟩,next⟩)⟩⟩
theorem DG.c(j:jm l i=some ⟨some d,op,ty,pos,af,g⟩) (o:gd l.toArray kv ⟨some d,op,ty,pos,af,g⟩=some true) (q:aU op=false) (hk:known kv op=true) (r:Nat.blt d n=true) (s:K i=.chain)
  (h:∀w R,N≤w.heap.size→St w0 M Z w (ls++R)→(∀p∈sd,p.2∈R)→OX P ⟨some d,op,ty,pos,af,g⟩ n kv w fun t w'=>w.heap.size≤w'.heap.size∧∃v,t=(d,v)::kv∧∃Z' f,St w0 M Z' w' (f++R)∧(∀A∈dr,A∈f)∧
   DG P l.toArray n w0 M N dr K Fin σ' ((d,v)::kv) sd Z' f):DG P l.toArray n w0 M N dr K Fin (i::σ') kv sd Z ls:=
 ⟨⟨some d,op,ty,pos,af,g⟩,by(rw [iU] at j;simpa using j),q,r,.inr ⟨o,hk,.inr (.inr ⟨s,fun w R h1 z C=>(h w R h1 z C).2.2.2.mono fun v w' ⟨a,u,e,b⟩=>by
  simp only [gS,List.cons.injEq,Prod.mk.injEq,true_and,and_true] at e;subst e;exact⟨a,b⟩⟩)⟩⟩
theorem DG.nil(h:∀w,N≤w.heap.size→St w0 M Z w (sd.map (·.2)++ls)→Fin kv w):DG P l.toArray n w0 M N dr K Fin [] kv sd Z ls:=h
end
end Go.Rc

namespace Go.Rc
open Go
structure SV (w0:World) (M Z:Nat→Prop) (w:World) (l:List As):Prop where
 cH:fD M w0 w
 kc:∀x,Z x→x<w.heap.size
 ok:∀A∈l,A.ok Z w
section
variable {w0 w:World}{M Z:Nat→Prop}{l R ls:List As}{A0 A1 A2 A3 A4 A5 A6 A7 A8 A9 ir j4 mE:As}
theorem St.sv(h:St w0 M Z w R) (hi:∀A∈l,A∈R):SV w0 M Z w l:=⟨h.cH,h.kc,fun A f=>h.ok A (hi A f)⟩
theorem SV.g0(h:SV w0 M Z w (A0::l)):A0.ok Z w:=h.ok _ M0
theorem SV.tl(h:SV w0 M Z w (A0::l)):SV w0 M Z w l:=⟨h.cH,h.kc,fun A f=>h.ok A (.tail _ f)⟩
theorem SV.g1(h:SV w0 M Z w (A0::A1::l)):A1.ok Z w:=h.tl.g0
theorem SV.g2(h:SV w0 M Z w (A0::A1::A2::l)):A2.ok Z w:=h.tl.g1
theorem SV.g3(h:SV w0 M Z w (A0::A1::A2::A3::l)):A3.ok Z w:=h.tl.g2
theorem SV.g4(h:SV w0 M Z w (A0::A1::A2::A3::A4::l)):A4.ok Z w:=h.tl.g3
theorem SV.g5(h:SV w0 M Z w (A0::A1::A2::A3::A4::A5::l)):A5.ok Z w:=h.tl.g4
theorem SV.g6(h:SV w0 M Z w (A0::A1::A2::A3::A4::A5::A6::l)):A6.ok Z w:=h.tl.g5
theorem SV.g7(h:SV w0 M Z w (A0::A1::A2::A3::A4::A5::A6::A7::l)):A7.ok Z w:=h.tl.g6
theorem SV.g8(h:SV w0 M Z w (A0::A1::A2::A3::A4::A5::A6::A7::A8::l)):A8.ok Z w:=h.tl.g7
theorem SV.g9(h:SV w0 M Z w (A0::A1::A2::A3::A4::A5::A6::A7::A8::A9::l)):A9.ok Z w:=h.tl.g8
theorem SV.g10(h:SV w0 M Z w (A0::A1::A2::A3::A4::A5::A6::A7::A8::A9::ir::l)):ir.ok Z w:=h.tl.g9
theorem SV.g11(h:SV w0 M Z w (A0::A1::A2::A3::A4::A5::A6::A7::A8::A9::ir::j4::l)):j4.ok Z w:=h.tl.g10
theorem SV.g12(h:SV w0 M Z w (A0::A1::A2::A3::A4::A5::A6::A7::A8::A9::ir::j4::mE::l)):mE.ok Z w:=h.tl.g11
theorem av.nil:∀A∈([]:List As),A∈ls:=by simp
theorem av.cons(h:A0∈ls) (t:∀A∈l,A∈ls):∀A∈A0::l,A∈ls:=List.forall_mem_cons.2 ⟨h,t⟩
theorem aG.nil:R=[]++R:=rfl
theorem aG.cons{L:List As}(h:L=l++R):A0::L=(A0::l)++R:=by rw [h];rfl
end
section
variable {P:Program}{n m N:Nat}{w0 w:World}{M Z:Nat→Prop}{ls dr:List As}{Fin:KV→World→Prop}
variable {l:List Oper}{i:Nat}{σ':List Nat}{kv:KV}{sd:List (Nat × As)}{K:Nat→Kd}{d:Tmp}{op:Op}{ty:TypeId}{pos:String}{af:Array Edge}{g:Option (Nat × Bool)}
theorem DG.ch(j:jm l i=some ⟨some d,op,ty,pos,af,g⟩) (o:gd l.toArray kv ⟨some d,op,ty,pos,af,g⟩=some true) (q:aU op=false) (hk:known kv op=true) (r:Nat.blt d n=true) (s:K i=.chain)
  (h:∀w R,N≤w.heap.size→St w0 M Z w (ls++R)→(∀p∈sd,p.2∈R)→OX P ⟨some d,op,ty,pos,af,g⟩ n kv w fun t w'=>w.heap.size≤w'.heap.size∧∃v,t=(d,v)::kv∧∃Z' L f,St w0 M Z' w' L∧L=f++R∧(∀A∈dr,A∈f)∧
   DG P l.toArray n w0 M N dr K Fin σ' ((d,v)::kv) sd Z' f):DG P l.toArray n w0 M N dr K Fin (i::σ') kv sd Z ls:=
 DG.c j o q hk r s fun w R h1 z C=>by grind
theorem DG.cs(G:jm l i=some ⟨none,op,ty,pos,af,g⟩) (j:gd l.toArray kv ⟨none,op,ty,pos,af,g⟩=some true) (o:aU op=false) (hk:known kv op=true) (q:K i=.chain)
  (h:∀w R,N≤w.heap.size→St w0 M Z w (ls++R)→(∀p∈sd,p.2∈R)→OX P ⟨none,op,ty,pos,af,g⟩ n kv w fun r w'=>w.heap.size≤w'.heap.size∧r=kv∧∃Z' L f,St w0 M Z' w' L∧L=f++R∧(∀A∈dr,A∈f)∧
   DG P l.toArray n w0 M N dr K Fin σ' kv sd Z' f):DG P l.toArray n w0 M N dr K Fin (i::σ') kv sd Z ls:=
 ⟨⟨none,op,ty,pos,af,g⟩,by grind [iU],o,rfl,.inr ⟨j,hk,.inr (.inr ⟨q,fun w R h1 s t=>(h w R h1 s t).2.2.2.mono fun v w' ⟨a,_,Z',L,f,z,C,D,F⟩=>⟨a,Z',f,by rw [← C];exact z,D,F⟩⟩)⟩⟩
end
/-! ### loops of a known number of rounds -/
section
variable {P:Program}{c:Code}{Q:Exit→Act→World→Prop}{n m:Nat}{kv:KV}{w:World}
end
end Go.Rc

namespace Go.Rc
open Go
section
variable {P:Program}{kv:KV}{w:World}{T U ty:TypeId}{x y:Operand}
theorem lI{e:TypeId}(hT:P.underlying T=some (.pointer e)) (a:Option Addr):(Op.equalIn 10000 T (.pointer a) (.pointer none)).run P w=.ok (decide (a=none)) w:=by
 rw [show(10000:Nat)=9999+1 from rfl]
 unfold Op.equalIn
 cases a <;> simp [run_underlying hT]
theorem uW{e:TypeId}(hT:P.underlying T=some (.slice e)) (a:Option Addr) (n c:Nat):(Op.equalIn 10000 T (.slice a n c) (.slice none 0 0)).run P w=.ok (decide (a=none)) w:=by
 rw [show(10000:Nat)=9999+1 from rfl]
 unfold Op.equalIn
 cases a <;> simp [run_underlying hT]
theorem uX{e:Array String}(hT:∃ms,P.underlying T=some (.interface ms)):(Op.equalIn 10000 T .nilIface .nilIface).run P w=.ok true w:=by
 obtain⟨ms,hT⟩:=hT;rw [show(10000:Nat)=9999+1 from rfl]
 unfold Op.equalIn
 simp [run_underlying hT]
theorem PV.Hz{e:TypeId}{a:Option Addr}(hT:P.underlying T=some (.pointer e)) (f:ev kv x=some (.pointer a)) (h:ev kv y=some (.pointer none)):PV P (.binOp .eql T x y U) ty kv w (.bool (decide (a=none))):=
 ⟨rfl,by simp [known,opers,f,h],fun _ _ _ _=>by
  simp only [execOp,aH f,aH h]
  simp [eqGuard,binOp,Op.equal,Op.maxDepth,lI hT]⟩
theorem PV.HA{e:TypeId}{a:Option Addr}(hT:P.underlying T=some (.pointer e)) (f:ev kv x=some (.pointer a)) (h:ev kv y=some (.pointer none)):PV P (.binOp .neq T x y U) ty kv w (.bool (decide (a≠none))):=
 ⟨rfl,by simp [known,opers,f,h],fun _ _ _ _=>by
  simp only [execOp,aH f,aH h]
  simp [eqGuard,binOp,Op.equal,Op.maxDepth,lI hT]⟩
theorem PV.HB{e:TypeId}{a:Option Addr}{n c:Nat}(hT:P.underlying T=some (.slice e)) (f:ev kv x=some (.slice a n c)) (h:ev kv y=some (.slice none 0 0)):PV P (.binOp .eql T x y U) ty kv w (.bool (decide (a=none))):=
 ⟨rfl,by simp [known,opers,f,h],fun _ _ _ _=>by
  simp only [execOp,aH f,aH h]
  simp [eqGuard,binOp,Op.equal,Op.maxDepth,uW hT]⟩
theorem PV.HC(hT:∃ms,P.underlying T=some (.interface ms)) (f:ev kv x=some .nilIface):PV P (.binOp .neq T x (.const .nilIface) U) ty kv w (.bool false):=by
 have h:ev kv (.const .nilIface)=some .nilIface:=rfl;refine⟨rfl,by simp [known,opers,f,h],fun _ _ _ _=>?_⟩;simp only [execOp,aH f,aH h]
 simp [eqGuard,binOp,Op.equal,Op.maxDepth,uX (e:=#[]) hT]
end
section
variable {α:Type}{R:RR α}{P:Program}{E k c b:Nat}{a:Option Addr}{u u':α}{Z:Nat→Prop}{w:World}
variable {N:Nat}{kv:KV}{K:KV→World→Prop}{ty:TypeId}{pos:String}{af:Array Edge}{g:Option (Nat × Bool)}{T:TypeId}
theorem OX.sH{d:Tmp}{n:Nat}{E k:Nat}(hT:P.underlying T=some (.slice E)) (f:∀w,(sizeOf E).run P w=.ok k w) (j:Nat.blt d n=true)
  (h:∀b w',uE w w' b→bC w' b E []→K ((d,.slice (some ⟨b,0,none⟩) 0 0)::kv) w'):OX P ⟨some d,.buildSlice T 0 #[],ty,pos,af,g⟩ n kv w K:=by
 refine⟨rfl,j,rfl,?_⟩
 have hr:(execOp (gw kv) ⟨some d,.buildSlice T 0 #[],ty,pos,af,g⟩).run P w=.ok (.value (.slice (some ⟨w.heap.size,0,none⟩) 0 0)) (w.alloc (.cells #[] E)):=by
  simp only [execOp,Instr.buildSlice,Sem.run_bind,run_underlying hT,Result.andThen_ok,f w,Nat.zero_mul];rw [if_neg (by omega)];simp only [if_true,Sem.run_bind,Sem.run_pure,Result.andThen_ok]
  have o:Instr.fill (fun i=>some (i*k,k)) (Array.map (fun x=>(#[]:Array Value)[x % (#[]:Array Value).size]!) (Array.range 0)) (Array.map (fun x:Nat × Operand=>(x.fst,gw kv x.snd)) #[]).toList=some #[]:=by simp [Instr.fill]
  rw [o]
  rfl
 rw [hr];exact h _ _ ⟨gD _ _,Nat.le_refl _,by simp⟩ (il _ _)
theorem OR.HD{α:Type}{R:α→List Value→Prop}{base b E k:Nat}{w:World}(h:bC w b E []) (hb:base≤b):OR base w E k R (some ⟨b,0,none⟩) 0 0 []:=
 ⟨rfl,[],rfl,by simp,by grind [OL.blk],fun i y r h1 f=>by simp at h1⟩
theorem Rd.o0{α:Type}{R:RR α}{k n c:Nat}{Z:Nat→Prop}{w:World}{xs:List α}(h:Rd R k Z w none n c xs):xs=[]:=by
 obtain⟨hn,rows,hl,hk,h1,j⟩:=h
 rcases h1.at_ with⟨_,f,_⟩ | ⟨b,o,f,_⟩
 ·
  grind
 cases f
end
theorem Calls.cap{P:Program}{f:FuncId}{r c:Value}{w:World}{Q:Ending→World→Prop}(h:Calls P f #[r,c] w Q):Calls P f (#[]++[r].toArray++#[c]) w Q:=by grind
theorem Calls.recv{P:Program}{f:FuncId}{v r:Value}{w:World}{Q:Ending→World→Prop}(h:Calls P f #[v,r] w Q):Calls P f (#[v]++[r].toArray++#[]) w Q:=by grind
end Go.Rc

