/- Base of the proof: frames, memory, ownership, and the plain meaning of rule systems. Conditions: as each lemma says. -/
import Derived.Test.YtpoiojafnnaccaaGreatDoorUBb
set_option linter.all false
namespace Go.Rc
open Go
variable {E EK ER EI base:Nat}{w w':World}{a:Option Addr}{n c:Nat}{S:List Nat}
structure Rec where
 key:Key
 value:ByteArray
 reads:List Key
 changed:Int
 az:Int
 cost:Int
 cq:Bool
 deriving DecidableEq
instance:Inhabited Rec:=⟨⟨fW,⟨#[]⟩,[],0,0,0,false⟩⟩
def pd:Rec:=⟨fW,⟨#[]⟩,[],0,0,0,false⟩
def Rec.row(x:Rec) (a:Option Addr) (n c:Nat):List Value:=[.int .i64 x.key.kind,.string x.key.text,.string x.value,.slice a n c,.int .i64 x.changed,.int .i64 x.az,.int .i64 x.cost,.bool x.cq]
structure dE where
 key:Key
 value:ByteArray
 changed:Int
 deriving DecidableEq
def dE.cells(x:dE):List Value:=[.int .i64 x.key.kind,.string x.key.text,.string x.value,.int .i64 x.changed]
structure dV where
 ae:Int
 ah:List dE
 ak:List Rec
 deriving DecidableEq
/-! the plain meaning -/
def aD(l:List Rec) (k:Key):Option Rec:=l.find? fun r=>r.key == k
def ek(l:List dE) (k:Key):dE:=(l.find? fun x=>x.key == k).getD ⟨k,⟨#[]⟩,0⟩
def jK(l:List Rec) (k:Key):List Rec:=l.filter fun r=>!(r.key == k)
end Go.Rc
namespace Go.Rc
open Go
theorem ki{α:Type}{p:α→Bool}{l:List α}{i:Nat}(hi:i<l.length) (gh:∀j x,j<i→l[j]?=some x→p x=false) (hp:p l[i]=true):l.find? p=some l[i]:=by
 induction l generalizing i with
 | nil=>simp at hi
 | cons y r ih=>
  cases i with
  | zero=>simp at hp;simp [hp]
  | succ i=>
   have h0:p y=false:=gh 0 y (by omega) rfl
   grind
theorem rB{α:Type}{p:α→Bool}{l:List α}{i:Nat}(hi:l.length≤i) (gh:∀j x,j<i→l[j]?=some x→p x=false):l.find? p=none:=by
 rw [List.find?_eq_none];intro x hx;obtain⟨j,hj,rfl⟩:=List.mem_iff_getElem.1 hx
 simp [gh j _ (by omega) (List.getElem?_eq_getElem hj)]
theorem Rec.one(x:Rec) (a:Option Addr) (n c:Nat):∀u∈x.row a n c,u.oneCell'=true:=by simp [Rec.row,Value.oneCell']
end Go.Rc
namespace Go.Rc
theorem nns{l:List Go.Value}{j:Nat}{v:Go.Value}(h:nth l j=some v):nth l j≠none:=by rw [h];simp
end Go.Rc
namespace Go.Rc
open Go
def gL(r:Rec):List Rec→Bool→List Rec
 | [],put=>if put then [] else [r]
 | x::xs,put=>(if decide (0≤cE x.key r.key) && !put then [r] else [])++(if cE x.key r.key=0 then [] else [x])++gL r xs (put || decide (0≤cE x.key r.key))
def gW(l:List Rec) (r:Rec):List Rec:=gL r l false
theorem wN(r:Rec):∀(l:List Rec) (b:Bool),(gL r l b).length≤l.length+1:=by
 intro l
 induction l with
 | nil=>intro b;cases b <;> simp [gL]
 | cons x xs ih=>
  intro b;have h1:=ih (b || decide (0≤cE x.key r.key));simp only [gL,List.length_append,List.length_cons]
  have h2:∀l:List Rec,(gL r l true).length≤l.length:=by
   intro l
   induction l with
   | nil=>simp [gL]
   | cons y ys ih2=>simp only [gL,Bool.not_true,Bool.and_false,Bool.false_eq_true,if_false,Bool.true_or,List.length_append,List.length_cons,List.nil_append];split <;> simp <;> omega
  grind
theorem JL{l:List Rec}{k:Key}{i:Nat}(h:i<l.length):jK (l.take (i+1)) k=if l[i].key=k then jK (l.take i) k else jK (l.take i) k++[l[i]]:=by
 rw [List.take_succ_eq_append_getElem h];simp only [jK,List.filter_append]
 grind
theorem wO(l:List Rec) (k:Key):(jK l k).length≤l.length:=List.length_filter_le _ _
end Go.Rc
namespace Go.Rc
open Go
def iy(x:Rec):Bool:=
 ik x.key && (!aB x.key && (decide ((x.value.size:Int)≤1073741824) && (decide ((x.reads.length:Int)≤4000) && (decide (0≤x.changed) && (decide (x.changed≤x.az) && (decide (x.az≤1073741824) &&
  (decide (1≤x.cost) && (decide (x.cost≤1073741824) && (!x.cq || aA x.key)))))))))
def fb(x:Rec):Bool:=x.reads.all ik && iy x
def wP(l:List Rec) (i:Nat):Bool:=!fb l[i]! || (decide (0<(i:Int)) && decide (0≤cE l[i - 1]!.key l[i]!.key))
def vf(l:List Rec) (i:Nat) (x:Rec):Prop:=fb x=true∧(0<i→cE l[i - 1]!.key x.key<0)
def rC(l:List Rec):Prop:=l.length≤4000∧∀i x,l[i]?=some x→vf l i x
theorem vg{l:List Rec}{i:Nat}(hi:i<l.length):wP l i=false↔vf l i l[i]:=by
 simp only [wP,vf,getElem!_pos l i hi,Bool.or_eq_false_iff,Bool.and_eq_false_iff,decide_eq_false_iff_not,Bool.not_eq_false']
 grind
end Go.Rc

namespace Go.Rc
open Go
structure jf (M:Nat→Prop) (w w':World):Prop where
 os:w'.os=w.os
 tape:w'.tape=w.tape
 output:w'.output=w.output
 size:w.heap.size≤w'.heap.size
 drawn:w.drawn≤w'.drawn
 block:∀k,k<w.heap.size→¬M k→w'.heap[k]?=w.heap[k]?
theorem bj.p{S:List Nat}{w w':World}(h:bj S w w'):jf (fun x=>x∈S) w w':=⟨h.os,h.tape,h.output,h.size,h.drawn,h.block⟩
theorem jf.cX{M:Nat→Prop}{w w':World}(h:jf M w w') (hM:∀x,M x→w.heap.size≤x):bj [] w w':=
 ⟨h.os,h.tape,h.output,h.size,h.drawn,fun k hk _=>h.block k hk fun hm=>by have:=hM k hm;omega⟩
theorem jf.refl(M:Nat→Prop) (w:World):jf M w w:=⟨rfl,rfl,rfl,Nat.le_refl _,Nat.le_refl _,fun _ _ _=>rfl⟩
theorem jf.mono{M M':Nat→Prop}{w w':World}(h:jf M w w') (hM:∀x,x<w.heap.size→M x→M' x):jf M' w w':=⟨h.os,h.tape,h.output,h.size,h.drawn,fun k hk hn=>h.block k hk fun hm=>hn (hM k hk hm)⟩
structure As where
 fp:Nat→Prop
 ok:(Nat→Prop)→World→Prop
 lt:∀{Z w},ok Z w→∀x,fp x→x<w.heap.size
 mono:∀{Z Z':Nat→Prop}{w},(∀x,Z x→Z' x)→ok Z w→ok Z' w
 st:∀{Z:Nat→Prop}{w w':World},w.heap.size≤w'.heap.size→(∀x,fp x∨Z x→x<w.heap.size→w'.heap[x]?=w.heap[x]?)→ok Z w→ok Z w'
structure St (w0:World) (M Z:Nat→Prop) (w:World) (l:List As):Prop where
 cX:jf M w0 w
 mj:∀x,Z x→x<w.heap.size
 pI:∀A∈l,∀x,A.fp x→¬Z x
 rf:∀A∈l,∀x,A.fp x→M x∨w0.heap.size≤x
 wA:l.Pairwise fun A B=>∀x,A.fp x→¬B.fp x
 ok:∀A∈l,A.ok Z w
structure cQ (n:Nat) (Z Z':Nat→Prop):Prop where
 up:∀x,Z x→Z' x
 new:∀x,Z' x→Z x∨n≤x
theorem cQ.refl(n:Nat) (Z:Nat→Prop):cQ n Z Z:=⟨fun _ h=>h,fun _ h=>.inl h⟩
theorem cQ.trans{n n':Nat}{Z Z' Z'':Nat→Prop}(h:cQ n Z Z') (k:cQ n' Z' Z'') (hn:n≤n'):cQ n Z Z'':=
 ⟨fun x hx=>k.up x (h.up x hx),fun x hx=>by rcases k.new x hx with h1 | h1;exact h.new x h1;exact .inr (Nat.le_trans hn h1)⟩
theorem cQ.le{n n':Nat}{Z Z':Nat→Prop}(h:cQ n Z Z') (hn:n'≤n):cQ n' Z Z':=⟨h.up,fun x hx=>by rcases h.new x hx with h1 | h1;exact .inl h1;exact .inr (Nat.le_trans hn h1)⟩
def rh(l:List As) (x:Nat):Prop:=∃A∈l,A.fp x
section
variable {w0 w w':World}{M Z Z':Nat→Prop}{l l0 l1 rest:List As}{A B:As}
theorem St.size(h:St w0 M Z w l):w0.heap.size≤w.heap.size:=h.cX.size
theorem St.start(hz:∀x,Z x→x<w.heap.size):St w M Z w []:=⟨jf.refl _ _,hz,by simp,by simp,.nil,by simp⟩
theorem St.perm{l':List As}(h:St w0 M Z w l) (hp:List.Perm l' l):St w0 M Z w l':=
 ⟨h.cX,h.mj,fun A hA=>h.pI A (hp.mem_iff.1 hA),fun A hA=>h.rf A (hp.mem_iff.1 hA),
  h.wA.perm hp.symm (fun hab x hb ha=>hab x ha hb),fun A hA=>h.ok A (hp.mem_iff.1 hA)⟩
theorem St.enter(h:St w0 M Z w (l0++rest)):St w (rh l0) Z w l0:=
 ⟨jf.refl _ _,h.mj,fun A hA=>h.pI A (by simp [hA]),fun A hA x hx=>.inl ⟨A,hA,hx⟩,(List.pairwise_append.1 h.wA).1,fun A hA=>h.ok A (by simp [hA])⟩
theorem St.leave(h:St w0 M Z w (l0++rest)) (h':St w (rh l0) Z' w' l1) (hz:cQ w.heap.size Z Z'):St w0 M Z' w' (l1++rest):=by
 obtain⟨Sr,RF,hd3⟩:=List.pairwise_append.1 h.wA;have hM:∀x,rh l0 x→M x∨w0.heap.size≤x:=fun x ⟨A,hA,hx⟩=>h.rf A (by simp [hA]) x hx;have ed:∀A∈rest,∀x,A.fp x→x<w.heap.size:=fun A hA=>A.lt (h.ok A (by simp [hA]));have hfz:∀x,rh l0 x→¬Z x:=fun x ⟨A,hA,hx⟩=>h.pI A (by simp [hA]) x hx;refine⟨⟨h'.cX.os.trans h.cX.os,h'.cX.tape.trans h.cX.tape,h'.cX.output.trans h.cX.output,Nat.le_trans h.cX.size h'.cX.size,Nat.le_trans h.cX.drawn h'.cX.drawn,fun k hk hn=>?_⟩,h'.mj,?_,?_,?_,?_⟩
 ·
  rw [h'.cX.block k (Nat.lt_of_lt_of_le hk h.cX.size) fun hf=>by grind];exact h.cX.block k hk hn
 ·
  intro A hA x hx RG
  rcases List.mem_append.1 hA with hA | hA
  ·
   exact h'.pI A hA x hx RG
  rcases hz.new x RG with h1 | h1
  ·
   exact h.pI A (by simp [hA]) x hx h1
  have:=ed A hA x hx;omega
 ·
  intro A hA x hx
  rcases List.mem_append.1 hA with hA | hA
  ·
   rcases h'.rf A hA x hx with h1 | h1
   ·
    exact hM x h1
   exact .inr (Nat.le_trans h.cX.size h1)
  exact h.rf A (by simp [hA]) x hx
 ·
  refine List.pairwise_append.2 ⟨h'.wA,RF,fun A hA B hB x hx hb=>?_⟩
  rcases h'.rf A hA x hx with⟨C,hC,h1⟩ | h1
  ·
   exact hd3 C hC B hB x h1 hb
  have:=ed B hB x hb;omega
 intro A hA
 rcases List.mem_append.1 hA with hA | hA
 ·
  exact h'.ok A hA
 refine A.mono (Z:=Z) hz.up (A.st h'.cX.size (fun x hx O0=>h'.cX.block x O0 fun⟨C,hC,hc⟩=>?_) (h.ok A (by simp [hA])))
 grind
theorem St.step(h:St w0 M Z w l) (s:bj [] w w'):St w0 M Z w' l:=
 St.leave (l0:=[]) (l1:=[]) h ⟨s.p.mono (by simp),fun x hx=>Nat.lt_of_lt_of_le (h.mj x hx) s.size,by simp,by simp,.nil,by simp⟩ (cQ.refl _ _)
theorem St.new(h:St w0 M Z w l) (s:bj [] w w') (eO:B.ok Z w') (GG:∀x,B.fp x→w.heap.size≤x):St w0 M Z w' (B::l):=
 St.leave (l0:=[]) (l1:=[B]) h ⟨s.p.mono (by simp),fun x hx=>Nat.lt_of_lt_of_le (h.mj x hx) s.size,fun A hA x hx hz=>by simp at hA;subst hA;have:=GG x hx;have:=h.mj x hz;omega,
  fun A hA x hx=>by grind,by simp,fun A hA=>by simp at hA;subst hA;exact eO⟩ (cQ.refl _ _)
theorem St.fact(h:St w0 M Z w l) (eO:B.ok Z w) (GG:∀x,¬B.fp x):St w0 M Z w (B::l):=h.new (bj.refl _ _) eO fun x hx=>absurd hx (GG x)
theorem St.ox(h:St w0 M Z w (A::l)) (s:jf A.fp w w') (eO:B.ok Z w') (GG:∀x,B.fp x→A.fp x∨w.heap.size≤x):St w0 M Z w' (B::l):=
 St.leave (l0:=[A]) (l1:=[B]) h ⟨s.mono fun x _ hx=>⟨A,by simp,hx⟩,fun x hx=>Nat.lt_of_lt_of_le (h.mj x hx) s.size,fun C hC x hx hz=>by
   simp at hC;subst hC
   rcases GG x hx with h1 | h1
   ·
    exact h.pI A (by simp) x h1 hz
   have:=h.mj x hz;omega,
  fun C hC x hx=>by
   simp at hC;subst hC
   rcases GG x hx with h1 | h1
   ·
    exact .inl ⟨A,by simp,h1⟩
   exact .inr h1,by simp,fun C hC=>by simp at hC;subst hC;exact eO⟩ (cQ.refl _ _)
theorem St.freeze(h:St w0 M Z w (A::l)) (eO:B.ok (fun x=>Z x∨A.fp x) w) (GG:∀x,¬B.fp x):St w0 M (fun x=>Z x∨A.fp x) w (B::l):=by
 refine⟨h.cX,fun x hx=>?_,?_,?_,?_,?_⟩
 ·
  rcases hx with hx | hx
  ·
   exact h.mj x hx
  exact A.lt (h.ok A (by simp)) x hx
 ·
  intro C hC x hx hz;simp only [List.mem_cons] at hC
  rcases hC with rfl | hC
  ·
   exact GG x hx
  rcases hz with hz | hz
  ·
   exact h.pI C (by simp [hC]) x hx hz
  exact(List.pairwise_cons.1 h.wA).1 C hC x hz hx
 ·
  intro C hC x hx;simp only [List.mem_cons] at hC
  rcases hC with rfl | hC
  ·
   exact absurd hx (GG x)
  exact h.rf C (by simp [hC]) x hx
 ·
  exact List.pairwise_cons.2 ⟨fun C _ x hx=>absurd hx (GG x),(List.pairwise_cons.1 h.wA).2⟩
 intro C hC;simp only [List.mem_cons] at hC
 rcases hC with rfl | hC
 ·
  exact eO
 exact C.mono (fun x hx=>.inl hx) (h.ok C (by simp [hC]))
theorem St.drop(h:St w0 M Z w (A::l)):St w0 M Z w l:=
 ⟨h.cX,h.mj,fun C hC=>h.pI C (by simp [hC]),fun C hC=>h.rf C (by simp [hC]),(List.pairwise_cons.1 h.wA).2,fun C hC=>h.ok C (by simp [hC])⟩
theorem St.conv(h:St w0 M Z w (A::l)) (eO:B.ok Z w) (GG:∀x,B.fp x→A.fp x):St w0 M Z w (B::l):=h.ox (jf.refl _ _) eO fun x hx=>.inl (GG x hx)
theorem St.abZ{M':Nat→Prop}(h:St w0 M Z w l) (hM:∀x,x<w0.heap.size→M x→M' x):St w0 M' Z w l:=
 ⟨h.cX.mono hM,h.mj,h.pI,fun A hA x hx=>by
  rcases h.rf A hA x hx with h1 | h1
  ·
   grind
  exact .inr h1,h.wA,h.ok⟩
theorem St.ly{l0:List As}(h:St w0 M Z w (l0++l)):St w0 M Z w l0:=⟨h.cX,h.mj,fun C hC=>h.pI C (by simp [hC]),fun C hC=>h.rf C (by simp [hC]),(List.pairwise_append.1 h.wA).1,fun C hC=>h.ok C (by simp [hC])⟩
theorem St.k0(h:St w0 M Z w l):St w0 M Z w []:=St.ly (l0:=[]) h
theorem St.k1{A0:As}(h:St w0 M Z w (A0::l)):St w0 M Z w [A0]:=St.ly (l0:=[A0]) h
theorem St.k2{A0 A1:As}(h:St w0 M Z w (A0::A1::l)):St w0 M Z w [A0,A1]:=St.ly (l0:=[A0,A1]) h
theorem St.k3{A0 A1 A2:As}(h:St w0 M Z w (A0::A1::A2::l)):St w0 M Z w [A0,A1,A2]:=St.ly (l0:=[A0,A1,A2]) h
theorem St.k4{A0 A1 A2 A3:As}(h:St w0 M Z w (A0::A1::A2::A3::l)):St w0 M Z w [A0,A1,A2,A3]:=St.ly (l0:=[A0,A1,A2,A3]) h
theorem St.e0(h:St w0 M Z w l):St w (rh []) Z w []:=St.enter (l0:=[]) h
theorem St.e1{A0:As}(h:St w0 M Z w (A0::l)):St w (rh [A0]) Z w [A0]:=St.enter (l0:=[A0]) h
theorem St.e2{A0 A1:As}(h:St w0 M Z w (A0::A1::l)):St w (rh [A0,A1]) Z w [A0,A1]:=St.enter (l0:=[A0,A1]) h
theorem St.e4{A0 A1 A2 A3:As}(h:St w0 M Z w (A0::A1::A2::A3::l)):St w (rh [A0,A1,A2,A3]) Z w [A0,A1,A2,A3]:=St.enter (l0:=[A0,A1,A2,A3]) h
theorem St.e5{A0 A1 A2 A3 A4:As}(h:St w0 M Z w (A0::A1::A2::A3::A4::l)):St w (rh [A0,A1,A2,A3,A4]) Z w [A0,A1,A2,A3,A4]:=St.enter (l0:=[A0,A1,A2,A3,A4]) h
theorem St.g0{A0:As}(h:St w0 M Z w (A0::l)):A0.ok Z w:=h.ok _ (by simp)
theorem St.g1{A0 A1:As}(h:St w0 M Z w (A0::A1::l)):A1.ok Z w:=h.ok _ (by simp)
theorem St.g2{A0 A1 A2:As}(h:St w0 M Z w (A0::A1::A2::l)):A2.ok Z w:=h.ok _ (by simp)
theorem St.g3{A0 A1 A2 A3:As}(h:St w0 M Z w (A0::A1::A2::A3::l)):A3.ok Z w:=h.ok _ (by simp)
theorem St.g4{A0 A1 A2 A3 A4:As}(h:St w0 M Z w (A0::A1::A2::A3::A4::l)):A4.ok Z w:=h.ok _ (by simp)
theorem St.g5{A0 A1 A2 A3 A4 A5:As}(h:St w0 M Z w (A0::A1::A2::A3::A4::A5::l)):A5.ok Z w:=h.ok _ (by simp)
theorem St.g6{A0 A1 A2 A3 A4 A5 A6:As}(h:St w0 M Z w (A0::A1::A2::A3::A4::A5::A6::l)):A6.ok Z w:=h.ok _ (by simp)
theorem St.g7{A0 A1 A2 A3 A4 A5 A6 A7:As}(h:St w0 M Z w (A0::A1::A2::A3::A4::A5::A6::A7::l)):A7.ok Z w:=h.ok _ (by simp)
theorem St.g8{A0 A1 A2 A3 A4 A5 A6 A7 A8:As}(h:St w0 M Z w (A0::A1::A2::A3::A4::A5::A6::A7::A8::l)):A8.ok Z w:=h.ok _ (by simp)
theorem St.g9{A0 A1 A2 A3 A4 A5 A6 A7 A8 A9:As}(h:St w0 M Z w (A0::A1::A2::A3::A4::A5::A6::A7::A8::A9::l)):A9.ok Z w:=h.ok _ (by simp)
theorem St.g10{A0 A1 A2 A3 A4 A5 A6 A7 A8 A9 oX:As}(h:St w0 M Z w (A0::A1::A2::A3::A4::A5::A6::A7::A8::A9::oX::l)):oX.ok Z w:=h.ok _ (by simp)
theorem St.g11{A0 A1 A2 A3 A4 A5 A6 A7 A8 A9 oX rD:As}(h:St w0 M Z w (A0::A1::A2::A3::A4::A5::A6::A7::A8::A9::oX::rD::l)):rD.ok Z w:=h.ok _ (by simp)
theorem St.g12{A0 A1 A2 A3 A4 A5 A6 A7 A8 A9 oX rD wQ:As}(h:St w0 M Z w (A0::A1::A2::A3::A4::A5::A6::A7::A8::A9::oX::rD::wQ::l)):wQ.ok Z w:=h.ok _ (by simp)
theorem St.g13{A0 A1 A2 A3 A4 A5 A6 A7 A8 A9 oX rD wQ Dw:As}(h:St w0 M Z w (A0::A1::A2::A3::A4::A5::A6::A7::A8::A9::oX::rD::wQ::Dw::l)):Dw.ok Z w:=h.ok _ (by simp)
theorem St.g14{A0 A1 A2 A3 A4 A5 A6 A7 A8 A9 oX rD wQ Dw Lu:As}(h:St w0 M Z w (A0::A1::A2::A3::A4::A5::A6::A7::A8::A9::oX::rD::wQ::Dw::Lu::l)):Lu.ok Z w:=h.ok _ (by simp)
theorem St.g15{A0 A1 A2 A3 A4 A5 A6 A7 A8 A9 oX rD wQ Dw Lu UU:As}(h:St w0 M Z w (A0::A1::A2::A3::A4::A5::A6::A7::A8::A9::oX::rD::wQ::Dw::Lu::UU::l)):UU.ok Z w:=h.ok _ (by simp)
theorem St.p1{A0 A1:As}(h:St w0 M Z w (A0::A1::l)):St w0 M Z w (A1::A0::l):=h.perm (List.perm_middle (l₁:=[A0])).symm
theorem St.p2{A0 A1 A2:As}(h:St w0 M Z w (A0::A1::A2::l)):St w0 M Z w (A2::A0::A1::l):=h.perm (List.perm_middle (l₁:=[A0,A1])).symm
theorem St.p3{A0 A1 A2 A3:As}(h:St w0 M Z w (A0::A1::A2::A3::l)):St w0 M Z w (A3::A0::A1::A2::l):=h.perm (List.perm_middle (l₁:=[A0,A1,A2])).symm
theorem St.p4{A0 A1 A2 A3 A4:As}(h:St w0 M Z w (A0::A1::A2::A3::A4::l)):St w0 M Z w (A4::A0::A1::A2::A3::l):=h.perm (List.perm_middle (l₁:=[A0,A1,A2,A3])).symm
theorem St.p5{A0 A1 A2 A3 A4 A5:As}(h:St w0 M Z w (A0::A1::A2::A3::A4::A5::l)):St w0 M Z w (A5::A0::A1::A2::A3::A4::l):=h.perm (List.perm_middle (l₁:=[A0,A1,A2,A3,A4])).symm
theorem St.p6{A0 A1 A2 A3 A4 A5 A6:As}(h:St w0 M Z w (A0::A1::A2::A3::A4::A5::A6::l)):St w0 M Z w (A6::A0::A1::A2::A3::A4::A5::l):=h.perm (List.perm_middle (l₁:=[A0,A1,A2,A3,A4,A5])).symm
theorem St.p7{A0 A1 A2 A3 A4 A5 A6 A7:As}(h:St w0 M Z w (A0::A1::A2::A3::A4::A5::A6::A7::l)):St w0 M Z w (A7::A0::A1::A2::A3::A4::A5::A6::l):=h.perm (List.perm_middle (l₁:=[A0,A1,A2,A3,A4,A5,A6])).symm
theorem St.p8{A0 A1 A2 A3 A4 A5 A6 A7 A8:As}(h:St w0 M Z w (A0::A1::A2::A3::A4::A5::A6::A7::A8::l)):St w0 M Z w (A8::A0::A1::A2::A3::A4::A5::A6::A7::l):=h.perm (List.perm_middle (l₁:=[A0,A1,A2,A3,A4,A5,A6,A7])).symm
theorem St.p9{A0 A1 A2 A3 A4 A5 A6 A7 A8 A9:As}(h:St w0 M Z w (A0::A1::A2::A3::A4::A5::A6::A7::A8::A9::l)):St w0 M Z w (A9::A0::A1::A2::A3::A4::A5::A6::A7::A8::l):=h.perm (List.perm_middle (l₁:=[A0,A1,A2,A3,A4,A5,A6,A7,A8])).symm
theorem St.sL{A0 A1 A2 A3 A4 A5 A6 A7 A8 A9 oX:As}(h:St w0 M Z w (A0::A1::A2::A3::A4::A5::A6::A7::A8::A9::oX::l)):St w0 M Z w (oX::A0::A1::A2::A3::A4::A5::A6::A7::A8::A9::l):=h.perm (List.perm_middle (l₁:=[A0,A1,A2,A3,A4,A5,A6,A7,A8,A9])).symm
theorem St.pJ{A0 A1 A2 A3 A4 A5 A6 A7 A8 A9 oX rD:As}(h:St w0 M Z w (A0::A1::A2::A3::A4::A5::A6::A7::A8::A9::oX::rD::l)):St w0 M Z w (rD::A0::A1::A2::A3::A4::A5::A6::A7::A8::A9::oX::l):=h.perm (List.perm_middle (l₁:=[A0,A1,A2,A3,A4,A5,A6,A7,A8,A9,oX])).symm
theorem St.Lv{A0 A1 A2 A3 A4 A5 A6 A7 A8 A9 oX rD wQ:As}(h:St w0 M Z w (A0::A1::A2::A3::A4::A5::A6::A7::A8::A9::oX::rD::wQ::l)):St w0 M Z w (wQ::A0::A1::A2::A3::A4::A5::A6::A7::A8::A9::oX::rD::l):=h.perm (List.perm_middle (l₁:=[A0,A1,A2,A3,A4,A5,A6,A7,A8,A9,oX,rD])).symm
theorem St.yH{A0 A1 A2 A3 A4 A5 A6 A7 A8 A9 oX rD wQ Dw:As}(h:St w0 M Z w (A0::A1::A2::A3::A4::A5::A6::A7::A8::A9::oX::rD::wQ::Dw::l)):St w0 M Z w (Dw::A0::A1::A2::A3::A4::A5::A6::A7::A8::A9::oX::rD::wQ::l):=h.perm (List.perm_middle (l₁:=[A0,A1,A2,A3,A4,A5,A6,A7,A8,A9,oX,rD,wQ])).symm
theorem St.O1{A0 A1 A2 A3 A4 A5 A6 A7 A8 A9 oX rD wQ Dw Lu:As}(h:St w0 M Z w (A0::A1::A2::A3::A4::A5::A6::A7::A8::A9::oX::rD::wQ::Dw::Lu::l)):St w0 M Z w (Lu::A0::A1::A2::A3::A4::A5::A6::A7::A8::A9::oX::rD::wQ::Dw::l):=h.perm (List.perm_middle (l₁:=[A0,A1,A2,A3,A4,A5,A6,A7,A8,A9,oX,rD,wQ,Dw])).symm
theorem St.p15{A0 A1 A2 A3 A4 A5 A6 A7 A8 A9 oX rD wQ Dw Lu UU:As}(h:St w0 M Z w (A0::A1::A2::A3::A4::A5::A6::A7::A8::A9::oX::rD::wQ::Dw::Lu::UU::l)):St w0 M Z w (UU::A0::A1::A2::A3::A4::A5::A6::A7::A8::A9::oX::rD::wQ::Dw::Lu::l):=h.perm (List.perm_middle (l₁:=[A0,A1,A2,A3,A4,A5,A6,A7,A8,A9,oX,rD,wQ,Dw,Lu])).symm
end
/-! what may be said -/
def As.blk(b T:Nat) (cs:List Value):As where
 fp x:=x=b
 ok _ w:=cJ w b T cs
 lt h x hx:=by subst hx;exact h.lt
 mono _ h:=h
 st hs hc h:=by
  have h':_=_:=h
  show _=_
  grind
def As.map{κ:Type}(enc:κ→Value) (b:Nat) (l:List (κ × Value)):As where
 fp x:=x=b
 ok _ w:=KM enc w b l
 lt h x hx:=by subst hx;exact h.lt
 mono _ h:=h
 st hs hc h:=by
  have hl:=h.lt;obtain⟨es,c,h1,h2⟩:=h;exact⟨es,c,by rw [hc b (.inl rfl) hl];exact h1,h2⟩
structure RR (α:Type) where
 r:(Nat→Prop)→World→α→List Value→Prop
 mono:∀{Z Z':Nat→Prop}{w x row},(∀x,Z x→Z' x)→r Z w x row→r Z' w x row
 st:∀{Z:Nat→Prop}{w w':World}{x row},w.heap.size≤w'.heap.size→(∀x,Z x→x<w.heap.size→w'.heap[x]?=w.heap[x]?)→r Z w x row→r Z w' x row
 cut:∀{Z:Nat→Prop}{w:World}{x row},r Z w x row→r (fun b=>Z b∧b<w.heap.size) w x row
theorem SL.st{Z:Nat→Prop}{w w':World}{k n c:Nat}{a:Option Addr}{cs:List Value}(hs:w.heap.size≤w'.heap.size) (hc:∀x,Z x→x<w.heap.size→w'.heap[x]?=w.heap[x]?) (h:SL Z w k a n c cs):SL Z w' k a n c cs:=by
 refine⟨h.len,h.le,h.one,?_⟩
 rcases h.at_ with h1 | ⟨b,o,h1,h2,h3,h4,h5,h6⟩
 ·
  exact .inl h1
 exact .inr ⟨b,o,h1,h2,h3,h4,Nat.lt_of_lt_of_le h5 hs,fun j v hv=>by rw [← h6 j v hv];grind [World.cell?_of_block]⟩
theorem SR.st{α:Type}{R R':α→List Value→Prop}{Z:Nat→Prop}{w w':World}{k n c:Nat}{a:Option Addr}{xs:List α}(hs:w.heap.size≤w'.heap.size) (hc:∀x,Z x→x<w.heap.size→w'.heap[x]?=w.heap[x]?) (hR:∀x r,R x r→R' x r)
  (h:SR Z w k R a n c xs):SR Z w' k R' a n c xs:=by
 obtain⟨hn,rows,hl,hk,h1,hx⟩:=h;exact⟨hn,rows,hl,hk,SL.st hs hc h1,fun i x r h1 h2=>hR x r (hx i x r h1 h2)⟩
def RR.flat{α:Type}(f:α→List Value):RR α:=⟨fun _ _ x row=>row=f x,fun _ h=>h,fun _ _ h=>h,fun h=>h⟩
def Rd{α:Type}(R:RR α) (k:Nat) (Z:Nat→Prop) (w:World) (a:Option Addr) (n c:Nat) (xs:List α):Prop:=SR Z w k (R.r Z w) a n c xs
theorem Rd.mono{α:Type}{R:RR α}{k:Nat}{Z Z':Nat→Prop}{w:World}{a:Option Addr}{n c:Nat}{xs:List α}(hZ:∀x,Z x→Z' x) (h:Rd R k Z w a n c xs):Rd R k Z' w a n c xs:=
 SR.mono h (fun b hb _=>hZ b hb) fun _ _=>R.mono hZ
theorem Rd.st{α:Type}{R:RR α}{k:Nat}{Z:Nat→Prop}{w w':World}{a:Option Addr}{n c:Nat}{xs:List α}(hs:w.heap.size≤w'.heap.size) (hc:∀x,Z x→x<w.heap.size→w'.heap[x]?=w.heap[x]?) (h:Rd R k Z w a n c xs):Rd R k Z w' a n c xs:=
 SR.st hs hc (fun _ _=>R.st hs hc) h
theorem Rd.len{α:Type}{R:RR α}{k:Nat}{Z:Nat→Prop}{w:World}{a:Option Addr}{n c:Nat}{xs:List α}(h:Rd R k Z w a n c xs):n=xs.length:=SR.len h
theorem Rd.le{α:Type}{R:RR α}{k:Nat}{Z:Nat→Prop}{w:World}{a:Option Addr}{n c:Nat}{xs:List α}(h:Rd R k Z w a n c xs):n≤140737488355328:=SR.le h
theorem Rd.at{α:Type}{R:RR α}{k:Nat}{Z:Nat→Prop}{w:World}{a:Option Addr}{n c:Nat}{xs:List α}(h:Rd R k Z w a n c xs) {i:Nat}(hi:i<xs.length) :
  ∃b o r,a=some ⟨b,o,none⟩∧r.length=k∧R.r Z w xs[i] r∧w.rangeAt b (o+i*k) r∧Z b:=SR.at h (List.getElem?_eq_getElem hi)
theorem Rd.ext{α:Type}{R:RR α}{k:Nat}{Z:Nat→Prop}{w w':World}{a:Option Addr}{n c:Nat}{xs:List α}(h:Rd R k Z w a n c xs) (s:bj [] w w'):Rd R k Z w' a n c xs:=
 h.st s.size fun x _ hx=>s.block x hx (by simp)
theorem Rd.cut{α:Type}{R:RR α}{k:Nat}{Z:Nat→Prop}{w:World}{a:Option Addr}{n c:Nat}{xs:List α}(h:Rd R k Z w a n c xs):Rd R k (fun b=>Z b∧b<w.heap.size) w a n c xs:=
 SR.mono h (fun _ hb ed=>⟨hb,ed⟩) fun _ _ h=>R.cut h
theorem Rd.nil{α:Type}(R:RR α) (k:Nat) (Z:Nat→Prop) (w:World):Rd R k Z w none 0 0 []:=SR.nil _ _ _ _
def As.ro{α:Type}(R:RR α) (k:Nat) (a:Option Addr) (n c:Nat) (xs:List α):As where
 fp _:=False
 ok Z w:=Rd R k Z w a n c xs
 lt _ _ hx:=hx.elim
 mono hZ h:=Rd.mono hZ h
 st hs hc h:=Rd.st hs (fun x hx=>hc x (.inr hx)) h
def Ow{α:Type}(R:RR α) (E k:Nat) (Z:Nat→Prop) (w:World) (a:Option Addr) (n c:Nat) (xs:List α):Prop:=OR 0 w E k (R.r Z w) a n c xs
theorem OL.st{base:Nat}{w w':World}{E k n c:Nat}{a:Option Addr}{cs:List Value}(hc:∀x,x∈aL a→x<w.heap.size→w'.heap[x]?=w.heap[x]?) (h:OL base w E k a n c cs):OL base w' E k a n c cs:=by
 refine⟨h.1,h.2.1,?_⟩;have ed:=h.lt
 rcases h.2.2 with hn | ⟨g,cap,cur,h1,h2,h3,rest⟩
 ·
  exact .inl hn
 simp at h1
 obtain⟨rfl,rfl⟩:=h1;exact .inr ⟨g,c,cur,rfl,h2,by grind [aL],rest⟩
def As.os{α:Type}(R:RR α) (E k:Nat) (a:Option Addr) (n c:Nat) (xs:List α):As where
 fp x:=x∈aL a
 ok Z w:=Ow R E k Z w a n c xs
 lt h:=OR.lt h
 mono hZ h:=by
  obtain⟨hn,rows,hl,hk,h1,hx⟩:=h;exact⟨hn,rows,hl,hk,h1,fun i x r h1 h2=>R.mono hZ (hx i x r h1 h2)⟩
 st hs hc h:=by
  obtain⟨hn,rows,hl,hk,h1,hx⟩:=h;exact⟨hn,rows,hl,hk,OL.st (fun x hx=>hc x (.inl hx)) h1,fun i x r h1 h2=>R.st hs (fun x hx=>hc x (.inr hx)) (hx i x r h1 h2)⟩
theorem As.WX{α:Type}(R:RR α) (E k:Nat) (Z:Nat→Prop) (w:World):(As.os R E k none 0 0 []).ok Z w:=OR.nil _ _ _ _ _
theorem As.Ss{α:Type}(R:RR α) (E k n c:Nat) (xs:List α):∀x,¬(As.os R E k none n c xs).fp x:=fun x hx=>by simp [As.os,aL] at hx
section
variable {w0 w w':World}{M Z Z':Nat→Prop}{l:List As}{α:Type}{R:RR α}
theorem St.eW(h:St w0 M Z w l) {b T:Nat}{cs:List Value}(nw:GS w w' b) (hb:cJ w' b T cs):St w0 M Z w' (As.blk b T cs::l):=
 h.new nw.ext hb fun x hx=>by have h1:x=b:=hx;subst h1;exact nw.kI (bj.refl [] _)
theorem St.O2{κ:Type}{enc:κ→Value}(h:St w0 M Z w l) {b:Nat}{cs:List (κ × Value)}(nw:GS w w' b) (hb:KM enc w' b cs):St w0 M Z w' (As.map enc b cs::l):=
 h.new nw.ext hb fun x hx=>by have h1:x=b:=hx;subst h1;exact nw.kI (bj.refl [] _)
theorem St.Hc{b T T':Nat}{cs MP:List Value}(h:St w0 M Z w (As.blk b T cs::l)) (s:bj [b] w w') (hb:cJ w' b T' MP):St w0 M Z w' (As.blk b T' MP::l):=
 h.ox (s.p.mono fun x _ hx=>by simpa [As.blk] using hx) hb fun x hx=>.inl hx
theorem St.mH{κ:Type}{enc:κ→Value}{b:Nat}{cs MP:List (κ × Value)}(h:St w0 M Z w (As.map enc b cs::l)) (s:bj [b] w w') (hb:KM enc w' b MP):St w0 M Z w' (As.map enc b MP::l):=
 h.ox (s.p.mono fun x _ hx=>by simpa [As.map] using hx) hb fun x hx=>.inl hx
theorem St.eX(h:St w0 M Z w l) (R:RR α) (E k:Nat):St w0 M Z w (As.os R E k none 0 0 []::l):=h.fact (As.WX _ _ _ _ _) (As.Ss _ _ _ _ _ _)
theorem St.iY{E k n c n' c':Nat}{a a':Option Addr}{xs ys:List α}(h:St w0 M Z w (As.os R E k a n c xs::l)) (s:bj (aL a) w w') (ho:OR 0 w' E k (R.r Z w) a' n' c' ys) (hf:∀x∈aL a',x∈aL a∨w.heap.size≤x) :
  St w0 M Z w' (As.os R E k a' n' c' ys::l):=by
 refine h.ox (s.p.mono fun x _ hx=>hx) ?_ hf;obtain⟨hn,rows,hl,hk,h1,hx⟩:=ho;refine⟨hn,rows,hl,hk,h1,fun i x r h1 h2=>R.st s.size (fun x hz O0=>?_) (hx i x r h1 h2)⟩
 exact s.block x O0 fun hm=>h.pI (As.os R E k a n c xs) (by simp) x hm hz
theorem St.wR(h:St w0 M Z w l) {E k n c:Nat}{a:Option Addr}{xs:List α}(s:bj [] w w') (ho:Ow R E k Z w' a n c xs) (hf:∀x∈aL a,w.heap.size≤x):St w0 M Z w' (As.os R E k a n c xs::l):=h.new s ho hf
theorem Ow.rd{E k n c:Nat}{a:Option Addr}{xs:List α}(h:Ow R E k Z w a n c xs) (hle:xs.length≤140737488355328):Rd R k (fun x=>Z x∨x∈aL a) w a n c xs:=by
 obtain⟨hn,rows,hl,hk,h1,hx⟩:=h;refine⟨hn,rows,hl,hk,?_,fun i x r h1 h2=>R.mono (fun _ h=>.inl h) (hx i x r h1 h2)⟩;have h3:=h1.sl (A:=fun _=>True) (fun _ _=>trivial) (by omega);refine⟨h3.len,h3.le,h3.one,?_⟩
 grind [SL.at_,aL]
theorem St.bV{E k n c:Nat}{a:Option Addr}{xs:List α}(h:St w0 M Z w (As.os R E k a n c xs::l)) (hle:xs.length≤140737488355328):St w0 M (fun x=>Z x∨x∈aL a) w (As.ro R k a n c xs::l):=
 h.freeze (A:=As.os R E k a n c xs) (B:=As.ro R k a n c xs) (Ow.rd (h.g0) hle) fun _ hx=>hx
theorem cQ.fo{n:Nat}{Z F:Nat→Prop}(h:∀x,F x→n≤x):cQ n Z (fun x=>Z x∨F x):=⟨fun _ h=>.inl h,fun x hx=>by grind⟩
theorem Ow.len{E k n c:Nat}{a:Option Addr}{xs:List α}(h:Ow R E k Z w a n c xs):n=xs.length:=OR.len h
theorem As.gb{b T:Nat}{cs:List Value}(h:(As.blk b T cs).ok Z w):cJ w b T cs:=h
theorem As.gm{κ:Type}{enc:κ→Value}{b:Nat}{cs:List (κ × Value)}(h:(As.map enc b cs).ok Z w):KM enc w b cs:=h
theorem As.gs{E k n c:Nat}{a:Option Addr}{xs:List α}(h:(As.os R E k a n c xs).ok Z w):Ow R E k Z w a n c xs:=h
theorem As.gr{k n c:Nat}{a:Option Addr}{xs:List α}(h:(As.ro R k a n c xs).ok Z w):Rd R k Z w a n c xs:=h
end
theorem bj.p0{M:Nat→Prop}{w w':World}(h:bj [] w w'):jf M w w':=h.p.mono (by simp)
theorem St.cg{w0 w:World}{Z:Nat→Prop}{l:List As}(h:St w0 (fun _=>False) Z w l):bj [] w0 w:=h.cX.cX (fun _ h=>h.elim)
theorem St.dc{w0 w:World}{M Z:Nat→Prop}{l:List As}(h:St w0 M Z w l):∀x,rh l x→x<w.heap.size:=fun x ⟨A,hA,hx⟩=>A.lt (h.ok A hA) x hx
def As.rg(b o:Nat) (r:List Value):As where
 fp _:=False
 ok Z w:=Z b∧b<w.heap.size∧w.rangeAt b o r
 lt _ _ hx:=hx.elim
 mono hZ h:=⟨hZ _ h.1,h.2⟩
 st hs hc h:=⟨h.1,Nat.lt_of_lt_of_le h.2.1 hs,fun j v hv=>by rw [← h.2.2 j v hv];grind [World.cell?_of_block]⟩
theorem As.aik{α:Type}{R:RR α}{k n c:Nat}{a:Option Addr}{xs:List α}{Z:Nat→Prop}{w:World}(h:Rd R k Z w a n c xs):(As.ro R k a n c xs).ok Z w:=h
theorem St.cK{w w':World}{Z:Nat→Prop}{l:List As}{A:As}(h:St w (rh []) Z w' (A::l)):∀x,A.fp x→w.heap.size≤x:=fun x hx=>by
 rcases h.rf A (by simp) x hx with⟨B,hB,_⟩ | h1
 ·
  cases hB
 exact h1
theorem As.nh{w:World}{Z:Nat→Prop}{b o:Nat}{r:List Value}(h:(As.rg b o r).ok Z w):w.rangeAt b o r:=h.2.2
theorem As.ab0{w:World}{Z:Nat→Prop}{b o:Nat}{r:List Value}(h:Z b) (ed:b<w.heap.size) (hr:w.rangeAt b o r):(As.rg b o r).ok Z w:=⟨h,ed,hr⟩
theorem RR.cH{α:Type}{f:α→List Value}{Z:Nat→Prop}{w:World}{x:α}{r:List Value}(h:(RR.flat f).r Z w x r):r=f x:=h
section
variable {P:Program}{n:Nat}{kv:KV}{w:World}{Q:Exit→Act→World→Prop}{w0:World}{M Z:Nat→Prop}
theorem WC.bQ{σ:Type}{c:Code}{rest:List As}{eI:σ→KV}{F:σ→List As}{I:σ→Prop}{μ:σ→Nat}(s₀:σ) (bF:St w0 M Z w (F s₀++rest)) (hs:Sub kv (eI s₀)) (h₀:I s₀)
  (round:∀s w',St w0 M Z w' (F s++rest)→I s→WC P c (Exit.then (fun a' w''=>∃s',Fr n a' (eI s')∧(St w0 M Z w'' (F s'++rest)∧I s')∧μ s'<μ s) Q) n (eI s) w'):WC P (.loop c) Q n kv w:=
 WC.loop (σ:=σ) (eI:=eI) (I:=fun s w'=>St w0 M Z w' (F s++rest)∧I s) (μ:=μ) s₀ hs ⟨bF,h₀⟩ fun s w' ⟨h1,h2⟩=>round s w' h1 h2
theorem WC.kj{σ:Type}{c:Code}{rest:List As}{eI:σ→KV}{F:σ→List As}{I:σ→Prop}{μ:σ→Nat}{Zf:σ→Nat→Prop}(s₀:σ) (bF:St w0 M (Zf s₀) w (F s₀++rest)) (hs:Sub kv (eI s₀)) (h₀:I s₀)
  (round:∀s w',St w0 M (Zf s) w' (F s++rest)→I s→WC P c (Exit.then (fun a' w''=>∃s',Fr n a' (eI s')∧(St w0 M (Zf s') w'' (F s'++rest)∧I s')∧μ s'<μ s) Q) n (eI s) w'):WC P (.loop c) Q n kv w:=
 WC.loop (σ:=σ) (eI:=eI) (I:=fun s w'=>St w0 M (Zf s) w' (F s++rest)∧I s) (μ:=μ) s₀ hs ⟨bF,h₀⟩ fun s w' ⟨h1,h2⟩=>round s w' h1 h2
theorem WC.fQ{c:Code}{t:Nat}{v:Value}{l:List As}(_hst:St w0 M Z w l) (h:WC P c (xK n t v kv fun wx=>St w0 M Z wx l) n kv w) (hJ:∀w',St w0 M Z w' l→EX Q .normal n ((t,v)::kv) w'):WC P c Q n kv w:=
 WC.nb (fun wx=>St w0 M Z wx l) h hJ
theorem WC.mw{c:Code}{t:Nat}{v:Value}{l:List As}(_hst:St w0 M Z w l) (h:WC P c (xK n t v (kO t kv) fun wx=>St w0 M Z wx l) n kv w) (hJ:∀w',St w0 M Z w' l→EX Q .normal n ((t,v)::kO t kv) w'):WC P c Q n kv w:=
 WC.o8 (fun wx=>St w0 M Z wx l) h hJ
theorem WC.O3{id m:Nat}{l:List Oper}{ls:List As}(T:Nat→World→World→Prop) {E:Nat→Option (Value→World→Prop)}(bF:St w0 M Z w ls)
  (hS:∀i S,E i=some S→∀j S',E j=some S'→j≠i→j∉j3 l.toArray i→∀v w1 w2,(w.heap.size≤w1.heap.size∧St w0 M Z w1 ls)→(w.heap.size≤w2.heap.size∧St w0 M Z w2 ls)→T j w1 w2→S v w1→S v w2) (hm:P.follows .mixedOrders=true) (eO:zF l m []=true)
  (GD:DW P l.toArray n (fun wx=>w.heap.size≤wx.heap.size∧St w0 M Z wx ls) T E (fun kv w=>WL P l.toArray Q (l.drop m) n kv w) 0 (l.take m) kv []):WC P (.region id l.toArray true) Q n kv w:=
 WC.drawn (C:=fun wx=>w.heap.size≤wx.heap.size∧St w0 M Z wx ls) (T:=T) hS hm eO ⟨Nat.le_refl _,bF.step (bj.drew [] w)⟩ GD
theorem WC.fc{id m:Nat}{l:List Oper}{ls:List As}{E:Nat→Option (Value→World→Prop)}(bF:St w0 M Z w ls)
  (hS:∀i S,E i=some S→∀j S',E j=some S'→j≠i→j∉j3 l.toArray i→∀v w1 w2,(w.heap.size≤w1.heap.size∧St w0 M Z w1 ls)→(w.heap.size≤w2.heap.size∧St w0 M Z w2 ls)→jf (rh ls) w1 w2→S v w1→S v w2) (hm:P.follows .mixedOrders=true) (eO:zF l m []=true)
  (GD:DW P l.toArray n (fun wx=>w.heap.size≤wx.heap.size∧St w0 M Z wx ls) (fun _=>jf (rh ls)) E (fun kv w=>WL P l.toArray Q (l.drop m) n kv w) 0 (l.take m) kv []):WC P (.region id l.toArray true) Q n kv w:=
 WC.drawn (C:=fun wx=>w.heap.size≤wx.heap.size∧St w0 M Z wx ls) (T:=fun _=>jf (rh ls)) hS hm eO ⟨Nat.le_refl _,bF.step (bj.drew [] w)⟩ GD
end
def PB(N T:Nat) (cs:List Value) (v:Value) (w:World):Prop:=∃b,v=.pointer (some ⟨b,0,none⟩)∧N≤b∧cJ w b T cs
theorem PB.st{N T:Nat}{cs:List Value}{F:Nat→Prop}(hN:∀x,F x→x<N) {v:Value}{w w':World}(c:jf F w w') (h:PB N T cs v w):PB N T cs v w':=by
 obtain⟨b,h1,h2,h3⟩:=h;exact⟨b,h1,h2,by have h4:_=_:=h3;show _=_;rw [c.block b h3.lt fun hf=>by have:=hN b hf;omega];exact h4⟩
theorem PB.get{N T b:Nat}{cs:List Value}{w:World}(h:PB N T cs (.pointer (some ⟨b,0,none⟩)) w):N≤b∧cJ w b T cs:=by
 obtain⟨b',h1,h2,h3⟩:=h
 grind
theorem St.add{w0 w:World}{M Z:Nat→Prop}{l:List As}{B:As}{N:Nat}(h:St w0 M Z w l) (eO:B.ok Z w) (GG:∀x,B.fp x→N≤x) (hl:∀x,rh l x→x<N) (hz:∀x,Z x→x<N) (h0:w0.heap.size≤N):St w0 M Z w (B::l) where
 cX:=h.cX
 mj:=h.mj
 pI A hA x hx RG:=by
  simp only [List.mem_cons] at hA
  rcases hA with rfl | hA
  ·
   grind
  exact h.pI A hA x hx RG
 rf A hA x hx:=by
  simp only [List.mem_cons] at hA
  rcases hA with rfl | hA
  ·
   grind
  exact h.rf A hA x hx
 wA:=List.pairwise_cons.2 ⟨fun A hA x hx hb=>by have:=GG x hx;have:=hl x ⟨A,hA,hb⟩;omega,h.wA⟩
 ok A hA:=by
  simp only [List.mem_cons] at hA
  rcases hA with rfl | hA
  ·
   exact eO
  exact h.ok A hA
theorem St.yI{w0 w:World}{M Z:Nat→Prop}{l:List As}{N b T:Nat}{cs:List Value}(h:St w0 M Z w l) (hp:PB N T cs (.pointer (some ⟨b,0,none⟩)) w) (hl:∀x,rh l x→x<N) (hz:∀x,Z x→x<N) (h0:w0.heap.size≤N):St w0 M Z w (As.blk b T cs::l):=
 h.add (B:=As.blk b T cs) hp.get.2 (fun x hx=>by have h1:x=b:=hx;subst h1;exact hp.get.1) hl hz h0
def PM{κ:Type}(enc:κ→Value) (N:Nat) (v:Value) (w:World):Prop:=∃b,v=.map (some b)∧N≤b∧KM enc w b []
theorem PM.st{κ:Type}{enc:κ→Value}{N:Nat}{F:Nat→Prop}(hN:∀x,F x→x<N) {v:Value}{w w':World}(c:jf F w w') (h:PM enc N v w):PM enc N v w':=by
 obtain⟨b,h1,h2,h3⟩:=h;exact⟨b,h1,h2,(As.map enc b []).st (Z:=fun _=>False) c.size (fun x hx hl=>c.block x hl fun hf=>by rcases hx with hx | hx;have hx:x=b:=hx;subst hx;have:=hN x hf;omega;exact hx.elim) h3⟩
theorem PM.get{κ:Type}{enc:κ→Value}{N b:Nat}{w:World}(h:PM enc N (.map (some b)) w):N≤b∧KM enc w b []:=by
 obtain⟨b',h1,h2,h3⟩:=h
 grind
theorem St.aim{κ:Type}{enc:κ→Value}{w0 w:World}{M Z:Nat→Prop}{l:List As}{N b:Nat}(h:St w0 M Z w l) (hp:PM enc N (.map (some b)) w) (hl:∀x,rh l x→x<N) (hz:∀x,Z x→x<N) (h0:w0.heap.size≤N):St w0 M Z w (As.map enc b []::l):=
 h.add (B:=As.map enc b []) hp.get.2 (fun x hx=>by have h1:x=b:=hx;subst h1;exact hp.get.1) hl hz h0
theorem St.same{w0 w w':World}{M Z:Nat→Prop}{l:List As}{A:As}(h:St w0 M Z w l) (hA:A∈l) (s:jf A.fp w w') (eO:A.ok Z w'):St w0 M Z w' l:=by
 obtain⟨p,q,rfl⟩:=List.append_of_mem hA;exact((h.perm List.perm_middle.symm).ox s eO fun x hx=>.inl hx).perm List.perm_middle
theorem Ly{l:List As}{A:As}(hA:A∈l) {x:Nat}(hx:A.fp x):rh l x:=⟨A,hA,hx⟩
theorem St.WZ{α:Type}{R:RR α}{w0 w:World}{M Z:Nat→Prop}{l:List As}{E k n c:Nat}{a:Option Addr}{xs ys:List α}(h:St w0 M Z w (As.os R E k a n c xs::l)) (e:xs=ys):St w0 M Z w (As.os R E k a n c ys::l):=by subst e;exact h
theorem Ow.addr{α:Type}{R:RR α}{w:World}{Z:Nat→Prop}{E k n c i:Nat}{a:Option Addr}{xs:List α}{y:α}(h:Ow R E k Z w a n c xs) (hx:xs[i]?=some y):∃b,a=some ⟨b,0,none⟩:=by
 obtain⟨hn,rows,hl,hk,h1,_⟩:=h
 grind [OL.cases]
theorem Ow.rE{α:Type}{f:α→List Value}{w:World}{Z:Nat→Prop}{E k n c i b o:Nat}{a:Option Addr}{xs:List α}{y:α}(h:Ow (RR.flat f) E k Z w a n c xs) (hle:xs.length≤140737488355328) (ha:a=some ⟨b,o,none⟩) (hx:xs[i]?=some y):w.rangeAt b (o+i*k) (f y):=by
 obtain⟨b',o',r,h1,_,h3,h4,_⟩:=SR.at (Ow.rd h hle) hx;rw [ha] at h1
 simp at h1
 obtain⟨rfl,rfl⟩:=h1;have h3:r=f y:=h3;subst h3;exact h4
section
variable {P:Program}{n:Nat}{kv:KV}{w:World}{Q:Exit→Act→World→Prop}
theorem Fr.eqv{a:Act}{t:Nat}{v v':Value}(hF:Fr n a kv) (h:look kv t=some v) (e:v=v'):Fr n a ((t,v')::kv):=⟨hF.size,hF.nY,fun s u hu=>by
 simp only [look] at hu
 cases hb:Nat.beq t s with
 | true=>rw [hb] at hu;simp at hu;have:t=s:=Nat.eq_of_beq_eq_true hb;subst this;rw [← hu,← e];exact hF.val t v h
 | false=>rw [hb] at hu;exact hF.val s u hu⟩
theorem WC.eqv{c:Code}{t:Nat}{v v':Value}(h:look kv t=some v) (e:v=v') (k:WC P c Q n ((t,v')::kv) w):WC P c Q n kv w:=fun a hF=>k a (hF.eqv h e)
theorem EX.eqv{x:Exit}{t:Nat}{v v':Value}(h:look kv t=some v) (e:v=v') (k:EX Q x n ((t,v')::kv) w):EX Q x n kv w:=fun a hF=>k a (hF.eqv h e)
end
section
variable {κ:Type} [DecidableEq κ] {enc:κ→Value}{P:Program}{kt e ty T:TypeId}{w:World}{b:Nat}{l:List (κ × Value)}{kv:KV}
theorem PV.dG(hK:KK P kt enc) (hT:P.underlying T=some (.map kt e)) {z:Value}(hz:∀w,(zeroValue e).run P w=.ok z w) (hb:KM enc w b l) {x y:Operand}{k:κ}{v:Value}(hv:ck l k=some v) (hx:ev kv x=some (.map (some b))) (hy:ev kv y=some (enc k)):PV P (.lookup T x y false) ty kv w v:=by
 have:=PV.look (ty:=ty) hK hT hz hb hx hy
 rw [hv] at this;exact this
end
end Go.Rc

namespace Go.Rc
open Go
theorem yJ:∀(rows:List (List Value)) (k i f:Nat) (v:Value) (row:List Value),(∀r∈rows,r.length=k)→rows[i]?=some row→f<k→(rows.set i (row.set f v)).flatten=rows.flatten.set (i*k+f) v:=by
 intro rows
 induction rows with
 | nil=>intro k i f v row _ h;simp at h
 | cons x xs ih=>
  intro k i f v row hk h hf;have hx:x.length=k:=hk x (by simp)
  cases i with
  | zero=>
   simp at h;subst h
   simp only [List.set_cons_zero,List.flatten_cons,Nat.zero_mul,Nat.zero_add];rw [List.set_append_left _ _ (by omega)]
  | succ i=>
   simp only [List.set_cons_succ,List.flatten_cons];rw [ih k i f v row (fun r hr=>hk r (by simp [hr])) (by simpa using h) hf,List.set_append_right _ _ (by rw [hx,Nat.succ_mul];omega)]
   congr 2
   rw [hx,Nat.succ_mul];omega
theorem zT:∀(rows:List (List Value)) (k i:Nat) (us:List Value),(∀r∈rows,r.length=k)→i<rows.length→us.length=k→(rows.set i us).flatten=rows.flatten.take (i*k)++us++rows.flatten.drop (i*k+k):=by
 intro rows
 induction rows with
 | nil=>intro k i us _ h;simp at h
 | cons x xs ih=>
  intro k i us hk h hu;have hx:x.length=k:=hk x (by simp)
  cases i with
  | zero=>
   simp only [List.set_cons_zero,List.flatten_cons,Nat.zero_mul,Nat.zero_add,List.take_zero,List.nil_append];rw [List.drop_append_of_le_length (by omega),List.drop_of_length_le (by omega),List.nil_append]
  | succ i=>
   simp only [List.set_cons_succ,List.flatten_cons];rw [ih k i us (fun r hr=>hk r (by simp [hr])) (by simpa using h) hu]
   have e:(i+1)*k=x.length+i*k:=by rw [hx,Nat.succ_mul];omega
   rw [e,List.take_length_add_append,Nat.add_assoc,List.drop_length_add_append]
   simp
section
variable {α:Type}{R:RR α}{P:Program}{E k n c i b:Nat}{a:Option Addr}{xs:List α}{u u':α}{Z:Nat→Prop}{w:World}
theorem Ow.at{R:RR α}(h:Ow R E k Z w a n c xs) (hle:xs.length≤140737488355328) (hx:xs[i]?=some u):∃b r,a=some ⟨b,0,none⟩∧r.length=k∧R.r Z w u r∧w.rangeAt b (0+i*k) r:=by
 obtain⟨hn,rows,hl,hk,h1,hR⟩:=h;have hi:=(List.getElem?_eq_some_iff.1 hx).1;have hs:=h1.sl (A:=fun _=>True) (fun _ _=>trivial) (by omega)
 rcases h1.cases with⟨_,h2,_⟩ | ⟨g,cur,h2,_⟩
 ·
  omega
 obtain⟨r,hr⟩:∃r,rows[i]?=some r:=⟨rows[i],by simp [hl,hi]⟩
 rcases hs.at_ with⟨h3,_⟩ | ⟨b',o,h3,_,_,_,_,h6⟩
 ·
  rw [h2] at h3;cases h3
 rw [h2] at h3;simp at h3;obtain⟨rfl,rfl⟩:=h3;exact⟨g,r,h2,hk r (List.mem_of_getElem? hr),hR i u r hx hr,pL h6 (i*k) r (n5 rows k i r hk hr)⟩
theorem Ow.blk(h:Ow R E k Z w a n c xs) (ha:a=some ⟨b,0,none⟩):∃l,cJ w b E l∧l.length=c*k∧n≤c:=by
 obtain⟨_,rows,_,_,h1,_⟩:=h
 rcases h1.cases with⟨h2,_⟩ | ⟨g,cur,h2,_,h4,h5,_,h7,_⟩
 ·
  rw [ha] at h2;cases h2
 rw [ha] at h2;simp at h2;subst h2;exact⟨cur.toList,by simpa [cJ] using h4,by simpa using h7,h5⟩
variable {N:Nat}{kv:KV}{K:KV→World→Prop}{ty:TypeId}{pos:String}{af:Array Edge}{g:Option (Nat × Bool)}{T:TypeId}
theorem OX.O4{x y:Operand}{f:Nat}{v:Value}(hT:(P.info? T).map (·.size)=some 1) (h:Ow R E k Z w a n c xs) (ha:a=some ⟨b,0,none⟩) (hu:xs[i]?=some u) (hf:f<k) (hx:ev kv x=some (.pointer (some ⟨b,0+i*k+f,none⟩))) (hy:ev kv y=some v)
  (h1:v.oneCell'=true) (u':α) (hR:∀r,r.length=k→R.r Z w u r→R.r Z w u' (r.set f v)) (hK:∀w',bj (aL a) w w'→OR 0 w' E k (R.r Z w) a n c (xs.set i u')→K kv w'):OX P ⟨none,.store T x y,ty,pos,af,g⟩ N kv w K:=by
 obtain⟨hn,rows,hl,hk,ho,hRR⟩:=h;have hi:=(List.getElem?_eq_some_iff.1 hu).1;obtain⟨row,W0⟩:∃r,rows[i]?=some r:=⟨rows[i],by simp [hl,hi]⟩;have Cv:=hk row (List.mem_of_getElem? W0)
 rcases ho.cases with⟨h2,_⟩ | ⟨b',cur,h2,h3,h4,h5,h6,h7,h8⟩
 ·
  rw [ha] at h2;cases h2
 rw [ha] at h2;simp at h2;subst h2;subst ha
 have hb:cJ w b E cur.toList:=by simpa [cJ] using h4
 have ed:i*k+f<cur.toList.length:=by
  have:(i+1)*k≤c*k:=Nat.mul_le_mul_right _ (by omega)
  rw [Nat.succ_mul] at this
  simp;omega
 have bF:=Lo (P:=P) hT hb ed h1;refine⟨rfl,rfl,by simp [known,opers,hx,hy],?_⟩
 have W1:0+i*k+f=i*k+f:=by omega
 rw [W1] at hx;simp only [execOp,aK hx,aK hy,Sem.run_bind,bF,Result.andThen_ok];refine hK _ (mX _ _ _) ⟨by simp [hn],rows.set i (row.set f v),by simp [hl],?_,?_,?_⟩
 ·
  intro r hr
  rcases List.mem_or_eq_of_mem_set hr with hr | rfl
  ·
   exact hk r hr
  simp [Cv]
 ·
  rw [yJ rows k i f v row hk W0 hf];refine⟨fun z hz=>?_,by simpa using ho.2.1,.inr ⟨b,c,_,rfl,h3,setRow_heap w b _ _ E _ hb,h5,h6,by simp [h7],?_⟩⟩
  ·
   rcases List.mem_or_eq_of_mem_set hz with hz | rfl
   ·
    exact ho.1 z hz
   exact h1
  rw [← h8]
  simp [List.take_set]
 intro j z r hz hr
 by_cases e:i=j
 ·
  subst e;rw [List.getElem?_set,if_pos rfl,if_pos hi] at hz;rw [List.getElem?_set,if_pos rfl,if_pos (by omega)] at hr
  simp at hz hr
  subst hz hr;exact hR row Cv (hRR i u row hu W0)
 rw [List.getElem?_set,if_neg e] at hz hr;exact hRR j z r hz hr
theorem OX.W2{x y:Operand}{us:List Value}(hT:(P.info? T).map (·.size)=some k) (h:Ow R E k Z w a n c xs) (ha:a=some ⟨b,0,none⟩) (hi:i<xs.length) (hx:ev kv x=some (.pointer (some ⟨b,0+i*k,none⟩))) (hy:ev kv y=some (.agg us.toArray))
  (hlen:us.length=k) (h1:∀v∈us,v.oneCell'=true) (u':α) (hR:R.r Z w u' us) (hK:∀w',bj (aL a) w w'→OR 0 w' E k (R.r Z w) a n c (xs.set i u')→K kv w'):OX P ⟨none,.store T x y,ty,pos,af,g⟩ N kv w K:=by
 obtain⟨hn,rows,hl,hk,ho,hRR⟩:=h
 rcases ho.cases with⟨h2,_⟩ | ⟨b',cur,h2,h3,h4,h5,h6,h7,h8⟩
 ·
  rw [ha] at h2;cases h2
 rw [ha] at h2;simp at h2;subst h2;subst ha
 have hb:cJ w b E cur.toList:=by simpa [cJ] using h4
 have hmul:(i+1)*k≤n*k:=Nat.mul_le_mul_right _ (by omega);have ab2:n*k≤c*k:=Nat.mul_le_mul_right _ h5;rw [Nat.succ_mul] at hmul
 have W1:0+i*k=i*k:=by omega
 rw [W1] at hx
 refine OX.stA hT hb hx hy hlen (by simp;omega) h1 rfl fun w' c1 _ hb'=>hK w' c1 ⟨by simp [hn],rows.set i us,by simp [hl],?_,?_,?_⟩
 ·
  intro r hr
  rcases List.mem_or_eq_of_mem_set hr with hr | rfl
  ·
   exact hk r hr
  exact hlen
 ·
  have hfl:rows.flatten.length=n*k:=ho.2.1;rw [zT rows k i us hk (by omega) hlen]
  have uT:cur.toList.length=c*k:=by simp [h7]
  refine⟨fun z hz=>?_,?_,.inr ⟨b,c,_,rfl,h3,hb',h5,h6,?_,?_⟩⟩
  ·
   simp only [List.mem_append] at hz
   rcases hz with(hz | hz) | hz
   ·
    exact ho.1 z (List.mem_of_mem_take hz)
   ·
    exact h1 z hz
   exact ho.1 z (List.mem_of_mem_drop hz)
  ·
   rw [List.length_append,List.length_append,List.length_take,List.length_drop,hfl,hlen];omega
  ·
   simp only [List.size_toArray,List.length_append,List.length_take,List.length_drop,uT];omega
  rw [← h8]
  apply List.ext_getElem?
  intro j;simp only [List.getElem?_take,List.getElem?_append,List.getElem?_drop,List.length_append,List.length_take,uT,hlen]
  have e1:min (i*k) (c*k)=i*k:=by omega
  have e2:min (i*k) (min (n*k) (c*k))=i*k:=by omega
  simp only [e1,e2]
  by_cases hj:j<n*k
  ·
   rw [if_pos hj]
   by_cases h9:j<i*k+k
   ·
    rw [if_pos h9,if_pos h9]
    by_cases Oe:j<i*k
    ·
     rw [if_pos Oe,if_pos Oe,if_pos Oe,if_pos Oe,if_pos hj]
    rw [if_neg Oe,if_neg Oe]
   rw [if_neg h9,if_neg h9,if_pos (by omega)]
  rw [if_neg hj,if_neg (by omega),if_neg (by omega)]
 intro j z r hz hr
 by_cases e:i=j
 ·
  subst e;rw [List.getElem?_set,if_pos rfl,if_pos (by omega)] at hz hr
  simp at hz hr
  subst hz hr;exact hR
 rw [List.getElem?_set,if_neg e] at hz hr;exact hRR j z r hz hr
end
end Go.Rc

namespace Go.Rc
open Go
structure JM (N E q s:Nat) (w w':World):Prop where
 os:w'.os=w.os
 tape:w'.tape=w.tape
 output:w'.output=w.output
 size:w.heap.size≤w'.heap.size
 drawn:w.drawn≤w'.drawn
 block:∀b,b<w.heap.size→w'.heap[b]?=w.heap[b]?∨(N≤b∧∃cur tW:Array Value,w.heap[b]?=some (.cells cur E (0,0))∧w'.heap[b]?=some (.cells tW E (0,0))∧tW.size=cur.size∧s<cur.size∧tW.toList.take q=cur.toList.take q)
theorem bj.pfx{N E q s:Nat}{w w':World}(h:bj [] w w'):JM N E q s w w':=⟨h.os,h.tape,h.output,h.size,h.drawn,fun b hb=>.inl (h.block b hb (by simp))⟩
theorem JM.wF{N E q s:Nat}{w w':World}(h:JM N E q s w w') {b:Nat}(hb:b<w.heap.size) (hN:b<N):w'.heap[b]?=w.heap[b]?:=by
 rcases h.block b hb with h1 | ⟨h1,_⟩
 ·
  exact h1
 omega
variable {α:Type}{R:RR α}{E k n c N:Nat}{a:Option Addr}{xs:List α}{Z:Nat→Prop}{w w':World}
theorem JM.ow{s:Nat}(h:JM N E (n*k) s w w') (hz:∀x,Z x→x<N) (ho:Ow R E k Z w a n c xs):Ow R E k Z w' a n c xs:=by
 obtain⟨hn,rows,hl,hk,h1,hR⟩:=ho;have bF:∀x,Z x→x<w.heap.size→w'.heap[x]?=w.heap[x]?:=fun x hx O0=>h.wF O0 (hz x hx);refine⟨hn,rows,hl,hk,⟨h1.1,h1.2.1,?_⟩,fun i x r h2 h3=>R.st h.size bF (hR i x r h2 h3)⟩
 rcases h1.cases with⟨h2,h3,h4,h5⟩ | ⟨g,cur,h2,h3,h4,h5,h6,h7,h8⟩
 ·
  exact .inl ⟨by rw [h2,h3,h4],h3⟩
 have hg:g<w.heap.size:=(Array.getElem?_eq_some_iff.1 h4).1
 rcases h.block g hg with h9 | ⟨_,cu,cu',h9,Oe,h11,_,h13⟩
 ·
  exact .inr ⟨g,c,cur,by rw [h2],h3,by rw [h9];exact h4,h5,h6,h7,h8⟩
 rw [h4] at h9
 simp at h9
 subst h9;exact .inr ⟨g,c,cu',by rw [h2],h3,Oe,h5,h6,by rw [h11];exact h7,by rw [h13];exact h8⟩
theorem JM.blk{q b:Nat}{l:List Value}(h:JM N E q l.length w w') (hb:cJ w b E l):cJ w' b E l:=by
 have hb':w.heap[b]?=some (.cells l.toArray E (0,0)):=hb
 rcases h.block b hb.lt with h1 | ⟨_,cu,cu',h1,_,_,h2,_⟩
 ·
  show _=_;rw [h1];exact hb'
 rw [hb'] at h1;simp at h1;subst h1;simp at h2
theorem O5{P:Program}{T bytes:Nat}(hT:AP P T E k bytes) {ty:TypeId}(nc:Ow R E k Z w a n c xs) (rp:∀x∈aL a,N≤x) {a2:Option Addr}{m c2:Nat}{A:Nat→Prop}{ys:List α}(hx:SR A w k (R.r Z w) a2 m c2 ys)
  (mq:(n+m)*bytes≤140737488355328) (JG:n+m≤140737488355328) (hN:N≤w.heap.size) (hz:∀x,Z x→x<N) {s:Nat}(hs:∀c,a≠none→n+m≤c→s<c*k) :
  ∃a' c' w',(Builtin.append_ #[T,T] ty #[.slice a n c,.slice a2 m c2]).run P w=.ok (.slice a' (n+m) c') w'∧Ow R E k Z w' a' (n+m) c' (xs++ys)∧JM N E (n*k) s w w'∧(∀x∈aL a',N≤x)∧(m=0→a'=a)∧bj (aL a) w w':=by
 obtain⟨hn,rows,hl,hk,h1,hR⟩:=nc;obtain⟨Dq,G4,pP,nQ,h2,hR2⟩:=hx;obtain⟨a',c',w',hr,ho,hc,hf,_,h0,gQ⟩:=Ez hT (ty:=ty) h1 h2 mq JG (Nat.zero_le _)
 have ab3:JM N E (n*k) s w w':=by
  rcases gQ with gQ | ⟨zK,g,cur,tW,h3,h4,h5,h6,h7,h8⟩
  ·
   exact gQ.pfx
  refine⟨hc.os,hc.tape,hc.output,hc.size,hc.drawn,fun b hb=>?_⟩
  by_cases jg:b∈aL a
  ·
   have hgm:g∈aL a:=by rw [h3];simp [aL]
   have e:b=g:=by rw [h3] at jg;simpa [aL] using jg
   subst e;exact .inr ⟨rp b hgm,cur,tW,h4,h5,h6,by rw [h7];exact hs c (by rw [h3];simp) zK,h8⟩
  exact .inl (hc.block b hb jg)
 have bF:∀x,Z x→x<w.heap.size→w'.heap[x]?=w.heap[x]?:=fun x hx O0=>ab3.wF O0 (hz x hx);refine⟨a',c',w',hr,⟨by rw [List.length_append];omega,rows++G4,by simp [hl,pP],?_,by simpa using ho,?_⟩,ab3,fun x hx=>by rcases hf x hx with h | h;exact rp x h;omega,h0,hc⟩
 ·
  intro r hr
  rcases List.mem_append.1 hr with h | h
  ·
   exact hk r h
  exact nQ r h
 intro i x r hi hr
 rcases Nat.lt_or_ge i xs.length with ed | O6
 ·
  rw [List.getElem?_append_left ed] at hi;rw [List.getElem?_append_left (by omega)] at hr;exact R.st hc.size bF (hR i x r hi hr)
 rw [List.getElem?_append_right O6] at hi;rw [List.getElem?_append_right (by omega)] at hr;exact R.st hc.size bF (hR2 (i - xs.length) x r hi (by rw [← hl];exact hr))
section
variable {P:Program}{kv:KV}{K:KV→World→Prop}{d:Tmp}{ty:TypeId}{pos:String}{af:Array Edge}{g:Option (Nat × Bool)}{T bytes mm:Nat}
theorem OX.ab4(hT:AP P T E k bytes) {s x:Operand}{a2:Option Addr}{m c2:Nat}{A:Nat→Prop}{ys:List α}(hd:Nat.blt d mm=true) (hs:ev kv s=some (.slice a n c)) (hx:ev kv x=some (.slice a2 m c2))
  (nc:Ow R E k Z w a n c xs) (rp:∀x∈aL a,N≤x) (EC:SR A w k (R.r Z w) a2 m c2 ys) (mq:(n+m)*bytes≤140737488355328) (JG:n+m≤140737488355328) (hN:N≤w.heap.size) (hz:∀x,Z x→x<N) (q:Nat) (hq:∀c,a≠none→n+m≤c→q<c*k)
  (h:∀a' c' w',Ow R E k Z w' a' (n+m) c' (xs++ys)→JM N E (n*k) q w w'→(∀x∈aL a',N≤x)→(m=0→a'=a)→bj (aL a) w w'→K ((d,.slice a' (n+m) c')::kv) w') :
  OX P ⟨some d,.call {callee:=.builtin .append,args:=#[s,x],argTypes:=#[T,T]},ty,pos,af,g⟩ mm kv w K:=by
 refine⟨rfl,hd,by simp [known,opers,hs,hx],?_⟩;obtain⟨a',c',w',hr,h1,h2,h3,h4,h5⟩:=O5 hT (ty:=ty) nc rp EC mq JG hN hz hq
 have jz:(execOp (mi kv) ⟨some d,.call {callee:=.builtin .append,args:=#[s,x],argTypes:=#[T,T]},ty,pos,af,g⟩).run P w=.ok (.value (.slice a' (n+m) c')) w':=by
  simp only [execOp,resolve,invoke,builtin,Sem.run_bind,Sem.run_pure,Result.andThen_ok,List.map_toArray,List.map_cons,List.map_nil,aK hs,aK hx,hr]
 rw [jz];exact h _ _ _ h1 h2 h3 h4 h5
theorem JM.st{w0:World}{M:Nat→Prop}{l:List As}{q s:Nat}(h:JM N E q s w w') (bF:St w0 M Z w l) (hl:∀x,rh l x→x<N) (hz:∀x,Z x→x<N) (h0:w0.heap.size≤N):St w0 M Z w' l where
 cX:=⟨h.os.trans bF.cX.os,h.tape.trans bF.cX.tape,h.output.trans bF.cX.output,Nat.le_trans bF.cX.size h.size,Nat.le_trans bF.cX.drawn h.drawn,fun k hk hn=>by
  rw [h.wF (Nat.lt_of_lt_of_le hk bF.cX.size) (by omega)];exact bF.cX.block k hk hn⟩
 mj x hx:=Nat.lt_of_lt_of_le (bF.mj x hx) h.size
 pI:=bF.pI
 rf:=bF.rf
 wA:=bF.wA
 ok A hA:=A.st h.size (fun x hx O0=>h.wF O0 (by rcases hx with hx | hx;exact hl x ⟨A,hA,hx⟩;exact hz x hx)) (bF.ok A hA)
end
theorem Ow.ext{α:Type}{R:RR α}{E k n c:Nat}{a:Option Addr}{xs:List α}{Z:Nat→Prop}{w w':World}(h:Ow R E k Z w a n c xs) (s:bj [] w w'):Ow R E k Z w' a n c xs:=
 (As.os R E k a n c xs).st s.size (fun x _ hx=>s.block x hx (by simp)) h
section
variable {P:Program}{n:Nat}{kv:KV}{w:World}{K:KV→World→Prop}{d:Tmp}{ty:TypeId}{pos:String}{af:Array Edge}{g:Option (Nat × Bool)}{op:Op}{v:Value}
theorem OX.pv(h:PV P op ty kv w v) (hd:Nat.blt d n=true) (hK:K ((d,v)::kv) w):OX P ⟨some d,op,ty,pos,af,g⟩ n kv w K:=⟨h.1,hd,h.2.1,by rw [h.2.2];exact hK⟩
end
section
variable {κ:Type} [DecidableEq κ] {enc:κ→Value}{P:Program}{kt e ty T:TypeId}{w:World}{b:Nat}{l:List (κ × Value)}{kv:KV}
theorem PV.mA(hK:KK P kt enc) (hT:P.underlying T=some (.map kt e)) {z:Value}(hz:∀w,(zeroValue e).run P w=.ok z w) (hb:KM enc w b l) {x y:Operand}{k:κ}{v:Value}(hv:(ck l k).getD z=v) (hx:ev kv x=some (.map (some b))) (hy:ev kv y=some (enc k)):PV P (.lookup T x y false) ty kv w v:=by
 have:=PV.look (ty:=ty) hK hT hz hb hx hy
 rw [hv] at this;exact this
end
def O7(N:Nat) (P:List (Key × Value)→Prop) (v:Value) (w:World):Prop:=∃b m,v=.map (some b)∧N≤b∧KM Key.val w b m∧P m
theorem O7.st{N:Nat}{P:List (Key × Value)→Prop}{F:Nat→Prop}(hN:∀x,F x→x<N) {v:Value}{w w':World}(c:jf F w w') (h:O7 N P v w):O7 N P v w':=by
 obtain⟨b,m,h1,h2,h3,h4⟩:=h;exact⟨b,m,h1,h2,(As.map Key.val b m).st (Z:=fun _=>False) c.size (fun x hx hl=>c.block x hl fun hf=>by rcases hx with hx | hx;have hx:x=b:=hx;subst hx;have:=hN x hf;omega;exact hx.elim) h3,h4⟩
theorem St.cg0{w w':World}{Z:Nat→Prop}{l:List As}(h:St w (rh []) Z w' l):bj [] w w':=h.cX.cX fun _ ⟨_,hA,_⟩=>by cases hA
theorem St.rb{w:World}{M Z:Nat→Prop}(h:St w M Z w []):St w (fun _=>False) Z w []:=St.start h.mj
theorem St.wk{w0 w:World}{M Z:Nat→Prop}{l:List As}(h:St w0 (fun _=>False) Z w l):St w0 M Z w l:=h.abZ fun _ _ h=>h.elim
theorem St.fresh{w0 w:World}{Z:Nat→Prop}{l:List As}{A:As}(h:St w0 (fun _=>False) Z w (A::l)):∀x,A.fp x→w0.heap.size≤x:=fun x hx=>by
 rcases h.rf A (by simp) x hx with h1 | h1
 ·
  exact h1.elim
 exact h1
end Go.Rc

namespace Go.Rc
open Go
section
variable {P:Program}{Q:Exit→Act→World→Prop}{n:Nat}{kv:KV}{w0 w:World}{M Z:Nat→Prop}
theorem OX.W3{x y:Operand}{k b o N:Nat}{T:TypeId}{ty:TypeId}{pos:String}{af:Array Edge}{g:Option (Nat × Bool)}{K:KV→World→Prop}{e:TypeId}{l us l':List Value}(hT:(P.info? T).map (·.size)=some k) (hb:cJ w b e l) (hx:ev kv x=some (.pointer (some ⟨b,0+o,none⟩))) (hy:ev kv y=some (.agg us.toArray))
  (hk:us.length=k) (h1:(Nat.ble (o+us.length) l.length && us.all (·.oneCell'))=true) (hl:l.take o++us++l.drop (o+us.length)=l')
  (h:∀w',bj [b] w w'→cJ w' b e l'→K kv w') :
  OX P ⟨none,.store T x y,ty,pos,af,g⟩ N kv w K:=by
 simp only [Bool.and_eq_true] at h1
 exact OX.stA hT hb (by rw [hx,Nat.zero_add]) hy hk (Nat.le_of_ble_eq_true h1.1) (fun v hv=>List.all_eq_true.1 h1.2 v hv) hl fun w' a _ c=>h w' a c
theorem St.Cl{A B:As}{l:List As}(h:St w0 M Z w (A::l)) (e:A=B):St w0 M Z w (B::l):=by subst e;exact h
def PS(N T len:Nat) (cs:List Value) (v:Value) (w:World):Prop:=∃b,v=.slice (some ⟨b,0,none⟩) len len∧N≤b∧cJ w b T cs
theorem PS.st{N T len:Nat}{cs:List Value}{F:Nat→Prop}(hN:∀x,F x→x<N) {v:Value}{w w':World}(c:jf F w w') (h:PS N T len cs v w):PS N T len cs v w':=by
 obtain⟨b,h1,h2,h3⟩:=h;exact⟨b,h1,h2,by have h4:_=_:=h3;show _=_;rw [c.block b h3.lt fun hf=>by have:=hN b hf;omega];exact h4⟩
theorem PS.pb{N T len b:Nat}{cs:List Value}{w:World}(h:PS N T len cs (.slice (some ⟨b,0,none⟩) len len) w):PB N T cs (.pointer (some ⟨b,0,none⟩)) w:=by
 obtain⟨b',h1,h2,h3⟩:=h
 simp at h1;subst h1;exact⟨_,rfl,h2,h3⟩
theorem St.swap{A B:As}{l:List As}{N:Nat}(h:St w0 M Z w (A::l)) (hB:B.ok Z w) (GG:∀x,B.fp x→A.fp x∨N≤x) (hl:∀x,rh (A::l) x→x<N) (hz:∀x,Z x→x<N) (h0:w0.heap.size≤N):St w0 M Z w (B::l) where
 cX:=h.cX
 mj:=h.mj
 pI D hD x hx RG:=by
  rcases List.mem_cons.1 hD with rfl | hD
  ·
   rcases GG x hx with h1 | h1
   ·
    exact h.pI A (by simp) x h1 RG
   have:=hz x RG;omega
  exact h.pI D (by simp [hD]) x hx RG
 rf D hD x hx:=by
  rcases List.mem_cons.1 hD with rfl | hD
  ·
   rcases GG x hx with h1 | h1
   ·
    exact h.rf A (by simp) x h1
   exact .inr (Nat.le_trans h0 h1)
  exact h.rf D (by simp [hD]) x hx
 wA:=List.pairwise_cons.2 ⟨fun D hD x hx hd=>by
  rcases GG x hx with h1 | h1
  ·
   exact(List.pairwise_cons.1 h.wA).1 D hD x h1 hd
  have:=hl x ⟨D,by simp [hD],hd⟩;omega,(List.pairwise_cons.1 h.wA).2⟩
 ok D hD:=by
  rcases List.mem_cons.1 hD with rfl | hD
  ·
   exact hB
  exact h.ok D (by simp [hD])
theorem O8{α:Type}{R:RR α}{E k n c:Nat}{a:Option Addr}{xs:List α}{T bytes:Nat}(hT:AP P T E k bytes) {ty:TypeId}(nc:Ow R E k Z w a n c xs) (hzd:∀x∈aL a,¬Z x) {a2:Option Addr}{m c2:Nat}{A:Nat→Prop}{ys:List α}(hx:SR A w k (R.r Z w) a2 m c2 ys)
  (mq:(n+m)*bytes≤140737488355328) (JG:n+m≤140737488355328) :
  ∃a' c' w',(Builtin.append_ #[T,T] ty #[.slice a n c,.slice a2 m c2]).run P w=.ok (.slice a' (n+m) c') w'∧Ow R E k Z w' a' (n+m) c' (xs++ys)∧Ow R E k Z w' a n c xs∧bj (aL a) w w'∧(∀x∈aL a',x∈aL a∨w.heap.size≤x):=by
 obtain⟨hn,rows,hl,hk,h1,hR⟩:=nc;obtain⟨Dq,G4,pP,nQ,h2,hR2⟩:=hx;obtain⟨a',c',w',hr,ho,hc,hf,_,h0,gQ⟩:=Ez hT (ty:=ty) h1 h2 mq JG (Nat.zero_le _)
 have bF:∀x,Z x→x<w.heap.size→w'.heap[x]?=w.heap[x]?:=fun x hx O0=>hc.block x O0 fun hm=>hzd x hm hx
 refine⟨a',c',w',hr,⟨by rw [List.length_append];omega,rows++G4,by simp [hl,pP],?_,by simpa using ho,?_⟩,⟨hn,rows,hl,hk,⟨h1.1,h1.2.1,?_⟩,fun i x r h2 h3=>R.st hc.size bF (hR i x r h2 h3)⟩,hc,hf⟩
 ·
  intro r hr
  rcases List.mem_append.1 hr with h | h
  ·
   exact hk r h
  exact nQ r h
 ·
  intro i x r hi hr
  rcases Nat.lt_or_ge i xs.length with ed | O6
  ·
   rw [List.getElem?_append_left ed] at hi;rw [List.getElem?_append_left (by omega)] at hr;exact R.st hc.size bF (hR i x r hi hr)
  rw [List.getElem?_append_right O6] at hi;rw [List.getElem?_append_right (by omega)] at hr;exact R.st hc.size bF (hR2 (i - xs.length) x r hi (by rw [← hl];exact hr))
 rcases h1.cases with⟨h2,h3,h4,h5⟩ | ⟨g,cur,h2,h3,h4,h5,h6,h7,h8⟩
 ·
  exact .inl ⟨by rw [h2,h3,h4],h3⟩
 have hg:g<w.heap.size:=(Array.getElem?_eq_some_iff.1 h4).1
 rcases gQ with gQ | ⟨zK,g',cu,cu',h9,Oe,h11,h12,_,h13⟩
 ·
  exact .inr ⟨g,c,cur,by rw [h2],h3,by rw [gQ.block g hg (by simp)];exact h4,h5,h6,h7,h8⟩
 rw [h2] at h9
 simp at h9
 subst h9;rw [h4] at Oe
 simp at Oe
 subst Oe;exact .inr ⟨g,c,cu',by rw [h2],h3,h11,h5,h6,by rw [h12];exact h7,by rw [h13];exact h8⟩
theorem OX.ais{α:Type}{R:RR α}{E k c j:Nat}{a:Option Addr}{xs:List α}{T bytes mm:Nat}{K:KV→World→Prop}{d:Tmp}{ty:TypeId}{pos:String}{af:Array Edge}{g:Option (Nat × Bool)}(hT:AP P T E k bytes) {s x:Operand}{a2:Option Addr}{m c2:Nat}{A:Nat→Prop}{ys:List α}(hd:Nat.blt d mm=true) (hs:ev kv s=some (.slice a j c)) (hx:ev kv x=some (.slice a2 m c2))
  (nc:Ow R E k Z w a j c xs) (hzd:∀x∈aL a,¬Z x) (EC:SR A w k (R.r Z w) a2 m c2 ys) (mq:(j+m)*bytes≤140737488355328) (JG:j+m≤140737488355328)
  (h:∀a' c' w',Ow R E k Z w' a' (j+m) c' (xs++ys)→Ow R E k Z w' a j c xs→bj (aL a) w w'→(∀x∈aL a',x∈aL a∨w.heap.size≤x)→K ((d,.slice a' (j+m) c')::kv) w') :
  OX P ⟨some d,.call {callee:=.builtin .append,args:=#[s,x],argTypes:=#[T,T]},ty,pos,af,g⟩ mm kv w K:=by
 refine⟨rfl,hd,by simp [known,opers,hs,hx],?_⟩;obtain⟨a',c',w',hr,h1,h2,h3,h4⟩:=O8 hT (ty:=ty) nc hzd EC mq JG
 have jz:(execOp (mi kv) ⟨some d,.call {callee:=.builtin .append,args:=#[s,x],argTypes:=#[T,T]},ty,pos,af,g⟩).run P w=.ok (.value (.slice a' (j+m) c')) w':=by
  simp only [execOp,resolve,invoke,builtin,Sem.run_bind,Sem.run_pure,Result.andThen_ok,List.map_toArray,List.map_cons,List.map_nil,aK hs,aK hx,hr]
 rw [jz];exact h _ _ _ h1 h2 h3 h4
theorem WC.Su{id m:Nat}{l:List Oper}{ls:List As}(X:List Nat) (T:Nat→World→World→Prop) {E:Nat→Option (Value→World→Prop)}(bF:St w0 M Z w ls)
  (hS:∀i S,E i=some S→∀j S',E j=some S'→j≠i→j∉j3 l.toArray i→∀v w1 w2,(w.heap.size≤w1.heap.size∧St w0 M Z w1 ls)→(w.heap.size≤w2.heap.size∧St w0 M Z w2 ls)→T j w1 w2→S v w1→S v w2) (hm:P.follows .mixedOrders=true) (eO:zF l m X=true) (WG:(X.all fun x=>(E x).isNone)=true)
  (GD:DW P l.toArray n (fun wx=>w.heap.size≤wx.heap.size∧St w0 M Z wx ls) T E (fun kv w=>WL P l.toArray (NP Q) (l.drop m) n kv w) 0 (l.take m) kv []):WC P (.region id l.toArray true) Q n kv w:=
 WC.Lr (C:=fun wx=>w.heap.size≤wx.heap.size∧St w0 M Z wx ls) (T:=T) WG hS hm eO ⟨Nat.le_refl _,bF.step (bj.drew [] w)⟩ GD
theorem WC.ua{id m:Nat}{l:List Oper}{ls:List As}(X:List Nat) {E:Nat→Option (Value→World→Prop)}(bF:St w0 M Z w ls)
  (hS:∀i S,E i=some S→∀j S',E j=some S'→j≠i→j∉j3 l.toArray i→∀v w1 w2,(w.heap.size≤w1.heap.size∧St w0 M Z w1 ls)→(w.heap.size≤w2.heap.size∧St w0 M Z w2 ls)→jf (rh ls) w1 w2→S v w1→S v w2) (hm:P.follows .mixedOrders=true) (eO:zF l m X=true) (WG:(X.all fun x=>(E x).isNone)=true)
  (GD:DW P l.toArray n (fun wx=>w.heap.size≤wx.heap.size∧St w0 M Z wx ls) (fun _=>jf (rh ls)) E (fun kv w=>WL P l.toArray (NP Q) (l.drop m) n kv w) 0 (l.take m) kv []):WC P (.region id l.toArray true) Q n kv w:=
 WC.Lr (C:=fun wx=>w.heap.size≤wx.heap.size∧St w0 M Z wx ls) (T:=fun _=>jf (rh ls)) WG hS hm eO ⟨Nat.le_refl _,bF.step (bj.drew [] w)⟩ GD
end
end Go.Rc

