/- Base of the proof: frames, memory, ownership, and the plain meaning of rule systems. Conditions: as each lemma says. -/
import Derived.Test.YtjpagoacbadijaaGreatDoorNBb
set_option linter.all false
namespace Go.Rc
open Go
variable {E EK ER EI base:Nat}{w w':World}{a:Option Addr}{n c:Nat}{S:List Nat}
structure Rec where
 key:Key
 value:ByteArray
 reads:List Key
 changed:Int
 ax:Int
 cost:Int
 bU:Bool
 deriving DecidableEq
instance:Inhabited Rec:=⟨⟨da,⟨#[]⟩,[],0,0,0,false⟩⟩
def sf:Rec:=⟨da,⟨#[]⟩,[],0,0,0,false⟩
def Rec.row(x:Rec) (a:Option Addr) (n c:Nat):List Value:=[.int .i64 x.key.kind,.string x.key.text,.string x.value,.slice a n c,.int .i64 x.changed,.int .i64 x.ax,.int .i64 x.cost,.bool x.bU]
structure dB where
 key:Key
 value:ByteArray
 changed:Int
 deriving DecidableEq
def dB.cells(x:dB):List Value:=[.int .i64 x.key.kind,.string x.key.text,.string x.value,.int .i64 x.changed]
structure dQ where
 ad:Int
 ae:List dB
 ak:List Rec
 deriving DecidableEq
/-! the plain meaning -/
def aC(l:List Rec) (k:Key):Option Rec:=l.find? fun r=>r.key == k
def db(l:List dB) (k:Key):dB:=(l.find? fun x=>x.key == k).getD ⟨k,⟨#[]⟩,0⟩
def jq(l:List Rec) (k:Key):List Rec:=l.filter fun r=>!(r.key == k)
end Go.Rc
namespace Go.Rc
open Go
theorem lG{α:Type}{p:α→Bool}{l:List α}{i:Nat}(hi:i<l.length) (gV:∀j x,j<i→l[j]?=some x→p x=false) (hp:p l[i]=true):l.find? p=some l[i]:=by
 induction l generalizing i with
 | nil=>simp at hi
 | cons y r ih=>
  cases i with
  | zero=>simp at hp;simp [hp]
  | succ i=>
   have h0:p y=false:=gV 0 y (by omega) rfl
   grind
theorem um{α:Type}{p:α→Bool}{l:List α}{i:Nat}(hi:l.length≤i) (gV:∀j x,j<i→l[j]?=some x→p x=false):l.find? p=none:=by
 rw [List.find?_eq_none];intro x hx;obtain⟨j,hj,rfl⟩:=List.mem_iff_getElem.1 hx
 simp [gV j _ (by omega) (List.getElem?_eq_getElem hj)]
theorem Rec.one(x:Rec) (a:Option Addr) (n c:Nat):∀u∈x.row a n c,u.oneCell'=true:=by simp [Rec.row,Value.oneCell']
end Go.Rc
namespace Go.Rc
theorem nns{l:List Go.Value}{j:Nat}{v:Go.Value}(h:nth l j=some v):nth l j≠none:=by rw [h];simp
end Go.Rc
namespace Go.Rc
open Go
def gg(r:Rec):List Rec→Bool→List Rec
 | [],put=>if put then [] else [r]
 | x::xs,put=>(if decide (0≤cw x.key r.key) && !put then [r] else [])++(if cw x.key r.key=0 then [] else [x])++gg r xs (put || decide (0≤cw x.key r.key))
def fR(l:List Rec) (r:Rec):List Rec:=gg r l false
theorem vA(r:Rec):∀(l:List Rec) (b:Bool),(gg r l b).length≤l.length+1:=by
 intro l
 induction l with
 | nil=>intro b;cases b <;> simp [gg]
 | cons x xs ih=>
  intro b;have h1:=ih (b || decide (0≤cw x.key r.key));simp only [gg,List.length_append,List.length_cons]
  have h2:∀l:List Rec,(gg r l true).length≤l.length:=by
   intro l
   induction l with
   | nil=>simp [gg]
   | cons y ys ih2=>simp only [gg,Bool.not_true,Bool.and_false,Bool.false_eq_true,if_false,Bool.true_or,List.length_append,List.length_cons,List.nil_append];split <;> simp <;> omega
  grind
theorem IE{l:List Rec}{k:Key}{i:Nat}(h:i<l.length):jq (l.take (i+1)) k=if l[i].key=k then jq (l.take i) k else jq (l.take i) k++[l[i]]:=by
 rw [List.take_succ_eq_append_getElem h];simp only [jq,List.filter_append]
 grind
theorem vB(l:List Rec) (k:Key):(jq l k).length≤l.length:=List.length_filter_le _ _
end Go.Rc
namespace Go.Rc
open Go
def iu(x:Rec):Bool:=
 gO x.key && (!az x.key && (decide ((x.value.size:Int)≤1073741824) && (decide ((x.reads.length:Int)≤4000) && (decide (0≤x.changed) && (decide (x.changed≤x.ax) && (decide (x.ax≤1073741824) &&
  (decide (1≤x.cost) && (decide (x.cost≤1073741824) && (!x.bU || aA x.key)))))))))
def fK(x:Rec):Bool:=x.reads.all gO && iu x
def vC(l:List Rec) (i:Nat):Bool:=!fK l[i]! || (decide (0<(i:Int)) && decide (0≤cw l[i - 1]!.key l[i]!.key))
def uo(l:List Rec) (i:Nat) (x:Rec):Prop:=fK x=true∧(0<i→cw l[i - 1]!.key x.key<0)
def qt(l:List Rec):Prop:=l.length≤4000∧∀i x,l[i]?=some x→uo l i x
theorem uq{l:List Rec}{i:Nat}(hi:i<l.length):vC l i=false↔uo l i l[i]:=by
 simp only [vC,uo,getElem!_pos l i hi,Bool.or_eq_false_iff,Bool.and_eq_false_iff,decide_eq_false_iff_not,Bool.not_eq_false']
 grind
end Go.Rc

namespace Go.Rc
open Go
structure jb (M:Nat→Prop) (w w':World):Prop where
 os:w'.os=w.os
 tape:w'.tape=w.tape
 output:w'.output=w.output
 size:w.heap.size≤w'.heap.size
 drawn:w.drawn≤w'.drawn
 block:∀k,k<w.heap.size→¬M k→w'.heap[k]?=w.heap[k]?
theorem aV.p{S:List Nat}{w w':World}(h:aV S w w'):jb (fun x=>x∈S) w w':=⟨h.os,h.tape,h.output,h.size,h.drawn,h.block⟩
theorem jb.cT{M:Nat→Prop}{w w':World}(h:jb M w w') (hM:∀x,M x→w.heap.size≤x):aV [] w w':=
 ⟨h.os,h.tape,h.output,h.size,h.drawn,fun k hk _=>h.block k hk fun hm=>by have:=hM k hm;omega⟩
theorem jb.refl(M:Nat→Prop) (w:World):jb M w w:=⟨rfl,rfl,rfl,Nat.le_refl _,Nat.le_refl _,fun _ _ _=>rfl⟩
theorem jb.mono{M M':Nat→Prop}{w w':World}(h:jb M w w') (hM:∀x,x<w.heap.size→M x→M' x):jb M' w w':=⟨h.os,h.tape,h.output,h.size,h.drawn,fun k hk hn=>h.block k hk fun hm=>hn (hM k hk hm)⟩
structure As where
 fp:Nat→Prop
 ok:(Nat→Prop)→World→Prop
 lt:∀{Z w},ok Z w→∀x,fp x→x<w.heap.size
 mono:∀{Z Z':Nat→Prop}{w},(∀x,Z x→Z' x)→ok Z w→ok Z' w
 st:∀{Z:Nat→Prop}{w w':World},w.heap.size≤w'.heap.size→(∀x,fp x∨Z x→x<w.heap.size→w'.heap[x]?=w.heap[x]?)→ok Z w→ok Z w'
structure St (w0:World) (M Z:Nat→Prop) (w:World) (l:List As):Prop where
 cT:jb M w0 w
 ma:∀x,Z x→x<w.heap.size
 o9:∀A∈l,∀x,A.fp x→¬Z x
 qh:∀A∈l,∀x,A.fp x→M x∨w0.heap.size≤x
 vD:l.Pairwise fun A B=>∀x,A.fp x→¬B.fp x
 ok:∀A∈l,A.ok Z w
structure cN (n:Nat) (Z Z':Nat→Prop):Prop where
 up:∀x,Z x→Z' x
 new:∀x,Z' x→Z x∨n≤x
theorem cN.refl(n:Nat) (Z:Nat→Prop):cN n Z Z:=⟨fun _ h=>h,fun _ h=>.inl h⟩
theorem cN.trans{n n':Nat}{Z Z' Z'':Nat→Prop}(h:cN n Z Z') (k:cN n' Z' Z'') (hn:n≤n'):cN n Z Z'':=
 ⟨fun x hx=>k.up x (h.up x hx),fun x hx=>by rcases k.new x hx with h1 | h1;exact h.new x h1;exact .inr (Nat.le_trans hn h1)⟩
theorem cN.le{n n':Nat}{Z Z':Nat→Prop}(h:cN n Z Z') (hn:n'≤n):cN n' Z Z':=⟨h.up,fun x hx=>by rcases h.new x hx with h1 | h1;exact .inl h1;exact .inr (Nat.le_trans hn h1)⟩
def rO(l:List As) (x:Nat):Prop:=∃A∈l,A.fp x
section
variable {w0 w w':World}{M Z Z':Nat→Prop}{l l0 l1 rest:List As}{A B:As}
theorem St.size(h:St w0 M Z w l):w0.heap.size≤w.heap.size:=h.cT.size
theorem St.start(hz:∀x,Z x→x<w.heap.size):St w M Z w []:=⟨jb.refl _ _,hz,by simp,by simp,.nil,by simp⟩
theorem St.perm{l':List As}(h:St w0 M Z w l) (hp:List.Perm l' l):St w0 M Z w l':=
 ⟨h.cT,h.ma,fun A hA=>h.o9 A (hp.mem_iff.1 hA),fun A hA=>h.qh A (hp.mem_iff.1 hA),
  h.vD.perm hp.symm (fun VL x hb ha=>VL x ha hb),fun A hA=>h.ok A (hp.mem_iff.1 hA)⟩
theorem St.enter(h:St w0 M Z w (l0++rest)):St w (rO l0) Z w l0:=
 ⟨jb.refl _ _,h.ma,fun A hA=>h.o9 A (by simp [hA]),fun A hA x hx=>.inl ⟨A,hA,hx⟩,(List.pairwise_append.1 h.vD).1,fun A hA=>h.ok A (by simp [hA])⟩
theorem St.leave(h:St w0 M Z w (l0++rest)) (h':St w (rO l0) Z' w' l1) (hz:cN w.heap.size Z Z'):St w0 M Z' w' (l1++rest):=by
 obtain⟨Ry,QN,hd3⟩:=List.pairwise_append.1 h.vD;have hM:∀x,rO l0 x→M x∨w0.heap.size≤x:=fun x ⟨A,hA,hx⟩=>h.qh A (by simp [hA]) x hx;have ee:∀A∈rest,∀x,A.fp x→x<w.heap.size:=fun A hA=>A.lt (h.ok A (by simp [hA]));have hfz:∀x,rO l0 x→¬Z x:=fun x ⟨A,hA,hx⟩=>h.o9 A (by simp [hA]) x hx;refine⟨⟨h'.cT.os.trans h.cT.os,h'.cT.tape.trans h.cT.tape,h'.cT.output.trans h.cT.output,Nat.le_trans h.cT.size h'.cT.size,Nat.le_trans h.cT.drawn h'.cT.drawn,fun k hk hn=>?_⟩,h'.ma,?_,?_,?_,?_⟩
 ·
  rw [h'.cT.block k (Nat.lt_of_lt_of_le hk h.cT.size) fun hf=>by grind];exact h.cT.block k hk hn
 ·
  intro A hA x hx QO
  rcases List.mem_append.1 hA with hA | hA
  ·
   exact h'.o9 A hA x hx QO
  rcases hz.new x QO with h1 | h1
  ·
   exact h.o9 A (by simp [hA]) x hx h1
  have:=ee A hA x hx;omega
 ·
  intro A hA x hx
  rcases List.mem_append.1 hA with hA | hA
  ·
   rcases h'.qh A hA x hx with h1 | h1
   ·
    exact hM x h1
   exact .inr (Nat.le_trans h.cT.size h1)
  exact h.qh A (by simp [hA]) x hx
 ·
  refine List.pairwise_append.2 ⟨h'.vD,QN,fun A hA B hB x hx hb=>?_⟩
  rcases h'.qh A hA x hx with⟨C,hC,h1⟩ | h1
  ·
   exact hd3 C hC B hB x h1 hb
  have:=ee B hB x hb;omega
 intro A hA
 rcases List.mem_append.1 hA with hA | hA
 ·
  exact h'.ok A hA
 refine A.mono (Z:=Z) hz.up (A.st h'.cT.size (fun x hx N9=>h'.cT.block x N9 fun⟨C,hC,hc⟩=>?_) (h.ok A (by simp [hA])))
 grind
theorem St.step(h:St w0 M Z w l) (s:aV [] w w'):St w0 M Z w' l:=
 St.leave (l0:=[]) (l1:=[]) h ⟨s.p.mono (by simp),fun x hx=>Nat.lt_of_lt_of_le (h.ma x hx) s.size,by simp,by simp,.nil,by simp⟩ (cN.refl _ _)
theorem St.new(h:St w0 M Z w l) (s:aV [] w w') (eX:B.ok Z w') (FH:∀x,B.fp x→w.heap.size≤x):St w0 M Z w' (B::l):=
 St.leave (l0:=[]) (l1:=[B]) h ⟨s.p.mono (by simp),fun x hx=>Nat.lt_of_lt_of_le (h.ma x hx) s.size,fun A hA x hx hz=>by simp at hA;subst hA;have:=FH x hx;have:=h.ma x hz;omega,
  fun A hA x hx=>by grind,by simp,fun A hA=>by simp at hA;subst hA;exact eX⟩ (cN.refl _ _)
theorem St.fact(h:St w0 M Z w l) (eX:B.ok Z w) (FH:∀x,¬B.fp x):St w0 M Z w (B::l):=h.new (aV.refl _ _) eX fun x hx=>absurd hx (FH x)
theorem St.nP(h:St w0 M Z w (A::l)) (s:jb A.fp w w') (eX:B.ok Z w') (FH:∀x,B.fp x→A.fp x∨w.heap.size≤x):St w0 M Z w' (B::l):=
 St.leave (l0:=[A]) (l1:=[B]) h ⟨s.mono fun x _ hx=>⟨A,by simp,hx⟩,fun x hx=>Nat.lt_of_lt_of_le (h.ma x hx) s.size,fun C hC x hx hz=>by
   simp at hC;subst hC
   rcases FH x hx with h1 | h1
   ·
    exact h.o9 A (by simp) x h1 hz
   have:=h.ma x hz;omega,
  fun C hC x hx=>by
   simp at hC;subst hC
   rcases FH x hx with h1 | h1
   ·
    exact .inl ⟨A,by simp,h1⟩
   exact .inr h1,by simp,fun C hC=>by simp at hC;subst hC;exact eX⟩ (cN.refl _ _)
theorem St.freeze(h:St w0 M Z w (A::l)) (eX:B.ok (fun x=>Z x∨A.fp x) w) (FH:∀x,¬B.fp x):St w0 M (fun x=>Z x∨A.fp x) w (B::l):=by
 refine⟨h.cT,fun x hx=>?_,?_,?_,?_,?_⟩
 ·
  rcases hx with hx | hx
  ·
   exact h.ma x hx
  exact A.lt (h.ok A (by simp)) x hx
 ·
  intro C hC x hx hz;simp only [List.mem_cons] at hC
  rcases hC with rfl | hC
  ·
   exact FH x hx
  rcases hz with hz | hz
  ·
   exact h.o9 C (by simp [hC]) x hx hz
  exact(List.pairwise_cons.1 h.vD).1 C hC x hz hx
 ·
  intro C hC x hx;simp only [List.mem_cons] at hC
  rcases hC with rfl | hC
  ·
   exact absurd hx (FH x)
  exact h.qh C (by simp [hC]) x hx
 ·
  exact List.pairwise_cons.2 ⟨fun C _ x hx=>absurd hx (FH x),(List.pairwise_cons.1 h.vD).2⟩
 intro C hC;simp only [List.mem_cons] at hC
 rcases hC with rfl | hC
 ·
  exact eX
 exact C.mono (fun x hx=>.inl hx) (h.ok C (by simp [hC]))
theorem St.drop(h:St w0 M Z w (A::l)):St w0 M Z w l:=
 ⟨h.cT,h.ma,fun C hC=>h.o9 C (by simp [hC]),fun C hC=>h.qh C (by simp [hC]),(List.pairwise_cons.1 h.vD).2,fun C hC=>h.ok C (by simp [hC])⟩
theorem St.conv(h:St w0 M Z w (A::l)) (eX:B.ok Z w) (FH:∀x,B.fp x→A.fp x):St w0 M Z w (B::l):=h.nP (jb.refl _ _) eX fun x hx=>.inl (FH x hx)
theorem St.abb{M':Nat→Prop}(h:St w0 M Z w l) (hM:∀x,x<w0.heap.size→M x→M' x):St w0 M' Z w l:=
 ⟨h.cT.mono hM,h.ma,h.o9,fun A hA x hx=>by
  rcases h.qh A hA x hx with h1 | h1
  ·
   grind
  exact .inr h1,h.vD,h.ok⟩
theorem St.lH{l0:List As}(h:St w0 M Z w (l0++l)):St w0 M Z w l0:=⟨h.cT,h.ma,fun C hC=>h.o9 C (by simp [hC]),fun C hC=>h.qh C (by simp [hC]),(List.pairwise_append.1 h.vD).1,fun C hC=>h.ok C (by simp [hC])⟩
theorem St.k0(h:St w0 M Z w l):St w0 M Z w []:=St.lH (l0:=[]) h
theorem St.k1{A0:As}(h:St w0 M Z w (A0::l)):St w0 M Z w [A0]:=St.lH (l0:=[A0]) h
theorem St.k2{A0 A1:As}(h:St w0 M Z w (A0::A1::l)):St w0 M Z w [A0,A1]:=St.lH (l0:=[A0,A1]) h
theorem St.k3{A0 A1 A2:As}(h:St w0 M Z w (A0::A1::A2::l)):St w0 M Z w [A0,A1,A2]:=St.lH (l0:=[A0,A1,A2]) h
theorem St.k4{A0 A1 A2 A3:As}(h:St w0 M Z w (A0::A1::A2::A3::l)):St w0 M Z w [A0,A1,A2,A3]:=St.lH (l0:=[A0,A1,A2,A3]) h
theorem St.e0(h:St w0 M Z w l):St w (rO []) Z w []:=St.enter (l0:=[]) h
theorem St.e1{A0:As}(h:St w0 M Z w (A0::l)):St w (rO [A0]) Z w [A0]:=St.enter (l0:=[A0]) h
theorem St.e2{A0 A1:As}(h:St w0 M Z w (A0::A1::l)):St w (rO [A0,A1]) Z w [A0,A1]:=St.enter (l0:=[A0,A1]) h
theorem St.e4{A0 A1 A2 A3:As}(h:St w0 M Z w (A0::A1::A2::A3::l)):St w (rO [A0,A1,A2,A3]) Z w [A0,A1,A2,A3]:=St.enter (l0:=[A0,A1,A2,A3]) h
theorem St.e5{A0 A1 A2 A3 A4:As}(h:St w0 M Z w (A0::A1::A2::A3::A4::l)):St w (rO [A0,A1,A2,A3,A4]) Z w [A0,A1,A2,A3,A4]:=St.enter (l0:=[A0,A1,A2,A3,A4]) h
theorem St.g0{A0:As}(h:St w0 M Z w (A0::l)):A0.ok Z w:=h.ok _ (by simp)
theorem St.g1{A0 A1:As}(h:St w0 M Z w (A0::A1::l)):A1.ok Z w:=h.ok _ (by simp)
theorem St.g2{A0 A1 A2:As}(h:St w0 M Z w (A0::A1::A2::l)):A2.ok Z w:=h.ok _ (by simp)
theorem St.g3{A0 A1 A2 A3:As}(h:St w0 M Z w (A0::A1::A2::A3::l)):A3.ok Z w:=h.ok _ (by simp)
theorem St.g4{A0 A1 A2 A3 A4:As}(h:St w0 M Z w (A0::A1::A2::A3::A4::l)):A4.ok Z w:=h.ok _ (by simp)
theorem St.g5{A0 A1 A2 A3 A4 A5:As}(h:St w0 M Z w (A0::A1::A2::A3::A4::A5::l)):A5.ok Z w:=h.ok _ (by simp)
theorem St.g6{A0 A1 A2 A3 A4 A5 A6:As}(h:St w0 M Z w (A0::A1::A2::A3::A4::A5::A6::l)):A6.ok Z w:=h.ok _ (by simp)
theorem St.g7{A0 A1 A2 A3 A4 A5 A6 A7:As}(h:St w0 M Z w (A0::A1::A2::A3::A4::A5::A6::A7::l)):A7.ok Z w:=h.ok _ (by simp)
theorem St.g8{A0 A1 A2 A3 A4 A5 A6 A7 A8:As}(h:St w0 M Z w (A0::A1::A2::A3::A4::A5::A6::A7::A8::l)):A8.ok Z w:=h.ok _ (by simp)
theorem St.g9{A0 A1 A2 A3 A4 A5 A6 A7 A8 A9:As}(h:St w0 M Z w (A0::A1::A2::A3::A4::A5::A6::A7::A8::A9::l)):A9.ok Z w:=h.ok _ (by simp)
theorem St.g10{A0 A1 A2 A3 A4 A5 A6 A7 A8 A9 oV:As}(h:St w0 M Z w (A0::A1::A2::A3::A4::A5::A6::A7::A8::A9::oV::l)):oV.ok Z w:=h.ok _ (by simp)
theorem St.g11{A0 A1 A2 A3 A4 A5 A6 A7 A8 A9 oV rP:As}(h:St w0 M Z w (A0::A1::A2::A3::A4::A5::A6::A7::A8::A9::oV::rP::l)):rP.ok Z w:=h.ok _ (by simp)
theorem St.g12{A0 A1 A2 A3 A4 A5 A6 A7 A8 A9 oV rP xU:As}(h:St w0 M Z w (A0::A1::A2::A3::A4::A5::A6::A7::A8::A9::oV::rP::xU::l)):xU.ok Z w:=h.ok _ (by simp)
theorem St.g13{A0 A1 A2 A3 A4 A5 A6 A7 A8 A9 oV rP xU FJ:As}(h:St w0 M Z w (A0::A1::A2::A3::A4::A5::A6::A7::A8::A9::oV::rP::xU::FJ::l)):FJ.ok Z w:=h.ok _ (by simp)
theorem St.g14{A0 A1 A2 A3 A4 A5 A6 A7 A8 A9 oV rP xU FJ Nl:As}(h:St w0 M Z w (A0::A1::A2::A3::A4::A5::A6::A7::A8::A9::oV::rP::xU::FJ::Nl::l)):Nl.ok Z w:=h.ok _ (by simp)
theorem St.g15{A0 A1 A2 A3 A4 A5 A6 A7 A8 A9 oV rP xU FJ Nl A15:As}(h:St w0 M Z w (A0::A1::A2::A3::A4::A5::A6::A7::A8::A9::oV::rP::xU::FJ::Nl::A15::l)):A15.ok Z w:=h.ok _ (by simp)
theorem St.p1{A0 A1:As}(h:St w0 M Z w (A0::A1::l)):St w0 M Z w (A1::A0::l):=h.perm (List.perm_middle (l₁:=[A0])).symm
theorem St.p2{A0 A1 A2:As}(h:St w0 M Z w (A0::A1::A2::l)):St w0 M Z w (A2::A0::A1::l):=h.perm (List.perm_middle (l₁:=[A0,A1])).symm
theorem St.p3{A0 A1 A2 A3:As}(h:St w0 M Z w (A0::A1::A2::A3::l)):St w0 M Z w (A3::A0::A1::A2::l):=h.perm (List.perm_middle (l₁:=[A0,A1,A2])).symm
theorem St.p4{A0 A1 A2 A3 A4:As}(h:St w0 M Z w (A0::A1::A2::A3::A4::l)):St w0 M Z w (A4::A0::A1::A2::A3::l):=h.perm (List.perm_middle (l₁:=[A0,A1,A2,A3])).symm
theorem St.p5{A0 A1 A2 A3 A4 A5:As}(h:St w0 M Z w (A0::A1::A2::A3::A4::A5::l)):St w0 M Z w (A5::A0::A1::A2::A3::A4::l):=h.perm (List.perm_middle (l₁:=[A0,A1,A2,A3,A4])).symm
theorem St.p6{A0 A1 A2 A3 A4 A5 A6:As}(h:St w0 M Z w (A0::A1::A2::A3::A4::A5::A6::l)):St w0 M Z w (A6::A0::A1::A2::A3::A4::A5::l):=h.perm (List.perm_middle (l₁:=[A0,A1,A2,A3,A4,A5])).symm
theorem St.p7{A0 A1 A2 A3 A4 A5 A6 A7:As}(h:St w0 M Z w (A0::A1::A2::A3::A4::A5::A6::A7::l)):St w0 M Z w (A7::A0::A1::A2::A3::A4::A5::A6::l):=h.perm (List.perm_middle (l₁:=[A0,A1,A2,A3,A4,A5,A6])).symm
theorem St.p8{A0 A1 A2 A3 A4 A5 A6 A7 A8:As}(h:St w0 M Z w (A0::A1::A2::A3::A4::A5::A6::A7::A8::l)):St w0 M Z w (A8::A0::A1::A2::A3::A4::A5::A6::A7::l):=h.perm (List.perm_middle (l₁:=[A0,A1,A2,A3,A4,A5,A6,A7])).symm
theorem St.p9{A0 A1 A2 A3 A4 A5 A6 A7 A8 A9:As}(h:St w0 M Z w (A0::A1::A2::A3::A4::A5::A6::A7::A8::A9::l)):St w0 M Z w (A9::A0::A1::A2::A3::A4::A5::A6::A7::A8::l):=h.perm (List.perm_middle (l₁:=[A0,A1,A2,A3,A4,A5,A6,A7,A8])).symm
theorem St.pK{A0 A1 A2 A3 A4 A5 A6 A7 A8 A9 oV:As}(h:St w0 M Z w (A0::A1::A2::A3::A4::A5::A6::A7::A8::A9::oV::l)):St w0 M Z w (oV::A0::A1::A2::A3::A4::A5::A6::A7::A8::A9::l):=h.perm (List.perm_middle (l₁:=[A0,A1,A2,A3,A4,A5,A6,A7,A8,A9])).symm
theorem St.oW{A0 A1 A2 A3 A4 A5 A6 A7 A8 A9 oV rP:As}(h:St w0 M Z w (A0::A1::A2::A3::A4::A5::A6::A7::A8::A9::oV::rP::l)):St w0 M Z w (rP::A0::A1::A2::A3::A4::A5::A6::A7::A8::A9::oV::l):=h.perm (List.perm_middle (l₁:=[A0,A1,A2,A3,A4,A5,A6,A7,A8,A9,oV])).symm
theorem St.Ks{A0 A1 A2 A3 A4 A5 A6 A7 A8 A9 oV rP xU:As}(h:St w0 M Z w (A0::A1::A2::A3::A4::A5::A6::A7::A8::A9::oV::rP::xU::l)):St w0 M Z w (xU::A0::A1::A2::A3::A4::A5::A6::A7::A8::A9::oV::rP::l):=h.perm (List.perm_middle (l₁:=[A0,A1,A2,A3,A4,A5,A6,A7,A8,A9,oV,rP])).symm
theorem St.xV{A0 A1 A2 A3 A4 A5 A6 A7 A8 A9 oV rP xU FJ:As}(h:St w0 M Z w (A0::A1::A2::A3::A4::A5::A6::A7::A8::A9::oV::rP::xU::FJ::l)):St w0 M Z w (FJ::A0::A1::A2::A3::A4::A5::A6::A7::A8::A9::oV::rP::xU::l):=h.perm (List.perm_middle (l₁:=[A0,A1,A2,A3,A4,A5,A6,A7,A8,A9,oV,rP,xU])).symm
theorem St.Oa{A0 A1 A2 A3 A4 A5 A6 A7 A8 A9 oV rP xU FJ Nl:As}(h:St w0 M Z w (A0::A1::A2::A3::A4::A5::A6::A7::A8::A9::oV::rP::xU::FJ::Nl::l)):St w0 M Z w (Nl::A0::A1::A2::A3::A4::A5::A6::A7::A8::A9::oV::rP::xU::FJ::l):=h.perm (List.perm_middle (l₁:=[A0,A1,A2,A3,A4,A5,A6,A7,A8,A9,oV,rP,xU,FJ])).symm
theorem St.p15{A0 A1 A2 A3 A4 A5 A6 A7 A8 A9 oV rP xU FJ Nl A15:As}(h:St w0 M Z w (A0::A1::A2::A3::A4::A5::A6::A7::A8::A9::oV::rP::xU::FJ::Nl::A15::l)):St w0 M Z w (A15::A0::A1::A2::A3::A4::A5::A6::A7::A8::A9::oV::rP::xU::FJ::Nl::l):=h.perm (List.perm_middle (l₁:=[A0,A1,A2,A3,A4,A5,A6,A7,A8,A9,oV,rP,xU,FJ,Nl])).symm
end
/-! what may be said -/
def As.blk(b T:Nat) (cs:List Value):As where
 fp x:=x=b
 ok _ w:=cW w b T cs
 lt h x hx:=by subst hx;exact h.lt
 mono _ h:=h
 st hs hc h:=by
  have h':_=_:=h
  show _=_
  grind
def As.map{κ:Type}(enc:κ→Value) (b:Nat) (l:List (κ × Value)):As where
 fp x:=x=b
 ok _ w:=KM enc w b l
 lt h x hx:=by subst hx;exact h.lt
 mono _ h:=h
 st hs hc h:=by
  have hl:=h.lt;obtain⟨es,c,h1,h2⟩:=h;exact⟨es,c,by rw [hc b (.inl rfl) hl];exact h1,h2⟩
structure RR (α:Type) where
 r:(Nat→Prop)→World→α→List Value→Prop
 mono:∀{Z Z':Nat→Prop}{w x row},(∀x,Z x→Z' x)→r Z w x row→r Z' w x row
 st:∀{Z:Nat→Prop}{w w':World}{x row},w.heap.size≤w'.heap.size→(∀x,Z x→x<w.heap.size→w'.heap[x]?=w.heap[x]?)→r Z w x row→r Z w' x row
 cut:∀{Z:Nat→Prop}{w:World}{x row},r Z w x row→r (fun b=>Z b∧b<w.heap.size) w x row
theorem SL.st{Z:Nat→Prop}{w w':World}{k n c:Nat}{a:Option Addr}{cs:List Value}(hs:w.heap.size≤w'.heap.size) (hc:∀x,Z x→x<w.heap.size→w'.heap[x]?=w.heap[x]?) (h:SL Z w k a n c cs):SL Z w' k a n c cs:=by
 refine⟨h.len,h.le,h.one,?_⟩
 rcases h.at_ with h1 | ⟨b,o,h1,h2,h3,h4,h5,h6⟩
 ·
  exact .inl h1
 exact .inr ⟨b,o,h1,h2,h3,h4,Nat.lt_of_lt_of_le h5 hs,fun j v hv=>by rw [← h6 j v hv];grind [World.cell?_of_block]⟩
theorem SR.st{α:Type}{R R':α→List Value→Prop}{Z:Nat→Prop}{w w':World}{k n c:Nat}{a:Option Addr}{xs:List α}(hs:w.heap.size≤w'.heap.size) (hc:∀x,Z x→x<w.heap.size→w'.heap[x]?=w.heap[x]?) (hR:∀x r,R x r→R' x r)
  (h:SR Z w k R a n c xs):SR Z w' k R' a n c xs:=by
 obtain⟨hn,rows,hl,hk,h1,hx⟩:=h;exact⟨hn,rows,hl,hk,SL.st hs hc h1,fun i x r h1 h2=>hR x r (hx i x r h1 h2)⟩
def RR.flat{α:Type}(f:α→List Value):RR α:=⟨fun _ _ x row=>row=f x,fun _ h=>h,fun _ _ h=>h,fun h=>h⟩
def Rd{α:Type}(R:RR α) (k:Nat) (Z:Nat→Prop) (w:World) (a:Option Addr) (n c:Nat) (xs:List α):Prop:=SR Z w k (R.r Z w) a n c xs
theorem Rd.mono{α:Type}{R:RR α}{k:Nat}{Z Z':Nat→Prop}{w:World}{a:Option Addr}{n c:Nat}{xs:List α}(hZ:∀x,Z x→Z' x) (h:Rd R k Z w a n c xs):Rd R k Z' w a n c xs:=
 SR.mono h (fun b hb _=>hZ b hb) fun _ _=>R.mono hZ
theorem Rd.st{α:Type}{R:RR α}{k:Nat}{Z:Nat→Prop}{w w':World}{a:Option Addr}{n c:Nat}{xs:List α}(hs:w.heap.size≤w'.heap.size) (hc:∀x,Z x→x<w.heap.size→w'.heap[x]?=w.heap[x]?) (h:Rd R k Z w a n c xs):Rd R k Z w' a n c xs:=
 SR.st hs hc (fun _ _=>R.st hs hc) h
theorem Rd.len{α:Type}{R:RR α}{k:Nat}{Z:Nat→Prop}{w:World}{a:Option Addr}{n c:Nat}{xs:List α}(h:Rd R k Z w a n c xs):n=xs.length:=SR.len h
theorem Rd.le{α:Type}{R:RR α}{k:Nat}{Z:Nat→Prop}{w:World}{a:Option Addr}{n c:Nat}{xs:List α}(h:Rd R k Z w a n c xs):n≤140737488355328:=SR.le h
theorem Rd.at{α:Type}{R:RR α}{k:Nat}{Z:Nat→Prop}{w:World}{a:Option Addr}{n c:Nat}{xs:List α}(h:Rd R k Z w a n c xs) {i:Nat}(hi:i<xs.length) :
  ∃b o r,a=some ⟨b,o,none⟩∧r.length=k∧R.r Z w xs[i] r∧w.rangeAt b (o+i*k) r∧Z b:=SR.at h (List.getElem?_eq_getElem hi)
theorem Rd.ext{α:Type}{R:RR α}{k:Nat}{Z:Nat→Prop}{w w':World}{a:Option Addr}{n c:Nat}{xs:List α}(h:Rd R k Z w a n c xs) (s:aV [] w w'):Rd R k Z w' a n c xs:=
 h.st s.size fun x _ hx=>s.block x hx (by simp)
theorem Rd.cut{α:Type}{R:RR α}{k:Nat}{Z:Nat→Prop}{w:World}{a:Option Addr}{n c:Nat}{xs:List α}(h:Rd R k Z w a n c xs):Rd R k (fun b=>Z b∧b<w.heap.size) w a n c xs:=
 SR.mono h (fun _ hb ee=>⟨hb,ee⟩) fun _ _ h=>R.cut h
theorem Rd.nil{α:Type}(R:RR α) (k:Nat) (Z:Nat→Prop) (w:World):Rd R k Z w none 0 0 []:=SR.nil _ _ _ _
def As.ro{α:Type}(R:RR α) (k:Nat) (a:Option Addr) (n c:Nat) (xs:List α):As where
 fp _:=False
 ok Z w:=Rd R k Z w a n c xs
 lt _ _ hx:=hx.elim
 mono hZ h:=Rd.mono hZ h
 st hs hc h:=Rd.st hs (fun x hx=>hc x (.inr hx)) h
def Ow{α:Type}(R:RR α) (E k:Nat) (Z:Nat→Prop) (w:World) (a:Option Addr) (n c:Nat) (xs:List α):Prop:=OR 0 w E k (R.r Z w) a n c xs
theorem OL.st{base:Nat}{w w':World}{E k n c:Nat}{a:Option Addr}{cs:List Value}(hc:∀x,x∈aI a→x<w.heap.size→w'.heap[x]?=w.heap[x]?) (h:OL base w E k a n c cs):OL base w' E k a n c cs:=by
 refine⟨h.1,h.2.1,?_⟩;have ee:=h.lt
 rcases h.2.2 with hn | ⟨g,cap,cur,h1,h2,h3,rest⟩
 ·
  exact .inl hn
 simp at h1
 obtain⟨rfl,rfl⟩:=h1;exact .inr ⟨g,c,cur,rfl,h2,by grind [aI],rest⟩
def As.os{α:Type}(R:RR α) (E k:Nat) (a:Option Addr) (n c:Nat) (xs:List α):As where
 fp x:=x∈aI a
 ok Z w:=Ow R E k Z w a n c xs
 lt h:=OR.lt h
 mono hZ h:=by
  obtain⟨hn,rows,hl,hk,h1,hx⟩:=h;exact⟨hn,rows,hl,hk,h1,fun i x r h1 h2=>R.mono hZ (hx i x r h1 h2)⟩
 st hs hc h:=by
  obtain⟨hn,rows,hl,hk,h1,hx⟩:=h;exact⟨hn,rows,hl,hk,OL.st (fun x hx=>hc x (.inl hx)) h1,fun i x r h1 h2=>R.st hs (fun x hx=>hc x (.inr hx)) (hx i x r h1 h2)⟩
theorem As.VT{α:Type}(R:RR α) (E k:Nat) (Z:Nat→Prop) (w:World):(As.os R E k none 0 0 []).ok Z w:=OR.nil _ _ _ _ _
theorem As.Rz{α:Type}(R:RR α) (E k n c:Nat) (xs:List α):∀x,¬(As.os R E k none n c xs).fp x:=fun x hx=>by simp [As.os,aI] at hx
section
variable {w0 w w':World}{M Z Z':Nat→Prop}{l:List As}{α:Type}{R:RR α}
theorem St.eF(h:St w0 M Z w l) {b T:Nat}{cs:List Value}(nw:FW w w' b) (hb:cW w' b T cs):St w0 M Z w' (As.blk b T cs::l):=
 h.new nw.ext hb fun x hx=>by have h1:x=b:=hx;subst h1;exact nw.ki (aV.refl [] _)
theorem St.RA{κ:Type}{enc:κ→Value}(h:St w0 M Z w l) {b:Nat}{cs:List (κ × Value)}(nw:FW w w' b) (hb:KM enc w' b cs):St w0 M Z w' (As.map enc b cs::l):=
 h.new nw.ext hb fun x hx=>by have h1:x=b:=hx;subst h1;exact nw.ki (aV.refl [] _)
theorem St.Gh{b T T':Nat}{cs LK:List Value}(h:St w0 M Z w (As.blk b T cs::l)) (s:aV [b] w w') (hb:cW w' b T' LK):St w0 M Z w' (As.blk b T' LK::l):=
 h.nP (s.p.mono fun x _ hx=>by simpa [As.blk] using hx) hb fun x hx=>.inl hx
theorem St.nv{κ:Type}{enc:κ→Value}{b:Nat}{cs LK:List (κ × Value)}(h:St w0 M Z w (As.map enc b cs::l)) (s:aV [b] w w') (hb:KM enc w' b LK):St w0 M Z w' (As.map enc b LK::l):=
 h.nP (s.p.mono fun x _ hx=>by simpa [As.map] using hx) hb fun x hx=>.inl hx
theorem St.eP(h:St w0 M Z w l) (R:RR α) (E k:Nat):St w0 M Z w (As.os R E k none 0 0 []::l):=h.fact (As.VT _ _ _ _ _) (As.Rz _ _ _ _ _ _)
theorem St.jm{E k n c n' c':Nat}{a a':Option Addr}{xs ys:List α}(h:St w0 M Z w (As.os R E k a n c xs::l)) (s:aV (aI a) w w') (ho:OR 0 w' E k (R.r Z w) a' n' c' ys) (hf:∀x∈aI a',x∈aI a∨w.heap.size≤x) :
  St w0 M Z w' (As.os R E k a' n' c' ys::l):=by
 refine h.nP (s.p.mono fun x _ hx=>hx) ?_ hf;obtain⟨hn,rows,hl,hk,h1,hx⟩:=ho;refine⟨hn,rows,hl,hk,h1,fun i x r h1 h2=>R.st s.size (fun x hz N9=>?_) (hx i x r h1 h2)⟩
 exact s.block x N9 fun hm=>h.o9 (As.os R E k a n c xs) (by simp) x hm hz
theorem St.tc(h:St w0 M Z w l) {E k n c:Nat}{a:Option Addr}{xs:List α}(s:aV [] w w') (ho:Ow R E k Z w' a n c xs) (hf:∀x∈aI a,w.heap.size≤x):St w0 M Z w' (As.os R E k a n c xs::l):=h.new s ho hf
theorem Ow.rd{E k n c:Nat}{a:Option Addr}{xs:List α}(h:Ow R E k Z w a n c xs) (hle:xs.length≤140737488355328):Rd R k (fun x=>Z x∨x∈aI a) w a n c xs:=by
 obtain⟨hn,rows,hl,hk,h1,hx⟩:=h;refine⟨hn,rows,hl,hk,?_,fun i x r h1 h2=>R.mono (fun _ h=>.inl h) (hx i x r h1 h2)⟩;have h3:=h1.sl (A:=fun _=>True) (fun _ _=>trivial) (by omega);refine⟨h3.len,h3.le,h3.one,?_⟩
 grind [SL.at_,aI]
theorem St.bN{E k n c:Nat}{a:Option Addr}{xs:List α}(h:St w0 M Z w (As.os R E k a n c xs::l)) (hle:xs.length≤140737488355328):St w0 M (fun x=>Z x∨x∈aI a) w (As.ro R k a n c xs::l):=
 h.freeze (A:=As.os R E k a n c xs) (B:=As.ro R k a n c xs) (Ow.rd (h.g0) hle) fun _ hx=>hx
theorem cN.fh{n:Nat}{Z F:Nat→Prop}(h:∀x,F x→n≤x):cN n Z (fun x=>Z x∨F x):=⟨fun _ h=>.inl h,fun x hx=>by grind⟩
theorem Ow.len{E k n c:Nat}{a:Option Addr}{xs:List α}(h:Ow R E k Z w a n c xs):n=xs.length:=OR.len h
theorem As.gb{b T:Nat}{cs:List Value}(h:(As.blk b T cs).ok Z w):cW w b T cs:=h
theorem As.gm{κ:Type}{enc:κ→Value}{b:Nat}{cs:List (κ × Value)}(h:(As.map enc b cs).ok Z w):KM enc w b cs:=h
theorem As.gs{E k n c:Nat}{a:Option Addr}{xs:List α}(h:(As.os R E k a n c xs).ok Z w):Ow R E k Z w a n c xs:=h
theorem As.gr{k n c:Nat}{a:Option Addr}{xs:List α}(h:(As.ro R k a n c xs).ok Z w):Rd R k Z w a n c xs:=h
end
theorem aV.p0{M:Nat→Prop}{w w':World}(h:aV [] w w'):jb M w w':=h.p.mono (by simp)
theorem St.cg{w0 w:World}{Z:Nat→Prop}{l:List As}(h:St w0 (fun _=>False) Z w l):aV [] w0 w:=h.cT.cT (fun _ h=>h.elim)
theorem St.cY{w0 w:World}{M Z:Nat→Prop}{l:List As}(h:St w0 M Z w l):∀x,rO l x→x<w.heap.size:=fun x ⟨A,hA,hx⟩=>A.lt (h.ok A hA) x hx
def As.rg(b o:Nat) (r:List Value):As where
 fp _:=False
 ok Z w:=Z b∧b<w.heap.size∧w.rangeAt b o r
 lt _ _ hx:=hx.elim
 mono hZ h:=⟨hZ _ h.1,h.2⟩
 st hs hc h:=⟨h.1,Nat.lt_of_lt_of_le h.2.1 hs,fun j v hv=>by rw [← h.2.2 j v hv];grind [World.cell?_of_block]⟩
theorem As.ahl{α:Type}{R:RR α}{k n c:Nat}{a:Option Addr}{xs:List α}{Z:Nat→Prop}{w:World}(h:Rd R k Z w a n c xs):(As.ro R k a n c xs).ok Z w:=h
theorem St.cH{w w':World}{Z:Nat→Prop}{l:List As}{A:As}(h:St w (rO []) Z w' (A::l)):∀x,A.fp x→w.heap.size≤x:=fun x hx=>by
 rcases h.qh A (by simp) x hx with⟨B,hB,_⟩ | h1
 ·
  cases hB
 exact h1
theorem As.nR{w:World}{Z:Nat→Prop}{b o:Nat}{r:List Value}(h:(As.rg b o r).ok Z w):w.rangeAt b o r:=h.2.2
theorem As.abc{w:World}{Z:Nat→Prop}{b o:Nat}{r:List Value}(h:Z b) (ee:b<w.heap.size) (hr:w.rangeAt b o r):(As.rg b o r).ok Z w:=⟨h,ee,hr⟩
theorem RR.cy{α:Type}{f:α→List Value}{Z:Nat→Prop}{w:World}{x:α}{r:List Value}(h:(RR.flat f).r Z w x r):r=f x:=h
section
variable {P:Program}{n:Nat}{kv:KV}{w:World}{Q:Exit→Act→World→Prop}{w0:World}{M Z:Nat→Prop}
theorem WC.ct{σ:Type}{c:Code}{rest:List As}{eJ:σ→KV}{F:σ→List As}{I:σ→Prop}{μ:σ→Nat}(s₀:σ) (bJ:St w0 M Z w (F s₀++rest)) (hs:Sub kv (eJ s₀)) (h₀:I s₀)
  (round:∀s w',St w0 M Z w' (F s++rest)→I s→WC P c (Exit.then (fun a' w''=>∃s',Fr n a' (eJ s')∧(St w0 M Z w'' (F s'++rest)∧I s')∧μ s'<μ s) Q) n (eJ s) w'):WC P (.loop c) Q n kv w:=
 WC.loop (σ:=σ) (eJ:=eJ) (I:=fun s w'=>St w0 M Z w' (F s++rest)∧I s) (μ:=μ) s₀ hs ⟨bJ,h₀⟩ fun s w' ⟨h1,h2⟩=>round s w' h1 h2
theorem WC.jC{σ:Type}{c:Code}{rest:List As}{eJ:σ→KV}{F:σ→List As}{I:σ→Prop}{μ:σ→Nat}{Zf:σ→Nat→Prop}(s₀:σ) (bJ:St w0 M (Zf s₀) w (F s₀++rest)) (hs:Sub kv (eJ s₀)) (h₀:I s₀)
  (round:∀s w',St w0 M (Zf s) w' (F s++rest)→I s→WC P c (Exit.then (fun a' w''=>∃s',Fr n a' (eJ s')∧(St w0 M (Zf s') w'' (F s'++rest)∧I s')∧μ s'<μ s) Q) n (eJ s) w'):WC P (.loop c) Q n kv w:=
 WC.loop (σ:=σ) (eJ:=eJ) (I:=fun s w'=>St w0 M (Zf s) w' (F s++rest)∧I s) (μ:=μ) s₀ hs ⟨bJ,h₀⟩ fun s w' ⟨h1,h2⟩=>round s w' h1 h2
theorem WC.fL{c:Code}{t:Nat}{v:Value}{l:List As}(_hst:St w0 M Z w l) (h:WC P c (wM n t v kv fun wx=>St w0 M Z wx l) n kv w) (hJ:∀w',St w0 M Z w' l→EX Q .normal n ((t,v)::kv) w'):WC P c Q n kv w:=
 WC.mJ (fun wx=>St w0 M Z wx l) h hJ
theorem WC.nS{c:Code}{t:Nat}{v:Value}{l:List As}(_hst:St w0 M Z w l) (h:WC P c (wM n t v (kl t kv) fun wx=>St w0 M Z wx l) n kv w) (hJ:∀w',St w0 M Z w' l→EX Q .normal n ((t,v)::kl t kv) w'):WC P c Q n kv w:=
 WC.oA (fun wx=>St w0 M Z wx l) h hJ
theorem WC.Ob{id m:Nat}{l:List Oper}{ls:List As}(T:Nat→World→World→Prop) {E:Nat→Option (Value→World→Prop)}(bJ:St w0 M Z w ls)
  (hS:∀i S,E i=some S→∀j S',E j=some S'→j≠i→j∉jO l.toArray i→∀v w1 w2,(w.heap.size≤w1.heap.size∧St w0 M Z w1 ls)→(w.heap.size≤w2.heap.size∧St w0 M Z w2 ls)→T j w1 w2→S v w1→S v w2) (hm:P.follows .mixedOrders=true) (eX:yL l m []=true)
  (FE:DW P l.toArray n (fun wx=>w.heap.size≤wx.heap.size∧St w0 M Z wx ls) T E (fun kv w=>WL P l.toArray Q (l.drop m) n kv w) 0 (l.take m) kv []):WC P (.region id l.toArray true) Q n kv w:=
 WC.drawn (C:=fun wx=>w.heap.size≤wx.heap.size∧St w0 M Z wx ls) (T:=T) hS hm eX ⟨Nat.le_refl _,bJ.step (aV.drew [] w)⟩ FE
theorem WC.eQ{id m:Nat}{l:List Oper}{ls:List As}{E:Nat→Option (Value→World→Prop)}(bJ:St w0 M Z w ls)
  (hS:∀i S,E i=some S→∀j S',E j=some S'→j≠i→j∉jO l.toArray i→∀v w1 w2,(w.heap.size≤w1.heap.size∧St w0 M Z w1 ls)→(w.heap.size≤w2.heap.size∧St w0 M Z w2 ls)→jb (rO ls) w1 w2→S v w1→S v w2) (hm:P.follows .mixedOrders=true) (eX:yL l m []=true)
  (FE:DW P l.toArray n (fun wx=>w.heap.size≤wx.heap.size∧St w0 M Z wx ls) (fun _=>jb (rO ls)) E (fun kv w=>WL P l.toArray Q (l.drop m) n kv w) 0 (l.take m) kv []):WC P (.region id l.toArray true) Q n kv w:=
 WC.drawn (C:=fun wx=>w.heap.size≤wx.heap.size∧St w0 M Z wx ls) (T:=fun _=>jb (rO ls)) hS hm eX ⟨Nat.le_refl _,bJ.step (aV.drew [] w)⟩ FE
end
def PB(N T:Nat) (cs:List Value) (v:Value) (w:World):Prop:=∃b,v=.pointer (some ⟨b,0,none⟩)∧N≤b∧cW w b T cs
theorem PB.st{N T:Nat}{cs:List Value}{F:Nat→Prop}(hN:∀x,F x→x<N) {v:Value}{w w':World}(c:jb F w w') (h:PB N T cs v w):PB N T cs v w':=by
 obtain⟨b,h1,h2,h3⟩:=h;exact⟨b,h1,h2,by have h4:_=_:=h3;show _=_;rw [c.block b h3.lt fun hf=>by have:=hN b hf;omega];exact h4⟩
theorem PB.get{N T b:Nat}{cs:List Value}{w:World}(h:PB N T cs (.pointer (some ⟨b,0,none⟩)) w):N≤b∧cW w b T cs:=by
 obtain⟨b',h1,h2,h3⟩:=h
 grind
theorem St.add{w0 w:World}{M Z:Nat→Prop}{l:List As}{B:As}{N:Nat}(h:St w0 M Z w l) (eX:B.ok Z w) (FH:∀x,B.fp x→N≤x) (hl:∀x,rO l x→x<N) (hz:∀x,Z x→x<N) (h0:w0.heap.size≤N):St w0 M Z w (B::l) where
 cT:=h.cT
 ma:=h.ma
 o9 A hA x hx QO:=by
  simp only [List.mem_cons] at hA
  rcases hA with rfl | hA
  ·
   grind
  exact h.o9 A hA x hx QO
 qh A hA x hx:=by
  simp only [List.mem_cons] at hA
  rcases hA with rfl | hA
  ·
   grind
  exact h.qh A hA x hx
 vD:=List.pairwise_cons.2 ⟨fun A hA x hx hb=>by have:=FH x hx;have:=hl x ⟨A,hA,hb⟩;omega,h.vD⟩
 ok A hA:=by
  simp only [List.mem_cons] at hA
  rcases hA with rfl | hA
  ·
   exact eX
  exact h.ok A hA
theorem St.xW{w0 w:World}{M Z:Nat→Prop}{l:List As}{N b T:Nat}{cs:List Value}(h:St w0 M Z w l) (hp:PB N T cs (.pointer (some ⟨b,0,none⟩)) w) (hl:∀x,rO l x→x<N) (hz:∀x,Z x→x<N) (h0:w0.heap.size≤N):St w0 M Z w (As.blk b T cs::l):=
 h.add (B:=As.blk b T cs) hp.get.2 (fun x hx=>by have h1:x=b:=hx;subst h1;exact hp.get.1) hl hz h0
def PM{κ:Type}(enc:κ→Value) (N:Nat) (v:Value) (w:World):Prop:=∃b,v=.map (some b)∧N≤b∧KM enc w b []
theorem PM.st{κ:Type}{enc:κ→Value}{N:Nat}{F:Nat→Prop}(hN:∀x,F x→x<N) {v:Value}{w w':World}(c:jb F w w') (h:PM enc N v w):PM enc N v w':=by
 obtain⟨b,h1,h2,h3⟩:=h;exact⟨b,h1,h2,(As.map enc b []).st (Z:=fun _=>False) c.size (fun x hx hl=>c.block x hl fun hf=>by rcases hx with hx | hx;have hx:x=b:=hx;subst hx;have:=hN x hf;omega;exact hx.elim) h3⟩
theorem PM.get{κ:Type}{enc:κ→Value}{N b:Nat}{w:World}(h:PM enc N (.map (some b)) w):N≤b∧KM enc w b []:=by
 obtain⟨b',h1,h2,h3⟩:=h
 grind
theorem St.ahn{κ:Type}{enc:κ→Value}{w0 w:World}{M Z:Nat→Prop}{l:List As}{N b:Nat}(h:St w0 M Z w l) (hp:PM enc N (.map (some b)) w) (hl:∀x,rO l x→x<N) (hz:∀x,Z x→x<N) (h0:w0.heap.size≤N):St w0 M Z w (As.map enc b []::l):=
 h.add (B:=As.map enc b []) hp.get.2 (fun x hx=>by have h1:x=b:=hx;subst h1;exact hp.get.1) hl hz h0
theorem St.same{w0 w w':World}{M Z:Nat→Prop}{l:List As}{A:As}(h:St w0 M Z w l) (hA:A∈l) (s:jb A.fp w w') (eX:A.ok Z w'):St w0 M Z w' l:=by
 obtain⟨p,q,rfl⟩:=List.append_of_mem hA;exact((h.perm List.perm_middle.symm).nP s eX fun x hx=>.inl hx).perm List.perm_middle
theorem Kt{l:List As}{A:As}(hA:A∈l) {x:Nat}(hx:A.fp x):rO l x:=⟨A,hA,hx⟩
theorem St.Ub{α:Type}{R:RR α}{w0 w:World}{M Z:Nat→Prop}{l:List As}{E k n c:Nat}{a:Option Addr}{xs ys:List α}(h:St w0 M Z w (As.os R E k a n c xs::l)) (e:xs=ys):St w0 M Z w (As.os R E k a n c ys::l):=by subst e;exact h
theorem Ow.addr{α:Type}{R:RR α}{w:World}{Z:Nat→Prop}{E k n c i:Nat}{a:Option Addr}{xs:List α}{y:α}(h:Ow R E k Z w a n c xs) (hx:xs[i]?=some y):∃b,a=some ⟨b,0,none⟩:=by
 obtain⟨hn,rows,hl,hk,h1,_⟩:=h
 grind [OL.cases]
theorem Ow.qu{α:Type}{f:α→List Value}{w:World}{Z:Nat→Prop}{E k n c i b o:Nat}{a:Option Addr}{xs:List α}{y:α}(h:Ow (RR.flat f) E k Z w a n c xs) (hle:xs.length≤140737488355328) (ha:a=some ⟨b,o,none⟩) (hx:xs[i]?=some y):w.rangeAt b (o+i*k) (f y):=by
 obtain⟨b',o',r,h1,_,h3,h4,_⟩:=SR.at (Ow.rd h hle) hx;rw [ha] at h1
 simp at h1
 obtain⟨rfl,rfl⟩:=h1;have h3:r=f y:=h3;subst h3;exact h4
section
variable {P:Program}{n:Nat}{kv:KV}{w:World}{Q:Exit→Act→World→Prop}
theorem Fr.eqv{a:Act}{t:Nat}{v v':Value}(hF:Fr n a kv) (h:look kv t=some v) (e:v=v'):Fr n a ((t,v')::kv):=⟨hF.size,hF.mF,fun s u hu=>by
 simp only [look] at hu
 cases hb:Nat.beq t s with
 | true=>rw [hb] at hu;simp at hu;have:t=s:=Nat.eq_of_beq_eq_true hb;subst this;rw [← hu,← e];exact hF.val t v h
 | false=>rw [hb] at hu;exact hF.val s u hu⟩
theorem WC.eqv{c:Code}{t:Nat}{v v':Value}(h:look kv t=some v) (e:v=v') (k:WC P c Q n ((t,v')::kv) w):WC P c Q n kv w:=fun a hF=>k a (hF.eqv h e)
theorem EX.eqv{x:Exit}{t:Nat}{v v':Value}(h:look kv t=some v) (e:v=v') (k:EX Q x n ((t,v')::kv) w):EX Q x n kv w:=fun a hF=>k a (hF.eqv h e)
end
section
variable {κ:Type} [DecidableEq κ] {enc:κ→Value}{P:Program}{kt e ty T:TypeId}{w:World}{b:Nat}{l:List (κ × Value)}{kv:KV}
theorem PV.dJ(hK:KK P kt enc) (hT:P.underlying T=some (.map kt e)) {z:Value}(hz:∀w,(zeroValue e).run P w=.ok z w) (hb:KM enc w b l) {x y:Operand}{k:κ}{v:Value}(hv:bZ l k=some v) (hx:ev kv x=some (.map (some b))) (hy:ev kv y=some (enc k)):PV P (.lookup T x y false) ty kv w v:=by
 have:=PV.look (ty:=ty) hK hT hz hb hx hy
 rw [hv] at this;exact this
end
end Go.Rc

namespace Go.Rc
open Go
theorem xX:∀(rows:List (List Value)) (k i f:Nat) (v:Value) (row:List Value),(∀r∈rows,r.length=k)→rows[i]?=some row→f<k→(rows.set i (row.set f v)).flatten=rows.flatten.set (i*k+f) v:=by
 intro rows
 induction rows with
 | nil=>intro k i f v row _ h;simp at h
 | cons x xs ih=>
  intro k i f v row hk h hf;have hx:x.length=k:=hk x (by simp)
  cases i with
  | zero=>
   simp at h;subst h
   simp only [List.set_cons_zero,List.flatten_cons,Nat.zero_mul,Nat.zero_add];rw [List.set_append_left _ _ (by omega)]
  | succ i=>
   simp only [List.set_cons_succ,List.flatten_cons];rw [ih k i f v row (fun r hr=>hk r (by simp [hr])) (by simpa using h) hf,List.set_append_right _ _ (by rw [hx,Nat.succ_mul];omega)]
   congr 2
   rw [hx,Nat.succ_mul];omega
theorem yX:∀(rows:List (List Value)) (k i:Nat) (us:List Value),(∀r∈rows,r.length=k)→i<rows.length→us.length=k→(rows.set i us).flatten=rows.flatten.take (i*k)++us++rows.flatten.drop (i*k+k):=by
 intro rows
 induction rows with
 | nil=>intro k i us _ h;simp at h
 | cons x xs ih=>
  intro k i us hk h hu;have hx:x.length=k:=hk x (by simp)
  cases i with
  | zero=>
   simp only [List.set_cons_zero,List.flatten_cons,Nat.zero_mul,Nat.zero_add,List.take_zero,List.nil_append];rw [List.drop_append_of_le_length (by omega),List.drop_of_length_le (by omega),List.nil_append]
  | succ i=>
   simp only [List.set_cons_succ,List.flatten_cons];rw [ih k i us (fun r hr=>hk r (by simp [hr])) (by simpa using h) hu]
   have e:(i+1)*k=x.length+i*k:=by rw [hx,Nat.succ_mul];omega
   rw [e,List.take_length_add_append,Nat.add_assoc,List.drop_length_add_append]
   simp
section
variable {α:Type}{R:RR α}{P:Program}{E k n c i b:Nat}{a:Option Addr}{xs:List α}{u u':α}{Z:Nat→Prop}{w:World}
theorem Ow.at{R:RR α}(h:Ow R E k Z w a n c xs) (hle:xs.length≤140737488355328) (hx:xs[i]?=some u):∃b r,a=some ⟨b,0,none⟩∧r.length=k∧R.r Z w u r∧w.rangeAt b (0+i*k) r:=by
 obtain⟨hn,rows,hl,hk,h1,hR⟩:=h;have hi:=(List.getElem?_eq_some_iff.1 hx).1;have hs:=h1.sl (A:=fun _=>True) (fun _ _=>trivial) (by omega)
 rcases h1.cases with⟨_,h2,_⟩ | ⟨g,cur,h2,_⟩
 ·
  omega
 obtain⟨r,hr⟩:∃r,rows[i]?=some r:=⟨rows[i],by simp [hl,hi]⟩
 rcases hs.at_ with⟨h3,_⟩ | ⟨b',o,h3,_,_,_,_,h6⟩
 ·
  rw [h2] at h3;cases h3
 rw [h2] at h3;simp at h3;obtain⟨rfl,rfl⟩:=h3;exact⟨g,r,h2,hk r (List.mem_of_getElem? hr),hR i u r hx hr,sP h6 (i*k) r (qn rows k i r hk hr)⟩
variable {N:Nat}{kv:KV}{K:KV→World→Prop}{ty:TypeId}{pos:String}{af:Array Edge}{g:Option (Nat × Bool)}{T:TypeId}
theorem OX.VU{x y:Operand}{f:Nat}{v:Value}(hT:(P.info? T).map (·.size)=some 1) (h:Ow R E k Z w a n c xs) (ha:a=some ⟨b,0,none⟩) (hu:xs[i]?=some u) (hf:f<k) (hx:ev kv x=some (.pointer (some ⟨b,0+i*k+f,none⟩))) (hy:ev kv y=some v)
  (h1:v.oneCell'=true) (u':α) (hR:∀r,r.length=k→R.r Z w u r→R.r Z w u' (r.set f v)) (hK:∀w',aV (aI a) w w'→OR 0 w' E k (R.r Z w) a n c (xs.set i u')→K kv w'):OX P ⟨none,.store T x y,ty,pos,af,g⟩ N kv w K:=by
 obtain⟨hn,rows,hl,hk,ho,hRR⟩:=h;have hi:=(List.getElem?_eq_some_iff.1 hu).1;obtain⟨row,VV⟩:∃r,rows[i]?=some r:=⟨rows[i],by simp [hl,hi]⟩;have Nn:=hk row (List.mem_of_getElem? VV)
 rcases ho.cases with⟨h2,_⟩ | ⟨b',cur,h2,h3,h4,h5,h6,h7,h8⟩
 ·
  rw [ha] at h2;cases h2
 rw [ha] at h2;simp at h2;subst h2;subst ha
 have hb:cW w b E cur.toList:=by simpa [cW] using h4
 have ee:i*k+f<cur.toList.length:=by
  have:(i+1)*k≤c*k:=Nat.mul_le_mul_right _ (by omega)
  rw [Nat.succ_mul] at this
  simp;omega
 have bJ:=Kk (P:=P) hT hb ee h1;refine⟨rfl,rfl,by simp [known,opers,hx,hy],?_⟩
 have VW:0+i*k+f=i*k+f:=by omega
 rw [VW] at hx;simp only [execOp,aJ hx,aJ hy,Sem.run_bind,bJ,Result.andThen_ok];refine hK _ (o0 _ _ _) ⟨by simp [hn],rows.set i (row.set f v),by simp [hl],?_,?_,?_⟩
 ·
  intro r hr
  rcases List.mem_or_eq_of_mem_set hr with hr | rfl
  ·
   exact hk r hr
  simp [Nn]
 ·
  rw [xX rows k i f v row hk VV hf];refine⟨fun z hz=>?_,by simpa using ho.2.1,.inr ⟨b,c,_,rfl,h3,setRow_heap w b _ _ E _ hb,h5,h6,by simp [h7],?_⟩⟩
  ·
   rcases List.mem_or_eq_of_mem_set hz with hz | rfl
   ·
    exact ho.1 z hz
   exact h1
  rw [← h8]
  simp [List.take_set]
 intro j z r hz hr
 by_cases e:i=j
 ·
  subst e;rw [List.getElem?_set,if_pos rfl,if_pos hi] at hz;rw [List.getElem?_set,if_pos rfl,if_pos (by omega)] at hr
  simp at hz hr
  subst hz hr;exact hR row Nn (hRR i u row hu VV)
 rw [List.getElem?_set,if_neg e] at hz hr;exact hRR j z r hz hr
theorem OX.abd{x y:Operand}{us:List Value}(hT:(P.info? T).map (·.size)=some k) (h:Ow R E k Z w a n c xs) (ha:a=some ⟨b,0,none⟩) (hi:i<xs.length) (hx:ev kv x=some (.pointer (some ⟨b,0+i*k,none⟩))) (hy:ev kv y=some (.agg us.toArray))
  (hlen:us.length=k) (h1:∀v∈us,v.oneCell'=true) (u':α) (hR:R.r Z w u' us) (hK:∀w',aV (aI a) w w'→OR 0 w' E k (R.r Z w) a n c (xs.set i u')→K kv w'):OX P ⟨none,.store T x y,ty,pos,af,g⟩ N kv w K:=by
 obtain⟨hn,rows,hl,hk,ho,hRR⟩:=h
 rcases ho.cases with⟨h2,_⟩ | ⟨b',cur,h2,h3,h4,h5,h6,h7,h8⟩
 ·
  rw [ha] at h2;cases h2
 rw [ha] at h2;simp at h2;subst h2;subst ha
 have hb:cW w b E cur.toList:=by simpa [cW] using h4
 have hmul:(i+1)*k≤n*k:=Nat.mul_le_mul_right _ (by omega);have anm:n*k≤c*k:=Nat.mul_le_mul_right _ h5;rw [Nat.succ_mul] at hmul
 have VW:0+i*k=i*k:=by omega
 rw [VW] at hx
 refine OX.stA hT hb hx hy hlen (by simp;omega) h1 rfl fun w' c1 _ hb'=>hK w' c1 ⟨by simp [hn],rows.set i us,by simp [hl],?_,?_,?_⟩
 ·
  intro r hr
  rcases List.mem_or_eq_of_mem_set hr with hr | rfl
  ·
   exact hk r hr
  exact hlen
 ·
  have hfl:rows.flatten.length=n*k:=ho.2.1;rw [yX rows k i us hk (by omega) hlen]
  have vt:cur.toList.length=c*k:=by simp [h7]
  refine⟨fun z hz=>?_,?_,.inr ⟨b,c,_,rfl,h3,hb',h5,h6,?_,?_⟩⟩
  ·
   simp only [List.mem_append] at hz
   rcases hz with(hz | hz) | hz
   ·
    exact ho.1 z (List.mem_of_mem_take hz)
   ·
    exact h1 z hz
   exact ho.1 z (List.mem_of_mem_drop hz)
  ·
   rw [List.length_append,List.length_append,List.length_take,List.length_drop,hfl,hlen];omega
  ·
   simp only [List.size_toArray,List.length_append,List.length_take,List.length_drop,vt];omega
  rw [← h8]
  apply List.ext_getElem?
  intro j;simp only [List.getElem?_take,List.getElem?_append,List.getElem?_drop,List.length_append,List.length_take,vt,hlen]
  have e1:min (i*k) (c*k)=i*k:=by omega
  have e2:min (i*k) (min (n*k) (c*k))=i*k:=by omega
  simp only [e1,e2]
  by_cases hj:j<n*k
  ·
   rw [if_pos hj]
   by_cases h9:j<i*k+k
   ·
    rw [if_pos h9,if_pos h9]
    by_cases Np:j<i*k
    ·
     rw [if_pos Np,if_pos Np,if_pos Np,if_pos Np,if_pos hj]
    rw [if_neg Np,if_neg Np]
   rw [if_neg h9,if_neg h9,if_pos (by omega)]
  rw [if_neg hj,if_neg (by omega),if_neg (by omega)]
 intro j z r hz hr
 by_cases e:i=j
 ·
  subst e;rw [List.getElem?_set,if_pos rfl,if_pos (by omega)] at hz hr
  simp at hz hr
  subst hz hr;exact hR
 rw [List.getElem?_set,if_neg e] at hz hr;exact hRR j z r hz hr
end
end Go.Rc

namespace Go.Rc
open Go
structure IF (N E q s:Nat) (w w':World):Prop where
 os:w'.os=w.os
 tape:w'.tape=w.tape
 output:w'.output=w.output
 size:w.heap.size≤w'.heap.size
 drawn:w.drawn≤w'.drawn
 block:∀b,b<w.heap.size→w'.heap[b]?=w.heap[b]?∨(N≤b∧∃cur sV:Array Value,w.heap[b]?=some (.cells cur E (0,0))∧w'.heap[b]?=some (.cells sV E (0,0))∧sV.size=cur.size∧s<cur.size∧sV.toList.take q=cur.toList.take q)
theorem aV.pfx{N E q s:Nat}{w w':World}(h:aV [] w w'):IF N E q s w w':=⟨h.os,h.tape,h.output,h.size,h.drawn,fun b hb=>.inl (h.block b hb (by simp))⟩
theorem IF.vw{N E q s:Nat}{w w':World}(h:IF N E q s w w') {b:Nat}(hb:b<w.heap.size) (hN:b<N):w'.heap[b]?=w.heap[b]?:=by
 rcases h.block b hb with h1 | ⟨h1,_⟩
 ·
  exact h1
 omega
variable {α:Type}{R:RR α}{E k n c N:Nat}{a:Option Addr}{xs:List α}{Z:Nat→Prop}{w w':World}
theorem IF.ow{s:Nat}(h:IF N E (n*k) s w w') (hz:∀x,Z x→x<N) (ho:Ow R E k Z w a n c xs):Ow R E k Z w' a n c xs:=by
 obtain⟨hn,rows,hl,hk,h1,hR⟩:=ho;have bJ:∀x,Z x→x<w.heap.size→w'.heap[x]?=w.heap[x]?:=fun x hx N9=>h.vw N9 (hz x hx);refine⟨hn,rows,hl,hk,⟨h1.1,h1.2.1,?_⟩,fun i x r h2 h3=>R.st h.size bJ (hR i x r h2 h3)⟩
 rcases h1.cases with⟨h2,h3,h4,h5⟩ | ⟨g,cur,h2,h3,h4,h5,h6,h7,h8⟩
 ·
  exact .inl ⟨by rw [h2,h3,h4],h3⟩
 have hg:g<w.heap.size:=(Array.getElem?_eq_some_iff.1 h4).1
 rcases h.block g hg with h9 | ⟨_,cu,cu',h9,Np,h11,_,h13⟩
 ·
  exact .inr ⟨g,c,cur,by rw [h2],h3,by rw [h9];exact h4,h5,h6,h7,h8⟩
 rw [h4] at h9
 simp at h9
 subst h9;exact .inr ⟨g,c,cu',by rw [h2],h3,Np,h5,h6,by rw [h11];exact h7,by rw [h13];exact h8⟩
theorem IF.blk{q b:Nat}{l:List Value}(h:IF N E q l.length w w') (hb:cW w b E l):cW w' b E l:=by
 have hb':w.heap[b]?=some (.cells l.toArray E (0,0)):=hb
 rcases h.block b hb.lt with h1 | ⟨_,cu,cu',h1,_,_,h2,_⟩
 ·
  show _=_;rw [h1];exact hb'
 rw [hb'] at h1;simp at h1;subst h1;simp at h2
theorem Oc{P:Program}{T bytes:Nat}(hT:AP P T E k bytes) {ty:TypeId}(mK:Ow R E k Z w a n c xs) (qk:∀x∈aI a,N≤x) {a2:Option Addr}{m c2:Nat}{A:Nat→Prop}{ys:List α}(hx:SR A w k (R.r Z w) a2 m c2 ys)
  (lY:(n+m)*bytes≤140737488355328) (Iy:n+m≤140737488355328) (hN:N≤w.heap.size) (hz:∀x,Z x→x<N) {s:Nat}(hs:∀c,a≠none→n+m≤c→s<c*k) :
  ∃a' c' w',(Builtin.append_ #[T,T] ty #[.slice a n c,.slice a2 m c2]).run P w=.ok (.slice a' (n+m) c') w'∧Ow R E k Z w' a' (n+m) c' (xs++ys)∧IF N E (n*k) s w w'∧(∀x∈aI a',N≤x)∧(m=0→a'=a)∧aV (aI a) w w':=by
 obtain⟨hn,rows,hl,hk,h1,hR⟩:=mK;obtain⟨Cs,F8,qo,nj,h2,hR2⟩:=hx;obtain⟨a',c',w',hr,ho,hc,hf,_,h0,iB⟩:=Dy hT (ty:=ty) h1 h2 lY Iy (Nat.zero_le _)
 have abe:IF N E (n*k) s w w':=by
  rcases iB with iB | ⟨yR,g,cur,sV,h3,h4,h5,h6,h7,h8⟩
  ·
   exact iB.pfx
  refine⟨hc.os,hc.tape,hc.output,hc.size,hc.drawn,fun b hb=>?_⟩
  by_cases kM:b∈aI a
  ·
   have hgm:g∈aI a:=by rw [h3];simp [aI]
   have e:b=g:=by rw [h3] at kM;simpa [aI] using kM
   subst e;exact .inr ⟨qk b hgm,cur,sV,h4,h5,h6,by rw [h7];exact hs c (by rw [h3];simp) yR,h8⟩
  exact .inl (hc.block b hb kM)
 have bJ:∀x,Z x→x<w.heap.size→w'.heap[x]?=w.heap[x]?:=fun x hx N9=>abe.vw N9 (hz x hx);refine⟨a',c',w',hr,⟨by rw [List.length_append];omega,rows++F8,by simp [hl,qo],?_,by simpa using ho,?_⟩,abe,fun x hx=>by rcases hf x hx with h | h;exact qk x h;omega,h0,hc⟩
 ·
  intro r hr
  rcases List.mem_append.1 hr with h | h
  ·
   exact hk r h
  exact nj r h
 intro i x r hi hr
 rcases Nat.lt_or_ge i xs.length with ee | Od
 ·
  rw [List.getElem?_append_left ee] at hi;rw [List.getElem?_append_left (by omega)] at hr;exact R.st hc.size bJ (hR i x r hi hr)
 rw [List.getElem?_append_right Od] at hi;rw [List.getElem?_append_right (by omega)] at hr;exact R.st hc.size bJ (hR2 (i - xs.length) x r hi (by rw [← hl];exact hr))
section
variable {P:Program}{kv:KV}{K:KV→World→Prop}{d:Tmp}{ty:TypeId}{pos:String}{af:Array Edge}{g:Option (Nat × Bool)}{T bytes mm:Nat}
theorem OX.abf(hT:AP P T E k bytes) {s x:Operand}{a2:Option Addr}{m c2:Nat}{A:Nat→Prop}{ys:List α}(hd:Nat.blt d mm=true) (hs:ev kv s=some (.slice a n c)) (hx:ev kv x=some (.slice a2 m c2))
  (mK:Ow R E k Z w a n c xs) (qk:∀x∈aI a,N≤x) (Dz:SR A w k (R.r Z w) a2 m c2 ys) (lY:(n+m)*bytes≤140737488355328) (Iy:n+m≤140737488355328) (hN:N≤w.heap.size) (hz:∀x,Z x→x<N) (q:Nat) (hq:∀c,a≠none→n+m≤c→q<c*k)
  (h:∀a' c' w',Ow R E k Z w' a' (n+m) c' (xs++ys)→IF N E (n*k) q w w'→(∀x∈aI a',N≤x)→(m=0→a'=a)→aV (aI a) w w'→K ((d,.slice a' (n+m) c')::kv) w') :
  OX P ⟨some d,.call {callee:=.builtin .append,args:=#[s,x],argTypes:=#[T,T]},ty,pos,af,g⟩ mm kv w K:=by
 refine⟨rfl,hd,by simp [known,opers,hs,hx],?_⟩;obtain⟨a',c',w',hr,h1,h2,h3,h4,h5⟩:=Oc hT (ty:=ty) mK qk Dz lY Iy hN hz hq
 have jg:(execOp (lX kv) ⟨some d,.call {callee:=.builtin .append,args:=#[s,x],argTypes:=#[T,T]},ty,pos,af,g⟩).run P w=.ok (.value (.slice a' (n+m) c')) w':=by
  simp only [execOp,resolve,invoke,builtin,Sem.run_bind,Sem.run_pure,Result.andThen_ok,List.map_toArray,List.map_cons,List.map_nil,aJ hs,aJ hx,hr]
 rw [jg];exact h _ _ _ h1 h2 h3 h4 h5
theorem IF.st{w0:World}{M:Nat→Prop}{l:List As}{q s:Nat}(h:IF N E q s w w') (bJ:St w0 M Z w l) (hl:∀x,rO l x→x<N) (hz:∀x,Z x→x<N) (h0:w0.heap.size≤N):St w0 M Z w' l where
 cT:=⟨h.os.trans bJ.cT.os,h.tape.trans bJ.cT.tape,h.output.trans bJ.cT.output,Nat.le_trans bJ.cT.size h.size,Nat.le_trans bJ.cT.drawn h.drawn,fun k hk hn=>by
  rw [h.vw (Nat.lt_of_lt_of_le hk bJ.cT.size) (by omega)];exact bJ.cT.block k hk hn⟩
 ma x hx:=Nat.lt_of_lt_of_le (bJ.ma x hx) h.size
 o9:=bJ.o9
 qh:=bJ.qh
 vD:=bJ.vD
 ok A hA:=A.st h.size (fun x hx N9=>h.vw N9 (by rcases hx with hx | hx;exact hl x ⟨A,hA,hx⟩;exact hz x hx)) (bJ.ok A hA)
end
theorem Ow.ext{α:Type}{R:RR α}{E k n c:Nat}{a:Option Addr}{xs:List α}{Z:Nat→Prop}{w w':World}(h:Ow R E k Z w a n c xs) (s:aV [] w w'):Ow R E k Z w' a n c xs:=
 (As.os R E k a n c xs).st s.size (fun x _ hx=>s.block x hx (by simp)) h
section
variable {P:Program}{n:Nat}{kv:KV}{w:World}{K:KV→World→Prop}{d:Tmp}{ty:TypeId}{pos:String}{af:Array Edge}{g:Option (Nat × Bool)}{op:Op}{v:Value}
theorem OX.pv(h:PV P op ty kv w v) (hd:Nat.blt d n=true) (hK:K ((d,v)::kv) w):OX P ⟨some d,op,ty,pos,af,g⟩ n kv w K:=⟨h.1,hd,h.2.1,by rw [h.2.2];exact hK⟩
end
section
variable {κ:Type} [DecidableEq κ] {enc:κ→Value}{P:Program}{kt e ty T:TypeId}{w:World}{b:Nat}{l:List (κ × Value)}{kv:KV}
theorem PV.mM(hK:KK P kt enc) (hT:P.underlying T=some (.map kt e)) {z:Value}(hz:∀w,(zeroValue e).run P w=.ok z w) (hb:KM enc w b l) {x y:Operand}{k:κ}{v:Value}(hv:(bZ l k).getD z=v) (hx:ev kv x=some (.map (some b))) (hy:ev kv y=some (enc k)):PV P (.lookup T x y false) ty kv w v:=by
 have:=PV.look (ty:=ty) hK hT hz hb hx hy
 rw [hv] at this;exact this
end
def Oe(N:Nat) (P:List (Key × Value)→Prop) (v:Value) (w:World):Prop:=∃b m,v=.map (some b)∧N≤b∧KM Key.val w b m∧P m
theorem Oe.st{N:Nat}{P:List (Key × Value)→Prop}{F:Nat→Prop}(hN:∀x,F x→x<N) {v:Value}{w w':World}(c:jb F w w') (h:Oe N P v w):Oe N P v w':=by
 obtain⟨b,m,h1,h2,h3,h4⟩:=h;exact⟨b,m,h1,h2,(As.map Key.val b m).st (Z:=fun _=>False) c.size (fun x hx hl=>c.block x hl fun hf=>by rcases hx with hx | hx;have hx:x=b:=hx;subst hx;have:=hN x hf;omega;exact hx.elim) h3,h4⟩
theorem St.cg0{w w':World}{Z:Nat→Prop}{l:List As}(h:St w (rO []) Z w' l):aV [] w w':=h.cT.cT fun _ ⟨_,hA,_⟩=>by cases hA
theorem St.rb{w:World}{M Z:Nat→Prop}(h:St w M Z w []):St w (fun _=>False) Z w []:=St.start h.ma
theorem St.wk{w0 w:World}{M Z:Nat→Prop}{l:List As}(h:St w0 (fun _=>False) Z w l):St w0 M Z w l:=h.abb fun _ _ h=>h.elim
theorem St.fresh{w0 w:World}{Z:Nat→Prop}{l:List As}{A:As}(h:St w0 (fun _=>False) Z w (A::l)):∀x,A.fp x→w0.heap.size≤x:=fun x hx=>by
 rcases h.qh A (by simp) x hx with h1 | h1
 ·
  exact h1.elim
 exact h1
end Go.Rc

namespace Go.Rc
open Go
section
variable {P:Program}{Q:Exit→Act→World→Prop}{n:Nat}{kv:KV}{w0 w:World}{M Z:Nat→Prop}
theorem OX.VX{x y:Operand}{k b o N:Nat}{T:TypeId}{ty:TypeId}{pos:String}{af:Array Edge}{g:Option (Nat × Bool)}{K:KV→World→Prop}{e:TypeId}{l us l':List Value}(hT:(P.info? T).map (·.size)=some k) (hb:cW w b e l) (hx:ev kv x=some (.pointer (some ⟨b,0+o,none⟩))) (hy:ev kv y=some (.agg us.toArray))
  (hk:us.length=k) (h1:(Nat.ble (o+us.length) l.length && us.all (·.oneCell'))=true) (hl:l.take o++us++l.drop (o+us.length)=l')
  (h:∀w',aV [b] w w'→cW w' b e l'→K kv w') :
  OX P ⟨none,.store T x y,ty,pos,af,g⟩ N kv w K:=by
 simp only [Bool.and_eq_true] at h1
 exact OX.stA hT hb (by rw [hx,Nat.zero_add]) hy hk (Nat.le_of_ble_eq_true h1.1) (fun v hv=>List.all_eq_true.1 h1.2 v hv) hl fun w' a _ c=>h w' a c
theorem St.FK{A B:As}{l:List As}(h:St w0 M Z w (A::l)) (e:A=B):St w0 M Z w (B::l):=by subst e;exact h
def PS(N T len:Nat) (cs:List Value) (v:Value) (w:World):Prop:=∃b,v=.slice (some ⟨b,0,none⟩) len len∧N≤b∧cW w b T cs
theorem PS.st{N T len:Nat}{cs:List Value}{F:Nat→Prop}(hN:∀x,F x→x<N) {v:Value}{w w':World}(c:jb F w w') (h:PS N T len cs v w):PS N T len cs v w':=by
 obtain⟨b,h1,h2,h3⟩:=h;exact⟨b,h1,h2,by have h4:_=_:=h3;show _=_;rw [c.block b h3.lt fun hf=>by have:=hN b hf;omega];exact h4⟩
theorem PS.pb{N T len b:Nat}{cs:List Value}{w:World}(h:PS N T len cs (.slice (some ⟨b,0,none⟩) len len) w):PB N T cs (.pointer (some ⟨b,0,none⟩)) w:=by
 obtain⟨b',h1,h2,h3⟩:=h
 simp at h1;subst h1;exact⟨_,rfl,h2,h3⟩
theorem St.swap{A B:As}{l:List As}{N:Nat}(h:St w0 M Z w (A::l)) (hB:B.ok Z w) (FH:∀x,B.fp x→A.fp x∨N≤x) (hl:∀x,rO (A::l) x→x<N) (hz:∀x,Z x→x<N) (h0:w0.heap.size≤N):St w0 M Z w (B::l) where
 cT:=h.cT
 ma:=h.ma
 o9 D hD x hx QO:=by
  rcases List.mem_cons.1 hD with rfl | hD
  ·
   rcases FH x hx with h1 | h1
   ·
    exact h.o9 A (by simp) x h1 QO
   have:=hz x QO;omega
  exact h.o9 D (by simp [hD]) x hx QO
 qh D hD x hx:=by
  rcases List.mem_cons.1 hD with rfl | hD
  ·
   rcases FH x hx with h1 | h1
   ·
    exact h.qh A (by simp) x h1
   exact .inr (Nat.le_trans h0 h1)
  exact h.qh D (by simp [hD]) x hx
 vD:=List.pairwise_cons.2 ⟨fun D hD x hx hd=>by
  rcases FH x hx with h1 | h1
  ·
   exact(List.pairwise_cons.1 h.vD).1 D hD x h1 hd
  have:=hl x ⟨D,by simp [hD],hd⟩;omega,(List.pairwise_cons.1 h.vD).2⟩
 ok D hD:=by
  rcases List.mem_cons.1 hD with rfl | hD
  ·
   exact hB
  exact h.ok D (by simp [hD])
theorem Of{α:Type}{R:RR α}{E k n c:Nat}{a:Option Addr}{xs:List α}{T bytes:Nat}(hT:AP P T E k bytes) {ty:TypeId}(mK:Ow R E k Z w a n c xs) (hzd:∀x∈aI a,¬Z x) {a2:Option Addr}{m c2:Nat}{A:Nat→Prop}{ys:List α}(hx:SR A w k (R.r Z w) a2 m c2 ys)
  (lY:(n+m)*bytes≤140737488355328) (Iy:n+m≤140737488355328) :
  ∃a' c' w',(Builtin.append_ #[T,T] ty #[.slice a n c,.slice a2 m c2]).run P w=.ok (.slice a' (n+m) c') w'∧Ow R E k Z w' a' (n+m) c' (xs++ys)∧Ow R E k Z w' a n c xs∧aV (aI a) w w'∧(∀x∈aI a',x∈aI a∨w.heap.size≤x):=by
 obtain⟨hn,rows,hl,hk,h1,hR⟩:=mK;obtain⟨Cs,F8,qo,nj,h2,hR2⟩:=hx;obtain⟨a',c',w',hr,ho,hc,hf,_,h0,iB⟩:=Dy hT (ty:=ty) h1 h2 lY Iy (Nat.zero_le _)
 have bJ:∀x,Z x→x<w.heap.size→w'.heap[x]?=w.heap[x]?:=fun x hx N9=>hc.block x N9 fun hm=>hzd x hm hx
 refine⟨a',c',w',hr,⟨by rw [List.length_append];omega,rows++F8,by simp [hl,qo],?_,by simpa using ho,?_⟩,⟨hn,rows,hl,hk,⟨h1.1,h1.2.1,?_⟩,fun i x r h2 h3=>R.st hc.size bJ (hR i x r h2 h3)⟩,hc,hf⟩
 ·
  intro r hr
  rcases List.mem_append.1 hr with h | h
  ·
   exact hk r h
  exact nj r h
 ·
  intro i x r hi hr
  rcases Nat.lt_or_ge i xs.length with ee | Od
  ·
   rw [List.getElem?_append_left ee] at hi;rw [List.getElem?_append_left (by omega)] at hr;exact R.st hc.size bJ (hR i x r hi hr)
  rw [List.getElem?_append_right Od] at hi;rw [List.getElem?_append_right (by omega)] at hr;exact R.st hc.size bJ (hR2 (i - xs.length) x r hi (by rw [← hl];exact hr))
 rcases h1.cases with⟨h2,h3,h4,h5⟩ | ⟨g,cur,h2,h3,h4,h5,h6,h7,h8⟩
 ·
  exact .inl ⟨by rw [h2,h3,h4],h3⟩
 have hg:g<w.heap.size:=(Array.getElem?_eq_some_iff.1 h4).1
 rcases iB with iB | ⟨yR,g',cu,cu',h9,Np,h11,h12,_,h13⟩
 ·
  exact .inr ⟨g,c,cur,by rw [h2],h3,by rw [iB.block g hg (by simp)];exact h4,h5,h6,h7,h8⟩
 rw [h2] at h9
 simp at h9
 subst h9;rw [h4] at Np
 simp at Np
 subst Np;exact .inr ⟨g,c,cu',by rw [h2],h3,h11,h5,h6,by rw [h12];exact h7,by rw [h13];exact h8⟩
theorem OX.ahu{α:Type}{R:RR α}{E k c j:Nat}{a:Option Addr}{xs:List α}{T bytes mm:Nat}{K:KV→World→Prop}{d:Tmp}{ty:TypeId}{pos:String}{af:Array Edge}{g:Option (Nat × Bool)}(hT:AP P T E k bytes) {s x:Operand}{a2:Option Addr}{m c2:Nat}{A:Nat→Prop}{ys:List α}(hd:Nat.blt d mm=true) (hs:ev kv s=some (.slice a j c)) (hx:ev kv x=some (.slice a2 m c2))
  (mK:Ow R E k Z w a j c xs) (hzd:∀x∈aI a,¬Z x) (Dz:SR A w k (R.r Z w) a2 m c2 ys) (lY:(j+m)*bytes≤140737488355328) (Iy:j+m≤140737488355328)
  (h:∀a' c' w',Ow R E k Z w' a' (j+m) c' (xs++ys)→Ow R E k Z w' a j c xs→aV (aI a) w w'→(∀x∈aI a',x∈aI a∨w.heap.size≤x)→K ((d,.slice a' (j+m) c')::kv) w') :
  OX P ⟨some d,.call {callee:=.builtin .append,args:=#[s,x],argTypes:=#[T,T]},ty,pos,af,g⟩ mm kv w K:=by
 refine⟨rfl,hd,by simp [known,opers,hs,hx],?_⟩;obtain⟨a',c',w',hr,h1,h2,h3,h4⟩:=Of hT (ty:=ty) mK hzd Dz lY Iy
 have jg:(execOp (lX kv) ⟨some d,.call {callee:=.builtin .append,args:=#[s,x],argTypes:=#[T,T]},ty,pos,af,g⟩).run P w=.ok (.value (.slice a' (j+m) c')) w':=by
  simp only [execOp,resolve,invoke,builtin,Sem.run_bind,Sem.run_pure,Result.andThen_ok,List.map_toArray,List.map_cons,List.map_nil,aJ hs,aJ hx,hr]
 rw [jg];exact h _ _ _ h1 h2 h3 h4
theorem WC.RB{id m:Nat}{l:List Oper}{ls:List As}(X:List Nat) (T:Nat→World→World→Prop) {E:Nat→Option (Value→World→Prop)}(bJ:St w0 M Z w ls)
  (hS:∀i S,E i=some S→∀j S',E j=some S'→j≠i→j∉jO l.toArray i→∀v w1 w2,(w.heap.size≤w1.heap.size∧St w0 M Z w1 ls)→(w.heap.size≤w2.heap.size∧St w0 M Z w2 ls)→T j w1 w2→S v w1→S v w2) (hm:P.follows .mixedOrders=true) (eX:yL l m X=true) (VG:(X.all fun x=>(E x).isNone)=true)
  (FE:DW P l.toArray n (fun wx=>w.heap.size≤wx.heap.size∧St w0 M Z wx ls) T E (fun kv w=>WL P l.toArray (NP Q) (l.drop m) n kv w) 0 (l.take m) kv []):WC P (.region id l.toArray true) Q n kv w:=
 WC.Kn (C:=fun wx=>w.heap.size≤wx.heap.size∧St w0 M Z wx ls) (T:=T) VG hS hm eX ⟨Nat.le_refl _,bJ.step (aV.drew [] w)⟩ FE
theorem WC.td{id m:Nat}{l:List Oper}{ls:List As}(X:List Nat) {E:Nat→Option (Value→World→Prop)}(bJ:St w0 M Z w ls)
  (hS:∀i S,E i=some S→∀j S',E j=some S'→j≠i→j∉jO l.toArray i→∀v w1 w2,(w.heap.size≤w1.heap.size∧St w0 M Z w1 ls)→(w.heap.size≤w2.heap.size∧St w0 M Z w2 ls)→jb (rO ls) w1 w2→S v w1→S v w2) (hm:P.follows .mixedOrders=true) (eX:yL l m X=true) (VG:(X.all fun x=>(E x).isNone)=true)
  (FE:DW P l.toArray n (fun wx=>w.heap.size≤wx.heap.size∧St w0 M Z wx ls) (fun _=>jb (rO ls)) E (fun kv w=>WL P l.toArray (NP Q) (l.drop m) n kv w) 0 (l.take m) kv []):WC P (.region id l.toArray true) Q n kv w:=
 WC.Kn (C:=fun wx=>w.heap.size≤wx.heap.size∧St w0 M Z wx ls) (T:=fun _=>jb (rO ls)) VG hS hm eX ⟨Nat.le_refl _,bJ.step (aV.drew [] w)⟩ FE
end
end Go.Rc

