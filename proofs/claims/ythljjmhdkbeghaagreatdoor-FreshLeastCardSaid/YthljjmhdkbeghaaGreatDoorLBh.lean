/- Base of the proof: frames, memory, ownership, and the plain meaning of rule systems. Conditions: as each lemma says. -/
import Derived.Test.YthljjmhdkbeghaaGreatDoorLBg
import Derived.Test.YthljjmhdkbeghaaGreatDoorLBf
import Derived.Deep.Slices
import Derived.SizedLaws
import Derived.Lib.LaidU8
import Derived.Lib.LaidTab
import Derived.LaidLaws
import GoSem.ClaimFn
import Derived.JoinedOf
import Derived.LaidOnce
import Derived.TwinInFollowed
import Derived.WideShapes
set_option linter.unusedVariables false
set_option linter.unusedSimpArgs false
set_option linter.unusedSectionVars false
namespace Go.Rc
open Go
theorem takeWhile_stop {α:Type} (p:α→Bool):∀(l:List α) (x:α),l[(l.takeWhile p).length]?=some x→p x=false
 | [],x,h=>by simp at h
 | y::r,x,h=>by
  by_cases hy:p y=true
  ·
   rw [List.takeWhile_cons_of_pos hy,List.length_cons,List.getElem?_cons_succ] at h;exact takeWhile_stop p r x h
  rw [List.takeWhile_cons_of_neg hy] at h
  simp at h
  subst h
  simpa using hy
section
variable {rules:List Rule} {inp:List Inp}
theorem hiFrom_stop (m:Nat):ringAt rules (hiFrom rules m)=false:=by
 unfold hiFrom
 cases h:ringAt rules (m+((rules.drop m).takeWhile (·.ring)).length) with
 | false=>rfl
 | true=>
  have h2:∃r,rules[m+((rules.drop m).takeWhile (·.ring)).length]?=some r∧r.ring=true:=by
   unfold ringAt at h
   cases he:rules[m+((rules.drop m).takeWhile (·.ring)).length]? with
   | none=>rw [he] at h;simp at h
   | some r=>rw [he] at h;exact ⟨r,rfl,by simpa using h⟩
  obtain ⟨r,h3,h4⟩:=h2;rw [← List.getElem?_drop] at h3;rw [takeWhile_stop _ _ _ h3] at h4;exact h4.symm
def seenI (S:List Int):List (Int × Value):=S.map fun x=>(x,.bool true)
theorem seenI_get (S:List Int) (y:Int):(mget (seenI S) y).getD (.bool false)=.bool (decide (y∈S)):=by
 unfold seenI
 induction S with
 | nil=>simp [mget]
 | cons x r ih=>
  simp only [List.map_cons,mget]
  by_cases e:x=y
  ·
   rw [if_pos e];simp [e]
  rw [if_neg e,ih]
  simp [Ne.symm e]
theorem seenI_put (S:List Int) {y:Int} (h:y∉S):mput (seenI S) y (.bool true)=seenI (S++[y]):=by
 unfold seenI
 induction S with
 | nil=>rfl
 | cons x r ih=>
  rw [List.mem_cons,not_or] at h;simp only [List.map_cons,List.cons_append,mput];rw [if_neg (Ne.symm h.1),ih h.2]
structure InS (rules:List Rule) (i:Nat) (z:Int):Prop where
 ex:∃j:Nat,z=(j:Int)∧blockLo rules i≤j∧j<hiFrom rules (i+1)∧RReach rules i j
def Clo (rules:List Rule) (lo:Nat) (S:List Int) (m:Nat):Prop:=∀r x,rules[m]?=some r→x∈r.asks→x.cell=false→(lo:Int)≤x.n→x.n∈S
structure SeenOk (rules:List Rule) (i:Nat) (S:List Int):Prop where
 nod:S.Nodup
 mem:(i:Int)∈S
 ins:∀z∈S,InS rules i z
theorem ring_hi {i:Nat} (hi:i<rules.length) (hr:ringAt rules i=true):i<hiFrom rules (i+1):=by unfold hiFrom;omega
theorem SeenOk.start {i:Nat} (hi:i<rules.length) (hr:ringAt rules i=true):SeenOk rules i [(i:Int)]:=
 ⟨by simp,by simp,fun z hz=>by rw [List.mem_singleton] at hz;exact ⟨i,hz,blockLo_le _ _,ring_hi hi hr,.refl⟩⟩
theorem SeenOk.len {i:Nat} (hi:i<rules.length) {S:List Int} (h:SeenOk rules i S):S.length≤rules.length:=by
 have:=nodup_len (U:=(List.range rules.length).map fun n:Nat=>(n:Int)) h.nod fun z hz=>by
  obtain ⟨j,rfl,_,h2,_⟩:=h.ins z hz
  have:=hiFrom_le rules (show i+1≤rules.length by omega)
  exact List.mem_map.2 ⟨j,List.mem_range.2 (by omega),rfl⟩
 simpa using this
theorem ask_seen (hR:rulesOk rules) {i m:Nat} (hi:i<rules.length) (hr:ringAt rules i=true) (h1:blockLo rules i≤m) (h2:m<hiFrom rules (i+1)) (h3:RReach rules i m) {r:Rule} (hm:rules[m]?=some r) {x:Ask} (hx:x∈r.asks) (hc:x.cell=false) (hlo:(blockLo rules i:Int)≤x.n):InS rules i x.n:=by
 have hml:m<rules.length:=(List.getElem?_eq_some_iff.1 hm).1;obtain ⟨_,rfl⟩:=List.getElem?_eq_some_iff.1 hm;have hrm:=block_ring hr h1 h2;have hmay:=ring_asks hR hml hrm hx;rw [hc] at hmay;obtain ⟨j,hj⟩:∃j:Nat,x.n=(j:Int):=⟨x.n.toNat,by omega⟩;rw [hj] at hmay hlo;have hmay2:=hmay;obtain ⟨hjl,_,hj2⟩:=ring_may hR hml hrm hmay;have hlm:blockLo rules m≤blockLo rules i:=reach_lo hR h3
 have hrj:ringAt rules j=true:=by
  cases h:ringAt rules j with
  | true=>rfl
  | false=>have:=hj2 h;omega
 have hjh:j<hiFrom rules (m+1):=by
  unfold mayOk at hmay2
  simp only [Bool.false_eq_true,if_false,Bool.and_eq_true,decide_eq_true_eq] at hmay2;have h4:=hmay2.2
  unfold mayTop at h4
  rw [block_in hml,if_pos hrm] at h4;simp only [hrm,if_true] at h4
  omega
 have hhi:hiFrom rules (m+1)≤hiFrom rules (i+1):=by
  rcases Nat.lt_or_ge (hiFrom rules (i+1)) (hiFrom rules (m+1)) with h5 | h5
  ·
   have:=block_ring hrm (show blockLo rules m≤hiFrom rules (i+1) by have:=blockLo_le rules m;omega) h5
   rw [hiFrom_stop] at this
   cases this
  exact h5
 exact ⟨j,hj,by omega,by omega,.step h3 ⟨_,x,getElem_some hml,(by rw [← ringAt_get hml];exact hrm),hx,hc,hj,hrj⟩⟩
theorem SeenOk.add (hR:rulesOk rules) {i m:Nat} (hi:i<rules.length) (hr:ringAt rules i=true) {S:List Int} (h:SeenOk rules i S) (hm:(m:Int)∈S) {r:Rule} (hrm:rules[m]?=some r) {x:Ask} (hx:x∈r.asks) (hc:x.cell=false) (hlo:(blockLo rules i:Int)≤x.n) (hn:x.n∉S):SeenOk rules i (S++[x.n]):=by
 obtain ⟨j,hj,h1,h2,h3⟩:=h.ins _ hm
 obtain rfl:m=j:=by omega
 refine ⟨?_,by simp [h.mem],fun z hz=>?_⟩
 ·
  rw [List.nodup_append];exact ⟨h.nod,by simp,fun a ha b hb=>by rw [List.mem_singleton] at hb;subst hb;exact fun e=>hn (e ▸ ha)⟩
 rcases List.mem_append.1 hz with hz | hz
 ·
  exact h.ins z hz
 rw [List.mem_singleton] at hz;exact hz ▸ ask_seen hR hi hr h1 h2 h3 hrm hx hc hlo
def Dir (rules:List Rule) (inp:List Inp) (lo m b:Nat):Prop:=∃r,rules[m]?=some r∧(r.c.toNat.testBit b=true∨∃x∈r.asks,(x.cell=true∨x.n<(lo:Int))∧(valS (valOf rules inp (askKey rules x))).testBit b=true)
theorem RReach.trans {i j k:Nat} (h:RReach rules i j) (h2:RReach rules j k):RReach rules i k:=by
 induction h2 with
 | refl=>exact h
 | step _ h3 ih=>exact .step ih h3
theorem least_bit (hR:rulesOk rules) {i:Nat} (hi:i<rules.length) (hr:ringAt rules i=true) {S:List Int} (h:SeenOk rules i S) (hc:∀m:Nat,blockLo rules i≤m→m<hiFrom rules (i+1)→(m:Int)∈S→Clo rules (blockLo rules i) S m) (b:Nat) :
  (rv rules inp i).testBit b=true↔∃m:Nat,m<rules.length∧(m:Int)∈S∧Dir rules inp (blockLo rules i) m b:=by
 show (ringB rules (valOf rules inp) i).testBit b=true↔_
 rw [ringB_bit hR hi hr]
 constructor
 ·
  rintro ⟨k,hk,hb⟩
  have key:∀k,RReach rules i k→(k:Int)∈S∨∃(m:Nat) (r:Rule) (x:Ask) (j:Nat),(m:Int)∈S∧rules[m]?=some r∧x∈r.asks∧x.cell=false∧x.n=(j:Int)∧x.n<(blockLo rules i:Int)∧j<rules.length∧ringAt rules j=true∧RReach rules j k:=by
   intro k hk
   induction hk with
   | refl=>exact .inl h.mem
   | @step j k _ ha ih=>
    rcases ih with ih | ⟨m,r,x,j2,h1,h2,h3,h4,h5,h6,h7,h8,h9⟩
    ·
     obtain ⟨r,x,e1,_,e3,e4,e5,e6⟩:=id ha;obtain ⟨j3,hj3,g1,g2,g3⟩:=h.ins _ ih
     obtain rfl:j=j3:=by omega
     by_cases hlo:(blockLo rules i:Int)≤x.n
     ·
      exact .inl (e5 ▸ hc j g1 g2 ih r x e1 e3 e4 hlo)
     exact .inr ⟨j,r,x,k,ih,e1,e3,e4,e5,by omega,ha.lt.2.1,ha.lt.2.2.2,.refl⟩
    exact .inr ⟨m,r,x,j2,h1,h2,h3,h4,h5,h6,h7,h8,.step h9 ha⟩
  rcases key k hk with hkS | ⟨m,r,x,j,h1,h2,h3,h4,h5,h6,h7,h8,h9⟩
  ·
   obtain ⟨j,hj,g1,g2,g3⟩:=h.ins _ hkS
   obtain rfl:k=j:=by omega
   have hkl:=(reach_ring hi hr g3).1;have hrk:=block_ring hr g1 g2;refine ⟨k,hkl,hkS,_,getElem_some hkl,?_⟩
   rcases (baseV_bit hkl b).1 hb with hb | ⟨x,hx,ho,hb⟩
   ·
    exact .inl hb
   refine .inr ⟨x,hx,?_,hb⟩
   cases hcx:x.cell with
   | true=>exact .inl rfl
   | false=>
    refine .inr ?_;have hmay:=ring_asks hR hkl hrk hx;rw [hcx] at hmay
    obtain ⟨_,⟨q,hq,_⟩⟩:True∧∃q:Nat,x.n=(q:Int)∧True:=⟨trivial,x.n.toNat,by
     have:=(mayOk_key hkl hR.len hmay)
     obtain ⟨m,h,_⟩:=this
     omega,trivial⟩
    rw [hq] at hmay
    have hnr:ringAt rules q=false:=by
     unfold outside at ho
     rw [hcx,hq] at ho
     simpa using ho
    have h6:=(ring_may hR hkl hrk hmay).2.2 hnr;have h7:=reach_lo hR g3;rw [hq]
    omega
  have hml:=(List.getElem?_eq_some_iff.1 h2).1;refine ⟨m,hml,h1,r,h2,.inr ⟨x,h3,.inr h6,?_⟩⟩
  unfold askKey
  rw [h4,h5];simp only [Bool.false_eq_true,if_false];rw [valS_ring hR h7 h8];exact (ringB_bit hR h7 h8 b).2 ⟨k,h9,hb⟩
 rintro ⟨m,hml,hmS,r,hrm,hd⟩;obtain ⟨j,hj,g1,g2,g3⟩:=h.ins _ hmS
 obtain rfl:m=j:=by omega
 have hrg:=block_ring hr g1 g2;obtain ⟨_,rfl⟩:=List.getElem?_eq_some_iff.1 hrm
 rcases hd with hd | ⟨x,hx,hlo,hd⟩
 ·
  exact ⟨m,g3,(baseV_bit hml b).2 (.inl hd)⟩
 by_cases ho:outside rules x=true
 ·
  exact ⟨m,g3,(baseV_bit hml b).2 (.inr ⟨x,hx,ho,hd⟩)⟩
 have ho:outside rules x=false:=by simpa using ho
 obtain ⟨q,hq,hqk,hql⟩:=inside_ask hR hml hrg hx ho;rw [hqk,valS_ring hR hql hq.lt.2.2.2] at hd;obtain ⟨k,hk,hkb⟩:=(ringB_bit hR hql hq.lt.2.2.2 b).1 hd;exact ⟨k,(RReach.step g3 hq).trans hk,hkb⟩
def BitsN (rules:List Rule) (inp:List Inp) (lo:Nat) (S:List Int) (n v:Nat):Prop:=v≤65535∧∀b,v.testBit b=true↔∃m:Nat,m<n∧(m:Int)∈S∧Dir rules inp lo m b
def BitsQ (rules:List Rule) (inp:List Inp) (lo:Nat) (S:List Int) (n:Nat) (r:Rule) (q v:Nat):Prop:=v≤65535∧∀b,v.testBit b=true↔(∃m:Nat,m<n∧(m:Int)∈S∧Dir rules inp lo m b)∨r.c.toNat.testBit b=true∨∃x∈r.asks.take q,(x.cell=true∨x.n<(lo:Int))∧(valS (valOf rules inp (askKey rules x))).testBit b=true
theorem or_le {a b:Nat} (ha:a≤65535) (hb:b≤65535):a ||| b≤65535:=by
 have:a ||| b<2 ^ 16:=Nat.or_lt_two_pow (by omega) (by omega)
 omega
variable {lo n q v:Nat} {S:List Int} {r:Rule}
theorem BitsN.zero:BitsN rules inp lo S 0 0:=⟨by omega,fun b=>by simp⟩
theorem BitsN.skip (h:BitsN rules inp lo S n v) (hn:(n:Int)∉S):BitsN rules inp lo S (n+1) v:=⟨h.1,fun b=>by
 rw [h.2]
 constructor
 ·
  rintro ⟨m,h1,h2,h3⟩;exact ⟨m,by omega,h2,h3⟩
 rintro ⟨m,h1,h2,h3⟩
 have:m≠n:=fun e=>hn (e ▸ h2)
 exact ⟨m,by omega,h2,h3⟩⟩
theorem BitsN.go (h:BitsN rules inp lo S n v) (hc:r.c.toNat≤65535):BitsQ rules inp lo S n r 0 (v ||| r.c.toNat):=⟨or_le h.1 hc,fun b=>by
 rw [Nat.testBit_or,Bool.or_eq_true,h.2]
 simp⟩
theorem BitsQ.no (h:BitsQ rules inp lo S n r q v) {x:Ask} (hx:r.asks[q]?=some x) (hn:¬(x.cell=true∨x.n<(lo:Int))):BitsQ rules inp lo S n r (q+1) v:=⟨h.1,fun b=>by
 rw [h.2];obtain ⟨hq,rfl⟩:=List.getElem?_eq_some_iff.1 hx;rw [List.take_succ_eq_append_getElem hq];refine or_congr Iff.rfl (or_congr Iff.rfl ⟨fun ⟨y,hy,h1⟩=>⟨y,List.mem_append_left _ hy,h1⟩,fun ⟨y,hy,h1⟩=>?_⟩)
 rcases List.mem_append.1 hy with hy | hy
 ·
  exact ⟨y,hy,h1⟩
 rw [List.mem_singleton] at hy;exact absurd (hy ▸ h1.1) hn⟩
theorem BitsQ.yes (h:BitsQ rules inp lo S n r q v) {x:Ask} (hx:r.asks[q]?=some x) (hn:x.cell=true∨x.n<(lo:Int)):BitsQ rules inp lo S n r (q+1) (v ||| valS (valOf rules inp (askKey rules x))):=⟨or_le h.1 (valS_le _),fun b=>by
 rw [Nat.testBit_or,Bool.or_eq_true,h.2];obtain ⟨hq,rfl⟩:=List.getElem?_eq_some_iff.1 hx;rw [List.take_succ_eq_append_getElem hq]
 constructor
 ·
  rintro ((h1 | h1 | ⟨y,hy,h1⟩) | h1)
  ·
   exact .inl h1
  ·
   exact .inr (.inl h1)
  ·
   exact .inr (.inr ⟨y,List.mem_append_left _ hy,h1⟩)
  exact .inr (.inr ⟨_,List.mem_append_right _ (List.mem_singleton.2 rfl),hn,h1⟩)
 rintro (h1 | h1 | ⟨y,hy,h1⟩)
 ·
  exact .inl (.inl h1)
 ·
  exact .inl (.inr (.inl h1))
 rcases List.mem_append.1 hy with hy | hy
 ·
  exact .inl (.inr (.inr ⟨y,hy,h1⟩))
 rw [List.mem_singleton] at hy;exact .inr (hy ▸ h1.2)⟩
theorem BitsQ.done (h:BitsQ rules inp lo S n r q v) (hr:rules[n]?=some r) (hq:r.asks.length≤q) (hn:(n:Int)∈S):BitsN rules inp lo S (n+1) v:=⟨h.1,fun b=>by
 rw [h.2,List.take_of_length_le hq]
 constructor
 ·
  rintro (⟨m,h1,h2,h3⟩ | h1)
  ·
   exact ⟨m,by omega,h2,h3⟩
  exact ⟨n,by omega,hn,r,hr,h1⟩
 rintro ⟨m,h1,h2,h3⟩
 by_cases e:m=n
 ·
  subst e;obtain ⟨r2,e1,e2⟩:=h3;rw [hr] at e1
  cases e1
  exact .inr e2
 exact .inl ⟨m,by omega,h2,h3⟩⟩
theorem BitsN.rv (hR:rulesOk rules) {i:Nat} (hi:i<rules.length) (hr:ringAt rules i=true) (h:SeenOk rules i S) (hc:∀m:Nat,blockLo rules i≤m→m<hiFrom rules (i+1)→(m:Int)∈S→Clo rules (blockLo rules i) S m) (hb:BitsN rules inp (blockLo rules i) S rules.length v):valOf rules inp (ofK rules (i:Int))=itoa (v:Int):=by
 have e:v=Go.Rc.rv rules inp i:=by
  apply Nat.eq_of_testBit_eq
  intro b;rw [Bool.eq_iff_iff,hb.2,least_bit hR hi hr h hc]
 rw [valOf_ofK hR hi,valI_ring hR hi hr,e]
end
end Go.Rc

namespace Go.Rc
open Go
abbrev K0:Key:=⟨31,itoa ((0:Nat):Int)⟩
abbrev v3:ByteArray:=itoa 3
abbrev s1:ES:=⟨⟨0,[],[rec1 0 v3]⟩,[],[K0],0⟩
end Go.Rc
namespace Go.Rc
open Go
abbrev v4:ByteArray:=⟨#[52]⟩
end Go.Rc

namespace Go.Rc
open Go
section
variable {P:Program} {kv:KV} {w:World} {T U ty:TypeId} {x y:Operand}
end
end Go.Rc
namespace Go.Rc
open Go
end Go.Rc

namespace Go.Rc
open Go
section
variable {H:Type} {enc:TypeId × Value→H} {P:Program} {w:World}
theorem weights_all {e:TypeId}:∀{l:List (DataW H)} {d:DataW H},d∈l→∀n∈d.weights P e,n∈DataW.weightsAll P e l
 | [],_,hd,_,_=>by cases hd
 | x::r,d,hd,n,hn=>by
  simp only [DataW.weightsAll,List.mem_append]
  rcases List.mem_cons.1 hd with rfl | hd
  ·
   exact .inl hn
  exact .inr (weights_all hd n hn)
def Lim (P:Program) (t:TypeId) (d:DataW H):Prop:=∀n∈d.weights P t,n≤reachBytes
theorem Lim.len {t e:TypeId} {xs ys:List (DataW H)} (h:Lim P t (.slice xs ys)) (ht:P.underlying t=some (.slice e)) (hb:1≤P.bytesOf e):xs.length≤140737488355328:=by
 have h1:=h ((xs.length+ys.length)*P.bytesOf e) (by simp only [DataW.weights,ht];exact List.mem_cons_self)
 unfold reachBytes at h1
 have h2:xs.length*1≤(xs.length+ys.length)*P.bytesOf e:=Nat.mul_le_mul (by omega) hb
 omega
theorem Lim.elem {t e:TypeId} {xs ys:List (DataW H)} (h:Lim P t (.slice xs ys)) (ht:P.underlying t=some (.slice e)) {d:DataW H} (hd:d∈xs):Lim P e d:=fun n hn=>
 h n (by simp only [DataW.weights,ht,List.mem_cons,List.mem_append];exact .inr (.inl (weights_all hd n hn)))
theorem Lim.each {ts:List TypeId} {ds:List (DataW H)} (h:(DataW.weightsEach P ts ds).all (·≤reachBytes)=true) {j:Nat} {t:TypeId} {d:DataW H} (ht:ts[j]?=some t) (hd:ds[j]?=some d):Lim P t d:=fun n hn=>by
 have:=List.all_eq_true.1 h n (DataW.weights_mem_each ht hd n hn)
 simpa using this
theorem open_lr {α:Type} [Inhabited α] {R:α→List Value→Prop} {t e:TypeId} {k fuel n c:Nat} {a:Option Addr} {d:DataW H} {p:List MemPlace} (ht:P.underlying t=some (.slice e)) (hk:P.cellsOf e=k) (hk1:1≤k) (hb:1≤P.bytesOf e)
  (hR:∀(m:Nat) (cs:List Value) (d:DataW H) (p:List MemPlace),DataW.trod enc P w 0 (fun _=>true) true m e cs=some (d,p)→cs.length=k→Lim P e d→∃x:α,R x cs)
  (h:DataW.trod enc P w 0 (fun _=>true) true fuel t [.slice a n c]=some (d,p)) (hl:Lim P t d):∃xs:List α,LR (fun b=>b<w.heap.size) w k R a n xs:=by
 rcases Deep.open_slice ht h with ⟨hc,_⟩ | ⟨a',len,cap,m,fu,D,Pl,hc,_,hle,_,hm,hx,hel⟩
 ·
  simp only [List.cons.injEq,Value.slice.injEq,and_true] at hc;obtain ⟨rfl,rfl,rfl⟩:=hc;exact ⟨[],⟨rfl,by omega,fun hx=>by simp at hx⟩⟩
 simp only [List.cons.injEq,Value.slice.injEq,and_true] at hc;obtain ⟨rfl,rfl,rfl⟩:=hc;simp only [Prod.mk.injEq] at hx;obtain ⟨rfl,_⟩:=hx;simp only [if_true] at hm
 have hn:n≤140737488355328:=by simpa using hl.len ht hb
 have each:∀i,i<n→∃q:α × List Value,w.cells? 0 (a'.add (i*k)) k=some q.2∧R q.1 q.2:=fun i hi=>by
  obtain ⟨cs',h1,h2⟩:=hel i (by omega);rw [hk] at h1;obtain ⟨x,hx⟩:=hR _ _ _ _ h2 (World.cells?_some h1).2.1 (hl.elem ht (List.mem_map.2 ⟨i,by simpa using hi,rfl⟩));exact ⟨(x,cs'),h1,hx⟩
 obtain ⟨q,hq⟩:=Deep.choose_lt each;refine ⟨(List.range n).map fun i=>(q i).1,⟨by simp,hn,fun {i x} hx=>?_⟩⟩
 obtain ⟨hi,rfl⟩:i<n∧(q i).1=x:=by
  rw [List.getElem?_map] at hx;obtain ⟨j,hj,hjx⟩:=Option.map_eq_some_iff.1 hx;rw [List.getElem?_eq_some_iff] at hj;obtain ⟨hj1,hj2⟩:=hj
  simp at hj1 hj2
  subst hj2;exact ⟨hj1,hjx⟩
 have hs:a'.spot=none:=by
  obtain ⟨_,hl0,hc0⟩:=World.cells?_some (hq 0 (by omega)).1;have h0:=hc0 0 (by omega);rw [List.getElem?_eq_getElem (by omega)] at h0
  have:=World.cell?_spot h0
  simpa [Addr.add] using this
 obtain ⟨b,o,s⟩:=a';simp only at hs;subst hs;obtain ⟨_,hcl,hcell⟩:=World.cells?_some (hq i hi).1
 have hr:w.rangeAt b (o+i*k) (q i).2:=fun j v hv=>by
  have hj:j<k:=by have:=(List.getElem?_eq_some_iff.1 hv).1;omega
  have:=hcell j hj
  rw [WideShapes.add_plain,WideShapes.add_plain] at this;rw [this,hv]
 refine ⟨b,o,(q i).2,rfl,hcl,(hq i hi).2,hr,?_,?_⟩ <;>
  exact World.block_lt_of_cell? w ⟨b,_,none⟩ (hr 0 _ (List.getElem?_eq_getElem (by omega)))
end
def ErrReads (P:Program) (w:World) (n:String):Prop:=∃(nm:String) (d:DataW Unit) (g t:Nat) (ms:Array (String × TypeId)),Lib.VarReads P w n (.iface nm d)∧P.globalNamed n=some g∧(P.globals[g]?).map (·.type)=some t∧P.underlying t=some (.interface ms)
theorem tab_of {P:Program} {w:World} {g t e:Nat} (hv:Lib.VarReads P w "internal/strconv.uint64pow10" (Lib.tabData .u64 Lib.pow10Tab)) (hg:P.globalNamed "internal/strconv.uint64pow10" = some g) (hty:(P.globals[g]?).map (·.type)=some t) (ht:P.underlying t=some (.array 20 e)) (he:P.underlying e=some (.int .u64))
  (hce:P.cellsOf e=1) (hct:P.cellsOf t=20) (hE1:ErrReads P w "strconv.ErrSyntax") (hE2:ErrReads P w "strconv.ErrRange"):Tab P (fun b=>b<w.heap.size) w:=by
 obtain ⟨g',t',cs,fuel,p,hg',ht',hvar,hd⟩:=hv;obtain rfl:=Option.some.inj (hg.symm.trans hg');obtain rfl:=Option.some.inj (hty.symm.trans ht');have hc:=Lib.cells_of_tab ht he hce hct hd
 have hT:Lib.TabIs P w "internal/strconv.uint64pow10" .u64 Lib.pow10Tab:=by
  unfold Lib.TabIs
  rw [hvar,← hc]
 have hlt:g<w.heap.size:=by
  unfold World.var? at hvar
  simp only [hg,Option.bind_some] at hvar
  split at hvar
  ·
   rename_i hh
   exact (Array.getElem?_eq_some_iff.1 hh).1
  cases hvar
 refine ⟨⟨g,hlt,hlt,fun w' e=>?_⟩,fun n hn g2 hg2=>?_⟩
 ·
  unfold Lib.TabIs World.var? at hT ⊢
  simp only [hg,Option.bind_some] at hT ⊢;rw [e];exact hT
 have hE:ErrReads P w n:=by
  rcases hn with rfl | rfl
  ·
   exact hE1
  exact hE2
 obtain ⟨nm,d,g3,t3,ms,⟨g4,t4,cs4,fuel4,p4,e1,e2,hv4,hd4⟩,e3,e4,e5⟩:=hE;obtain rfl:=Option.some.inj (e1.symm.trans hg2);obtain rfl:=Option.some.inj (e1.symm.trans e3);obtain rfl:=Option.some.inj (e2.symm.trans e4);obtain ⟨_,u,v,hcs,_,_⟩:=iface_of_trod e5 hd4
 unfold World.var? at hv4
 simp only [e1,Option.bind_some] at hv4
 split at hv4
 ·
  rename_i c0 x0 y0 hh
  obtain rfl:=Option.some.inj hv4;have hlt4:=(Array.getElem?_eq_some_iff.1 hh).1;refine ⟨hlt4,hlt4,.iface u v,.inr ⟨u,v,rfl⟩,fun w' e=>?_⟩;obtain rfl:c0=#[.iface u v]:=Array.toList_inj.1 hcs
  unfold World.cell?
  simp only [e,hh]
  first | done | rfl
 cases hv4
theorem Chg.belowB {w w':World} (h:Chg [] w w') (B:Nat) (hB:B≤w.heap.size):RowKit.Below B w w':=⟨h.os,h.tape,h.output,h.size,fun k hk=>h.block k (by omega) (by simp)⟩
end Go.Rc

namespace Go.Rc
open Go
def bitN (m f:Nat):Bool:=Nat.beq (Nat.land (Nat.shiftRight m f) 1) 1
def cloF (look:FuncId→Option Func) (P:Program):Nat→List FuncId→Nat→List FuncId→List FuncId
 | 0,_,_,seen=>seen.reverse
 | _,[],_,seen=>seen.reverse
 | n+1,f::todo,mask,seen=>
  match bitN mask f with
  | true=>cloF look P n todo mask seen
  | false=>cloF look P n ((look f).elim [] P.leadsTo++todo) (Nat.lor mask (Nat.shiftLeft 1 f)) (f::seen)
theorem bitN_eq (m f:Nat):bitN m f=m.testBit f:=by
 unfold bitN
 show Nat.beq ((m >>> f) &&& 1) 1=m.testBit f
 rw [Nat.testBit,Nat.and_comm];have h:=Nat.and_one_is_mod (m >>> f);rw [Nat.and_comm]
 have h2:(1 &&& m >>> f)=(m >>> f) % 2:=by rw [Nat.and_comm];exact h
 rw [Nat.and_comm,h2]
 rcases Nat.mod_two_eq_zero_or_one (m >>> f) with e | e <;> rw [e] <;> rfl
theorem cloF_eq {look:FuncId→Option Func} (P:Program) (hl:∀g,P.funcs[g]?=look g):∀(n:Nat) (todo:List FuncId) (mask:Nat) (seen:List FuncId),(∀x:Nat,mask.testBit x=seen.contains x)→cloF look P n todo mask seen=P.closureVia n todo seen
 | 0,_,_,_,_=>by unfold cloF Program.closureVia;rfl
 | n+1,[],_,_,_=>by unfold cloF Program.closureVia;rfl
 | n+1,f::todo,mask,seen,h=>by
  unfold cloF Program.closureVia
  rw [bitN_eq,h f]
  cases hc:seen.contains f with
  | true=>simp only [if_true];exact cloF_eq P hl n todo mask seen h
  | false=>
   simp only [Bool.false_eq_true,if_false];rw [hl f];refine cloF_eq P hl n _ _ _ fun x=>?_
   show (mask ||| (1 <<< f)).testBit x=(f::seen).contains x
   rw [Nat.testBit_or,h x,Nat.shiftLeft_eq,Nat.one_mul,Nat.testBit_two_pow,List.contains_cons,Bool.or_comm]
   congr 1
   by_cases e:f=x
   ·
    subst e;simp
   simp [e,Ne.symm e]
theorem closure_fast {look:FuncId→Option Func} (P:Program) (hl:∀g,P.funcs[g]?=look g) (f:FuncId):P.closure f=cloF look P (1+(P.funcs.toList.map fun g=>(P.leadsTo g).length+1).sum) [f] 0 []:=by
 unfold Program.closure
 exact (cloF_eq P hl _ _ _ _ fun x=>by simp).symm
end Go.Rc

namespace Go.Rc
open Go
def grownF (P:Program):Nat→List TypeId→List TypeId
 | 0,s=>s
 | d+1,s=>match decide (P.grow s=s) with
  | true=>s
  | false=>grownF P d (P.grow s)
theorem grown_fix {P:Program} {s:List TypeId} (h:P.grow s=s):∀n,P.grown n s=s
 | 0=>rfl
 | n+1=>by
  show P.grown n (P.grow s)=s
  rw [h];exact grown_fix h n
theorem grownF_eq (P:Program):∀(n:Nat) (s:List TypeId),P.grown n s=grownF P n s
 | 0,_=>rfl
 | n+1,s=>by
  show P.grown n (P.grow s)=match decide (P.grow s=s) with | true=>s | false=>grownF P n (P.grow s)
  by_cases h:P.grow s=s
  ·
   rw [decide_eq_true h]
   show P.grown n (P.grow s)=s
   rw [h];exact grown_fix h n
  rw [decide_eq_false h];exact grownF_eq P n _
def bookF (P:Program) (t:TypeId):List TypeId:=grownF P P.types.size [t]
theorem book_eq (P:Program) (t:TypeId):P.book t=bookF P t:=grownF_eq P _ _
def readF (P:Program) (t:TypeId):Bool:=(bookF P t).all fun u=>P.fineRow u && (P.partsOf u).all ((bookF P t).contains ·)
theorem read_eq (P:Program) (t:TypeId):P.readableRec t=readF P t:=by unfold Program.readableRec readF;simp only [book_eq]
def loopsF (P:Program) (t:TypeId):Bool:=(bookF P t).any fun u=>(P.partsOf u).any fun v=>(bookF P v).contains u
theorem loops_eq (P:Program) (t:TypeId):P.loopsFrom t=loopsF P t:=by unfold Program.loopsFrom loopsF;simp only [book_eq]
def mapsF (P:Program) (t:TypeId):Bool:=(bookF P t).any fun u=>match P.underlying u with | some (.map _ _)=>true | _=>false
theorem maps_eq (P:Program) (t:TypeId):P.mapsRec t=mapsF P t:=by unfold Program.mapsRec mapsF;rw [book_eq];try rfl
def ifacesF (P:Program) (t:TypeId):Bool:=(bookF P t).any fun u=>match P.underlying u with | some (.interface _)=>true | _=>false
theorem ifaces_eq (P:Program) (t:TypeId):P.ifacesRec t=ifacesF P t:=by unfold Program.ifacesRec ifacesF;rw [book_eq];try rfl
def veiledF (P:Program) (t:TypeId):Bool:=(bookF P t).any fun u=>match P.underlying u with | some (.func ..) | some (.chan ..) | some .unsafePointer=>true | _=>false
theorem veiled_eq (P:Program) (t:TypeId):P.veiledRec t=veiledF P t:=by unfold Program.veiledRec veiledF;rw [book_eq];try rfl
def wideF (P:Program) (t:TypeId):Bool:=
 (bookF P t).any fun u=>match P.underlying u with
  | some (.map k _)=>(match P.underlying k with | some (.array _ _) | some (.struct _)=>true | _=>false)
  | _=>false
theorem wide_eq (P:Program) (t:TypeId):P.wideKeysFrom t=wideF P t:=by unfold Program.wideKeysFrom wideF;rw [book_eq];try rfl
def veiledOwnF (P:Program) (t:TypeId):Bool:=!veiledF P t || (let L:=P.libraryStructs;(bookF P t).all fun u=>!(P.libraryStructIn L u && veiledF P u))
theorem veiledOwn_eq (P:Program) (t:TypeId):P.veiledOwn t=veiledOwnF P t:=by unfold Program.veiledOwn veiledOwnF;simp only [book_eq,veiled_eq];try rfl
def varReadF (P:Program) (n:String):Bool:=
 match P.globalNamed n with
 | some g=>((P.globals[g]?).map (·.type)).any fun t=>readF P t && veiledOwnF P t
 | none=>false
theorem varRead_eq (P:Program) (n:String):P.varReadable n=varReadF P n:=by unfold Program.varReadable varReadF;simp only [read_eq,veiledOwn_eq];try rfl
end Go.Rc

namespace Go.Rc
open Go
def blocks {α:Type _}:Nat→List α→List (List α)
 | 0,_=>[]
 | n+1,l=>l.take 32::blocks n (l.drop 32)
def pick {α:Type _} (b:List (List α)) (t:Nat):Option α:=(b[t / 32]?).bind (·[t % 32]?)
theorem pick_blocks {α:Type _}:∀(n:Nat) (l:List α) (t:Nat),l.length≤n*32→pick (blocks n l) t=l[t]?
 | 0,l,t,h=>by
  have:l=[]:=List.length_eq_zero_iff.1 (by omega)
  subst this
  simp [pick,blocks]
 | n+1,l,t,h=>by
  by_cases ht:t<32
  ·
   have h1:t / 32=0:=by omega
   have h2:t % 32=t:=by omega
   simp [pick,blocks,h1,h2,ht]
  have h1:t / 32=(t - 32) / 32+1:=by omega
  have h2:t % 32=(t - 32) % 32:=by omega
  have ih:=pick_blocks n (l.drop 32) (t - 32) (by simp;omega);simp only [pick] at ih;simp only [pick,blocks,h1,h2,List.getElem?_cons_succ,ih,List.getElem?_drop]
  congr 1
  omega
def rootOf (b:List (List TypeInfo)) (t:TypeId):Option TypeDesc:=
 (pick b t).bind fun i=>match i.desc with
  | .named _ u=>(pick b u).map (·.desc)
  | d=>some d
def wide (b:List (List TypeInfo)) (t:TypeId):Nat:=((pick b t).map (·.size)).getD 0
theorem info_pick {P:Program} {n:Nat} (hn:P.types.size≤n*32) {t:TypeId} {i:TypeInfo} (h:pick (blocks n P.types.toList) t=some i):P.info? t=some i:=by
 rw [pick_blocks n _ t (by simpa using hn),Array.getElem?_toList] at h;have ht:t<P.types.size:=(Array.getElem?_eq_some_iff.1 h).1
 unfold Tables.info?
 rw [if_pos ht,h]
theorem pick_in {P:Program} {n:Nat} (hn:P.types.size≤n*32) {t:TypeId} (h:t<P.types.size):∃i,pick (blocks n P.types.toList) t=some i:=by
 rw [pick_blocks n _ t (by simpa using hn),Array.getElem?_toList];exact ⟨_,Array.getElem?_eq_getElem h⟩
theorem rootOf_eq {P:Program} {n:Nat} (hn:P.types.size≤n*32) {t:TypeId} {d:TypeDesc} (h:rootOf (blocks n P.types.toList) t=some d):P.underlying t=some d:=by
 unfold rootOf at h
 unfold Program.underlying
 cases hp:pick (blocks n P.types.toList) t with
 | none=>rw [hp] at h;cases h
 | some i=>
  rw [hp] at h;rw [info_pick hn hp];obtain ⟨e,_⟩:=i
  cases e with
  | named a u=>
   simp only [Option.bind_some] at h
   cases hu:pick (blocks n P.types.toList) u with
   | none=>rw [hu] at h;cases h
   | some k=>
    rw [hu] at h;simp only [info_pick hn hu];exact h
  | _=>exact h
theorem wide_eq' {P:Program} {n:Nat} (hn:P.types.size≤n*32) {t:TypeId} (h:t<P.types.size):wide (blocks n P.types.toList) t=P.cellsOf t:=by
 obtain ⟨i,hi⟩:=pick_in hn h
 unfold wide Program.cellsOf
 rw [hi,info_pick hn hi]
def stands (b:List (List TypeInfo)) (N:Nat) (t:TypeId):Bool:=Nat.ble (t+1) N && kindOk (rootOf b t)
theorem stands_lt {b:List (List TypeInfo)} {N:Nat} {t:TypeId} (h:stands b N t=true):t<N:=by
 simp only [stands,Bool.and_eq_true] at h;exact Nat.le_of_ble_eq_true h.1
theorem stands_eq {P:Program} {n:Nat} (hn:P.types.size≤n*32) {t:TypeId} (h:stands (blocks n P.types.toList) P.types.size t=true):isVar P t=true:=by
 have hl:=stands_lt h;simp only [stands,Bool.and_eq_true] at h
 unfold isVar
 cases hr:rootOf (blocks n P.types.toList) t with
 | none=>rw [hr] at h;cases h.2
 | some d=>
  rw [hr] at h;rw [rootOf_eq hn hr,h.2,decide_eq_true hl]
  rfl
def laidFrom (b:List (List TypeInfo)) (N:Nat):Nat→List Field→Bool
 | _,[]=>true
 | o,f::r=>stands b N f.type && Nat.beq f.offset o && laidFrom b N (o+wide b f.type) r
def sumOf (b:List (List TypeInfo)):List Field→Nat
 | []=>0
 | f::r=>wide b f.type+sumOf b r
def rowB (b:List (List TypeInfo)) (N:Nat) (t:TypeId):Bool:=
 match rootOf b t with
 | none=>false
 | some (.struct fs)=>laidFrom b N 0 fs.toList && Nat.beq (wide b t) (sumOf b fs.toList)
 | some (.array k e)=>stands b N e && Nat.beq (wide b t) (k*wide b e)
 | some (.pointer e)=>stands b N e && Nat.beq (wide b t) 1
 | some (.slice e)=>stands b N e && Nat.beq (wide b t) 1
 | some (.tuple _)=>true
 | some .invalid=>true
 | some (.named _ _)=>true
 | _=>Nat.beq (wide b t) 1
def mapB (b:List (List TypeInfo)) (N:Nat) (t:TypeId):Bool:=
 match rootOf b t with
 | none=>false
 | some (.map _ e)=>Nat.ble (e+1) N
 | _=>true
theorem laidFrom_all {P:Program} {n:Nat} (hn:P.types.size≤n*32):∀(fs:List Field) (o:Nat),laidFrom (blocks n P.types.toList) P.types.size o fs=true→
  (∀f∈fs,isVar P f.type=true)∧(∀j f,fs[j]?=some f→f.offset=o+((fs.take j).map fun f=>P.cellsOf f.type).sum)∧sumOf (blocks n P.types.toList) fs=(fs.map fun f=>P.cellsOf f.type).sum
 | [],_,_=>⟨by simp,by simp,rfl⟩
 | g::r,o,h=>by
  simp only [laidFrom,Bool.and_eq_true] at h;obtain ⟨⟨h1,h2⟩,h3⟩:=h;rw [wide_eq' hn (stands_lt h1)] at h3;obtain ⟨i1,i2,i3⟩:=laidFrom_all hn r _ h3;refine ⟨fun f hf=>?_,fun j f hj=>?_,?_⟩
  ·
   rcases List.mem_cons.1 hf with rfl | hf
   ·
    exact stands_eq hn h1
   exact i1 f hf
  ·
   cases j with
   | zero=>
    simp only [List.getElem?_cons_zero,Option.some.injEq] at hj;subst hj
    simpa using Nat.eq_of_beq_eq_true h2
   | succ j=>
    have:=i2 j f (by simpa using hj)
    simp only [List.take_succ_cons,List.map_cons,List.sum_cons]
    omega
  simp only [sumOf,List.map_cons,List.sum_cons,i3,wide_eq' hn (stands_lt h1)]
theorem rowB_fine {P:Program} {n:Nat} (hn:P.types.size≤n*32) {t:TypeId} (ht:t<P.types.size) (h:rowB (blocks n P.types.toList) P.types.size t=true):rowFine P t=true:=by
 unfold rowB at h
 rw [wide_eq' hn ht] at h
 unfold rowFine
 rw [Bool.or_eq_true]
 cases hr:rootOf (blocks n P.types.toList) t with
 | none=>rw [hr] at h;cases h
 | some d=>
  have hu:=rootOf_eq hn hr;rw [hr] at h
  cases d with
  | struct fs=>
   right
   simp only [hu];simp only [Bool.and_eq_true] at h;obtain ⟨h1,h2,h3⟩:=laidFrom_all hn fs.toList 0 h.1;simp only [Bool.and_eq_true,List.all_eq_true,beq_iff_eq];refine ⟨⟨h1,(Nat.eq_of_beq_eq_true h.2).trans h3⟩,fun j hj=>?_⟩
   split
   ·
    rename_i f hf
    have:=h2 j f hf
    rw [beq_iff_eq]
    omega
   rfl
  | array k e=>
   right
   simp only [hu];simp only [Bool.and_eq_true] at h ⊢;rw [wide_eq' hn (stands_lt h.1)] at h;exact ⟨stands_eq hn h.1,by rw [beq_iff_eq];exact Nat.eq_of_beq_eq_true h.2⟩
  | pointer e=>
   right
   simp only [hu];simp only [Bool.and_eq_true] at h ⊢;exact ⟨stands_eq hn h.1,by rw [beq_iff_eq];exact Nat.eq_of_beq_eq_true h.2⟩
  | slice e=>
   right
   simp only [hu];simp only [Bool.and_eq_true] at h ⊢;exact ⟨stands_eq hn h.1,by rw [beq_iff_eq];exact Nat.eq_of_beq_eq_true h.2⟩
  | tuple e=>left;simp [isVar,hu,kindOk]
  | invalid=>left;simp [isVar,hu,kindOk]
  | named a e=>left;simp [isVar,hu,kindOk]
  | _=>
   right
   simp only [hu];rw [beq_iff_eq];exact Nat.eq_of_beq_eq_true h
def allTo (f:Nat→Bool):Nat→Bool
 | 0=>true
 | n+1=>f n && allTo f n
theorem allTo_range {f g:Nat→Bool}:∀(n:Nat),allTo f n=true→(∀t,t<n→f t=true→g t=true)→(List.range n).all g=true
 | 0,_,_=>by simp
 | n+1,h,hg=>by
  simp only [allTo,Bool.and_eq_true] at h;rw [List.range_succ,List.all_append,allTo_range n h.2 fun t ht=>hg t (by omega)]
  simp [hg n (by omega) h.1]
theorem rows_fine {P:Program} {N n:Nat} (hN:P.types.size=N) (hn:Nat.ble N (n*32)=true) (h:allTo (rowB (blocks n P.types.toList) N) N=true):(List.range P.types.size).all (rowFine P)=true:=by
 subst hN
 exact allTo_range _ h fun t hl ht=>rowB_fine (Nat.le_of_ble_eq_true hn) hl ht
theorem maps_rowed {P:Program} {N n:Nat} (hN:P.types.size=N) (hn:Nat.ble N (n*32)=true) (h:allTo (mapB (blocks n P.types.toList) N) N=true):mapsRowed P=true:=by
 subst hN
 unfold mapsRowed
 refine allTo_range _ h fun t hl ht=>?_
 unfold mapB at ht
 cases hr:rootOf (blocks n P.types.toList) t with
 | none=>rw [hr] at ht;cases ht
 | some d=>
  have hu:=rootOf_eq (Nat.le_of_ble_eq_true hn) hr;rw [hr] at ht;simp only [hu]
  cases d with
  | map k e=>exact decide_eq_true (Nat.le_of_ble_eq_true ht)
  | _=>rfl
theorem globals_in {P:Program} {N:Nat} (hN:P.types.size=N) (h:P.globals.toList.all (fun g=>Nat.ble (g.type+1) N)=true):P.globals.all (fun g=>decide (g.type<P.types.size))=true:=by
 subst hN;rw [← Array.all_toList];simp only [List.all_eq_true] at h ⊢
 exact fun g hg=>decide_eq_true (Nat.le_of_ble_eq_true (h g hg))
theorem params_in {P:Program} {N:Nat} (hN:P.types.size=N) (h:P.funcs.toList.all (fun f=>f.params.toList.all fun t=>Nat.ble (t+1) N)=true):P.funcs.all (fun f=>f.params.all fun t=>decide (t<P.types.size))=true:=by
 subst hN;rw [← Array.all_toList];simp only [List.all_eq_true] at h ⊢;intro f hf;rw [← Array.all_toList];simp only [List.all_eq_true]
 exact fun t ht=>decide_eq_true (Nat.le_of_ble_eq_true (h f hf t ht))
theorem laid_out {P:Program} (h1:(List.range P.types.size).all (rowFine P)=true) (h2:P.globals.all (fun g=>decide (g.type<P.types.size))=true) (h3:P.funcs.all (fun f=>f.params.all fun t=>decide (t<P.types.size))=true):laidOutB P=true:=by
 unfold laidOutB
 rw [h1,h2,h3]
 rfl
theorem both {a b:Bool} (ha:a=true) (hb:b=true):(a && b)=true:=by rw [ha,hb];rfl
end Go.Rc

namespace Go.Rc
open Go
theorem funcs_pick {P:Program} {N n:Nat} (hN:P.funcs.size=N) (hn:Nat.ble N (n*32)=true) (g:FuncId):P.funcs[g]?=pick (blocks n P.funcs.toList) g:=by
 subst hN;rw [pick_blocks n _ g (by simpa using Nat.le_of_ble_eq_true hn),Array.getElem?_toList]
def hits (name:String):Nat→List Func→List Nat
 | _,[]=>[]
 | k,f::r=>match f.name == name with
  | true=>k::hits name (k+1) r
  | false=>hits name (k+1) r
theorem hits_eq (name:String):∀(l:List Func) (k:Nat),hits name k l=((List.range l.length).filter fun i=>(l[i]?).any (·.name == name)).map (· + k)
 | [],_=>rfl
 | f::r,k=>by
  have h:=hits_eq name r (k+1);rw [List.length_cons,List.range_succ_eq_map,List.filter_cons,List.filter_map,List.getElem?_cons_zero]
  have e:((fun i=>((f::r)[i]?).any (·.name == name))∘Nat.succ)=fun i=>(r[i]?).any (·.name == name):=by
   funext i
   simp
  rw [e]
  have m:∀q:List Nat,(q.map Nat.succ).map (· + k)=q.map (· + (k+1)):=by
   intro q;rw [List.map_map]
   congr 1
   funext x
   show x.succ+k=x+(k+1)
   omega
  unfold hits
  cases hb:f.name == name with
  | true=>simp only [Option.any_some,hb,if_true,List.map_cons,Nat.zero_add,m,h]
  | false=>simp only [Option.any_some,hb,Bool.false_eq_true,if_false,m,h]
theorem funcNamed_list (P:Program) (name:String):P.funcNamed name=match hits name 0 P.funcs.toList with | [i]=>some i | _=>none:=by
 unfold Program.funcNamed
 rw [hits_eq];simp only [Nat.add_zero,List.map_id',Array.length_toList,Array.getElem?_toList]
 generalize (List.range P.funcs.size).filter (fun i=>(P.funcs[i]?).any (·.name == name))=q
 rcases q with _ | ⟨a,_ | ⟨b,r⟩⟩ <;> rfl
theorem worded_list (P:Program) (word:String):P.worded word=P.funcs.toList.any fun fn=>fn.body.isNone && fn.name == word:=by
 unfold Program.worded
 rw [Array.any_toList]
theorem laysLater_list (P:Program):P.laysLater=P.funcs.toList.any fun fn=>fn.body.isNone && (fn.name == "runtime.SetFinalizer" || fn.name == "runtime.AddCleanup" || fn.origin == "runtime.AddCleanup"):=by
 unfold Program.laysLater
 rw [Array.any_toList]
theorem stopsHeard_list (P:Program):P.stopsHeard=P.funcs.toList.all fun fn=>(Stop.rowOf fn).isNone || !fn.norace:=by
 unfold Program.stopsHeard
 rw [Array.all_toList]
def sameVars:List (String × DataW Unit)→List (String × DataW Unit)→Bool
 | [],[]=>true
 | (n,a)::r,(m,b)::s=>n == m && DataW.same a b && sameVars r s
 | _,_=>false
theorem sameVars_eq:∀(l m:List (String × DataW Unit)),sameVars l m=true→l=m
 | [],[],_=>rfl
 | (n,a)::r,(k,b)::s,h=>by
  simp only [sameVars,Bool.and_eq_true,beq_iff_eq] at h;rw [h.1.1,DataW.same_eq a b h.1.2,sameVars_eq r s h.2]
 | [],_::_,h=>by cases h
 | _::_,[],h=>by cases h
theorem door_of {P:Program} {n fuel M:Nat} {laid:List (String × DataW Unit)} {os:Os} {tape:Tape} {g:FuncId} (hg:varsId P=g) (he:funcsListed laid=[])
  (h:(match runN P n (Machine.entering P (World.unlaid P os) tape g ⟨#[],#[],[]⟩) with
   | .ended (.done _) w=>(DataW.laidRun P w.memory fuel ((laid.filter fun x=>x.2.handleName?.isNone).map (·.1))).any fun x=>nodupBits M x.2 0 && laidRowsB P w.memory x.2 && (laid.filter fun x=>x.2.handleName?.isSome && x.2.funcsIn?.isNone).all (handleAtB P w.memory) && sameVars x.1 (laid.filter fun x=>x.2.handleName?.isNone)
   | _=>false)=true):doorLeaves P n fuel M laid os tape=some (laid.filter fun x=>x.2.handleName?.isNone,(funcsListed laid).map (·.2.funcsOut)):=by
 unfold doorLeaves
 rw [hg]
 split at h
 ·
  rename_i v w hr
  rw [hr]
  simp only
  cases hx:DataW.laidRun P w.memory fuel ((laid.filter fun x=>x.2.handleName?.isNone).map (·.1)) with
  | none=>rw [hx] at h;cases h
  | some x=>
   rw [hx] at h;simp only [Option.any_some,Bool.and_eq_true] at h;obtain ⟨⟨⟨h1,h2⟩,h3⟩,h4⟩:=h;have e:=sameVars_eq _ _ h4;rw [he];simp only [Option.bind_some,h1,h2,h3,Bool.and_self,if_true,List.map_nil,funcsRun,Option.map_some,← e]
 cases h
end Go.Rc

namespace Go.Rc
open Go
theorem flat_ints:∀l:List Int,(l.map fun z=>[Value.int .i64 z]).flatten=l.map (Value.int .i64)
 | []=>rfl
 | x::r=>by rw [List.map_cons,List.map_cons,List.flatten_cons,flat_ints r];rfl
theorem open_il {H:Type} {enc:TypeId × Value→H} {P:Program} {w:World} {r:Reach} {base:Nat} {t e:TypeId} {fuel n c:Nat} {a:Option Addr} {d:DataW H} {p:List MemPlace} (ht:P.underlying t=some (.slice e)) (k1:P.cellsOf e=1) (b1:1≤P.bytesOf e) (he:P.underlying e=some (.int .i64))
  (hval:Value.okWide P w r base t (.slice a n c)) (h:DataW.trod enc P w 0 (fun _=>true) true fuel t [.slice a n c]=some (d,p)) (hl:Lim P t d):∃l:List Int,Rd RR.int 1 (fun b=>b<w.heap.size) w a n c l:=by
 obtain ⟨l,hlr⟩:=open_lr (R:=fun (z:Int) r=>r=[Value.int .i64 z]) ht k1 (Nat.le_refl _) b1 (fun m cs d p hm hcl _=>by
  obtain ⟨z,rfl,_,_⟩:=DataW.trod_int he hm;exact ⟨z,rfl⟩) h hl
 refine ⟨l,hlr.len,l.map fun z=>[Value.int .i64 z],by simp,fun r hr=>?_,?_,fun i x r hx hr=>?_⟩
 ·
  obtain ⟨z,_,rfl⟩:=List.mem_map.1 hr
  rfl
 ·
  rw [flat_ints];refine ⟨by simp [hlr.len],hlr.le,fun u hu=>?_,?_⟩
  ·
   obtain ⟨z,_,rfl⟩:=List.mem_map.1 hu
   rfl
  rcases Deep.open_slice ht h with ⟨hc,_⟩ | ⟨q,len,cap,m,fu,D,Pl,hc,_,hle,hmx,_⟩
  ·
   simp only [List.cons.injEq,Value.slice.injEq,and_true] at hc;exact .inl hc
  simp only [List.cons.injEq,Value.slice.injEq,and_true] at hc;obtain ⟨rfl,rfl,rfl⟩:=hc
  have hz:q.spot=none∧q.block<w.heap.size:=by
   simp only [Value.okWide,ht,Cell.okWide,Cell.ok] at hval;obtain ⟨_,_,_,h4,row,cells,h5,_⟩:=hval;refine ⟨h4,?_⟩
   unfold World.shape? at h5
   split at h5
   ·
    rename_i hh
    exact (Array.getElem?_eq_some_iff.1 hh).1
   cases h5
  obtain ⟨b,o,s⟩:=q;obtain ⟨hs,hb⟩:=hz;simp only at hs hb;subst hs;refine .inr ⟨b,o,rfl,hle,hmx,hb,hb,fun j v hv=>?_⟩;rw [List.getElem?_map] at hv;obtain ⟨z,hz,rfl⟩:=Option.map_eq_some_iff.1 hv;obtain ⟨b',o',r',e1,_,rfl,hr,_⟩:=hlr.at_ hz;simp only [Option.some.injEq,Addr.mk.injEq,and_true] at e1;obtain ⟨rfl,rfl⟩:=e1
  have:=hr 0 _ rfl
  simpa using this
 rw [List.getElem?_map,hx] at hr;exact (Option.some.inj hr).symm
end Go.Rc

