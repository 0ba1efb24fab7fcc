/- Base of the proof: frames, memory, ownership, and the plain meaning of rule systems. Conditions: as each lemma says. -/
import Derived.Test.YtjpagoacbadijaaGreatDoorVBf
import Derived.Test.YtjpagoacbadijaaGreatDoorVBd
set_option linter.all false
namespace Go.Rc
open Go
theorem St.zz{w w':World}{Z:Nat→Prop}{l:List As}{A B:As}(h:St w (rM [B]) Z w' (B::A::l)):∀x,A.fp x→w.heap.size≤x:=fun x hx=>by
 rcases h.qc A (by simp) x hx with⟨C,hC,hc⟩ | h1
 ·
  rw [List.mem_singleton] at hC;subst hC;exact absurd hx ((List.pairwise_cons.1 h.vA).1 A (by simp) x hc)
 exact h1
theorem o4.QL{ab:List aG}{k:Key}(hR:aw ab) (h:o4 ab k):gG ab k:=by
 have rS:=hR.len
 rcases h with⟨n,h0,h3,rfl⟩ | ⟨i,hi,rfl⟩
 ·
  obtain⟨m,rfl⟩:∃m:Nat,n=m:=⟨n.toNat,by omega⟩;exact .cell (by omega)
 exact .gF hi (by omega)
theorem o4.right{ab:List aG}{k:Key}(hR:aw ab) (h:o4 ab k):js ab k=true:=by
 have hk:=h.QL hR
 rcases h with⟨n,h0,h3,rfl⟩ | ⟨i,hi,rfl⟩
 ·
  unfold js
  rw [gG.valid hk]
  unfold dx
  rw [if_neg (by omega)]
  simp
 exact L6 hR hi
structure LB (ab:List aG) (x:dP):Prop where
 ok:BK ab x.ad x.ae x
 aF:lI x.ae x.ad
section
variable {ab:List aG}{x:dP}
theorem LB.apply(h:LB ab x) {y:dP}(hr:y.ak=x.ak) (h0:x.ae≤y.ae) (h1:y.ae≤1073741824) (hG:lI y.ae y.ad) (h6:y.ad.length≤64):LB ab y:=by
 have hg:=h.ok.ki;have ho:=h.ok.zw;have h00:0≤y.ae:=Int.le_trans ho.r0 h0;have hb:=hG.lH h00 h1 h6;exact⟨⟨⟨rfl,by show y.ak.length≤_;rw [hr];exact hg.len,by grind [Good.key],by grind [Good.H5],.nil,fun k=>.inl rfl⟩,⟨by show vF y.ak;rw [hr];exact ho.st,by show ∀r∈y.ak,_;rw [hr];exact fun r hm=>⟨(ho.v r hm).1,Int.le_trans (ho.v r hm).2 h0⟩,h00,h1⟩,rfl,hb.1,h6⟩,hG⟩
theorem LB.sub(h:LB ab x) {rs:List Rec}(hs:rs.Sublist x.ak):LB ab ⟨x.ae,x.ad,rs⟩:=⟨h.ok.sub hs,h.aF⟩
theorem LB.of(h:LB ab x) {b:dP}(hb:BK ab x.ad x.ae b):LB ab b:=by
 have h1:b.ad=x.ad:=hb.ki.aF;have h2:b.ae=x.ae:=hb.rv;refine⟨?_,?_⟩
 ·
  rw [h1,h2];exact hb
 rw [h1,h2];exact h.aF
theorem LB.task(h:LB ab x) {b:dP}(hb:BK ab x.ad x.ae b) {rs:List Rec}(hs:rs.Sublist b.ak):LB ab ⟨b.ae,b.ad,rs⟩:=(h.of hb).sub hs
theorem LB.Z0(hR:aw ab) (h:LB ab x) {goals:List Key}(hg:∀k∈goals,o4 ab k) (V9:goals.length≤32):∃(f:Nat) (s':ES),gV ab x goals=0∧Good ab x.ad ⟨x,[],[],0⟩∧(∀k∈goals,gG ab k)∧eD ab (valOf ab x.ad) f ⟨x,[],[],0⟩ goals=some s'∧s'.cP.length≤1000000∧LB ab (s'.base x)∧(s'.base x).ae=x.ae:=by
 have rS:=hR.len;have tm:=h.ok.ki;have hk:∀k∈goals,gG ab k:=fun k hm=>(hg k hm).QL hR;obtain⟨f,s',hu⟩:=zs (val:=valOf ab x.ad) hR goals ⟨x,[],[],0⟩ tm hk;have h1:=ti hR hu tm hk;have h2:=Gx hR hu tm h.ok.zw hk;have pX:=CE hR hu tm hk;have hop:iK ab ⟨x,[],[],0⟩≤ab.length:=TY _ _;refine⟨f,s',?_,tm,hk,hu,?_,?_,?_⟩
 ·
  unfold gV
  rw [if_neg (fun h=>h hR),if_neg (fun hn=>hn h.ok.lH),if_neg (by omega),if_pos (List.all_eq_true.2 fun k hm=>(hg k hm).right hR)]
 ·
  grind
 ·
  unfold ES.base
  split
  ·
   refine h.of ⟨⟨h1.1.aF,h1.1.len,h1.1.key,h1.1.H5,.nil,fun k=>.inl rfl⟩,⟨h2.st,h2.v,h2.r0,h2.r1⟩,h1.2.rev,h.ok.CK,h.ok.zx⟩
  exact h
 unfold ES.base
 split
 ·
  exact h1.2.rev
 rfl
theorem LB.start(h:LB ab x) {goals:List Key}(hk:∀k∈goals,gG ab k) (V9:goals.length≤32):TR ab x.ad x.ae 0 ⟨ab,x,goals,[],[]⟩:=
 ⟨⟨rfl,h.ok,hk,fun f hf=>(by cases hf),fun k hk=>(by cases hk)⟩,Nat.le_refl _,Nat.le_refl _,V9⟩
theorem LB.nil{ab:List aG}(y:dP) (hr:y.ak=[]) (h0:0≤y.ae) (h1:y.ae≤1073741824) (hG:lI y.ae y.ad) (h6:y.ad.length≤64):LB ab y:=by
 have hb:=hG.lH h0 h1 h6;exact⟨⟨⟨rfl,by grind,by grind,by grind,.nil,fun k=>.inl rfl⟩,⟨by show vF y.ak;rw [hr];exact .nil,by grind,h0,h1⟩,rfl,hb.1,h6⟩,hG⟩
end
end Go.Rc

namespace Go.Rc
open Go
def Wa(l:List Key):Prop:=l.Pairwise fun a b=>cv a b<0
theorem RN{l l':List Key}(hp:l'.Perm l) (hn:l.Nodup) (hs:l'.Pairwise fun a b=>¬cv b a<0):Wa l':=by
 have hn':l'.Pairwise fun a b=>a≠b:=hp.nodup_iff.2 hn
 refine(hs.and hn').imp fun {a b} h=>?_
 grind [k9,pd]
section
variable {ab:List aG}{aF:List dy}{k:Key}
theorem qC{l:List Key}{q:Nat}{y z:Key}(hy:l[q]?=some y) (hz:z∈l.take (q+1)):z∈l.take q∨z=y:=by grind [List.take_succ_eq_append_getElem]
def oG(l:List Key):List (Key × Value):=l.map fun x=>(x,.bool true)
theorem GF(l:List Key) (y:Key):(bX (oG l) y).getD (.bool false)=.bool (decide (y∈l)):=by
 unfold oG
 induction l with
 | nil=>simp [bX]
 | cons x r ih=>
  simp only [List.map_cons,bX]
  grind
theorem GG(l:List Key) {y:Key}(h:y∉l):dC (oG l) y (.bool true)=oG (l++[y]):=by
 unfold oG
 induction l with
 | nil=>rfl
 | cons x r ih=>
  rw [List.mem_cons,not_or] at h;simp only [List.map_cons,List.cons_append,dC];rw [if_neg (Ne.symm h.1),ih h.2]
end
end Go.Rc

namespace Go.Rc
open Go
structure LR {α:Type}(A:Nat→Prop) (w:World) (k:Nat) (R:α→List Value→Prop) (a:Option Addr) (n:Nat) (xs:List α):Prop where
 len:n=xs.length
 le:n≤140737488355328
 at_:∀{i:Nat}{x:α},xs[i]?=some x→∃b o r,a=some ⟨b,o,none⟩∧r.length=k∧R x r∧w.rangeAt b (o+i*k) r∧A b∧b<w.heap.size
theorem SR.Q5{α:Type}{w:World}{k b E:Nat}{R:α→List Value→Prop}{xs:List α}{rows:List (List Value)}(h:cV w b E rows.flatten) (hl:xs.length=rows.length) (hk:∀r∈rows,r.length=k) (h1:∀u∈rows.flatten,u.oneCell'=true)
  (hle:rows.length≤140737488355328) (hR:∀(i:Nat) (x:α) (r:List Value),xs[i]?=some x→rows[i]?=some r→R x r):SR (fun _=>True) w k R (some ⟨b,0,none⟩) rows.length rows.length xs:=by
 have hlen:rows.flatten.length=rows.length*k:=by
  clear h hl h1 hle hR
  induction rows with
  | nil=>simp
  | cons r t ih=>grind
 have ho:=OL.blk (base:=0) (k:=k) h (Nat.zero_le _) hlen h1 hle;exact⟨hl.symm,rows,hl.symm,hk,ho.sl (A:=fun _=>True) (fun _ _=>trivial) hle,hR⟩
end Go.Rc

namespace Go.Rc
open Go
theorem LB.GH{ab:List aG}{x:dP}(h:LB ab x):qA ab x:=
 ⟨h.ok.zw.r0,h.ok.zw.r1,⟨h.aF.1,h.aF.2.1⟩,h.aF.k99,h.ok.zx,fun r hr=>⟨h.ok.ki.key r hr,((gH _).1 (h.ok.zw.v r hr).1).2.2.1,(h.ok.ki.H5 r hr).2,(h.ok.zw.v r hr).1⟩,h.ok.zw.st,h.ok.ki.len,fun r hr=>(h.ok.zw.v r hr).2⟩
theorem LB.small{ab:List aG}{x:dP}(hR:aw ab) (h:LB ab x):∀k,(valOf ab x.ad k).size≤1000:=IQ hR fun y hy=>(h.aF.2.2 y hy).2
theorem OR.ahD{α:Type}{R:α→List Value→Prop}{base b E k:Nat}{w:World}{x y:α}{r s:List Value}(h:cV w b E (r++s)) (hb:base≤b) (hr:r.length=k) (hs:s.length=k) (h1:∀u∈r++s,u.oneCell'=true) (hx:R x r) (hy:R y s):OR base w E k R (some ⟨b,0,none⟩) 2 2 [x,y]:=
 ⟨rfl,[r,s],rfl,by simp [hr,hs],by grind [OL.blk],Gy hx hy⟩
end Go.Rc

namespace Go.Rc
open Go
section
variable {ab:List aG}{aF:List dy}
noncomputable def Ma(ab:List aG) (aF:List dy) (i q:Nat):List ByteArray:=(fZ (dt ab (aL ab (i:Int))) (valOf ab aF) q).2
noncomputable def tn(ab:List aG) (aF:List dy) (i q:Nat):Key:=(dt ab (aL ab (i:Int)) (Ma ab aF i q)).ask
theorem uw(i q:Nat):(Ma ab aF i q).length=q:=(iD _ _ _).2
theorem lh{i q:Nat}(hq:q<dU ab i):(dX ab aF i)[q]?=some (tn ab aF i q):=by
 unfold dX tn Ma
 generalize dU ab i=n at hq ⊢
 induction n with
 | zero=>omega
 | succ n ih=>
  have hl:=(iD (dt ab (aL ab (i:Int))) (valOf ab aF) n).1;simp only [fZ]
  grind
theorem KH(hR:aw ab) {i q:Nat}(hi:i<ab.length) (hq:q<dU ab i):dt ab (aL ab (i:Int)) (Ma ab aF i q)=⟨false,⟨#[]⟩,tn ab aF i q⟩:=by grind [fA,uw,tn]
theorem KI(hR:aw ab) {i:Nat}(hi:i<ab.length):dt ab (aL ab (i:Int)) (Ma ab aF i (dU ab i))=⟨true,valOf ab aF (aL ab (i:Int)),dn⟩:=jd hR hi
theorem GI(hR:aw ab) {i q:Nat}(hi:i<ab.length) (hq:q<dU ab i):gG ab (tn ab aF i q):=
 (tj hR hi _ (List.mem_of_getElem? (lh (aF:=aF) hq))).QL hR
theorem Mb(hR:aw ab) {i:Nat}(hi:i<ab.length) (hr:aD ab i=true):dE (valOf ab aF (aL ab (i:Int)))=rv ab aF i:=by grind [jl,jX,gA,wR]
end
end Go.Rc

namespace Go.Rc
open Go
section
variable {ab:List aG}{aF:List dy}{k:Key}{L:List Key}
end
end Go.Rc

namespace Go.Rc
open Go
section
variable {ab:List aG}{aF:List dy}
theorem dT.trans{i j k:Nat}(h:dT ab i j) (h2:dT ab j k):dT ab i k:=by
 induction h2 with
 | refl=>exact h
 | step _ h3 ih=>exact .step ih h3
variable {lo n q v:Nat}{S:List Int}{r:aG}
end
end Go.Rc

namespace Go.Rc
open Go
section
variable {ab:List aG}{aF ux:List dy}
end
end Go.Rc
namespace Go.Rc
open Go
end Go.Rc

namespace Go.Rc
open Go
section
variable {ab:List aG}{aF ux:List dy}
theorem zA(hR:aw ab) {i:Nat}(hi:i<ab.length) (h:∀a∈dX ab aF i,valOf ab aF a=valOf ab ux a):dX ab ux i=dX ab aF i∧valOf ab ux (aL ab (i:Int))=valOf ab aF (aL ab (i:Int)):=by
 have e:fZ (dt ab (aL ab (i:Int))) (valOf ab aF) (dU ab i)=fZ (dt ab (aL ab (i:Int))) (valOf ab ux) (dU ab i):=yZ _ fun m hm=>h _ (List.mem_of_getElem? (lh hm))
 refine⟨?_,?_⟩
 ·
  unfold dX
  rw [e]
 have h1:=jd (aF:=aF) hR hi;have h2:=jd (aF:=ux) hR hi
 grind
theorem wW(hR:aw ab) {G:Nat→Prop}(hG:∀j,G j→j<ab.length∧aD ab j=true) (h:∀j,G j→∀r x,ab[j]?=some r→x∈r.asks→(∀m,G m→cz ab x≠aL ab (m:Int))→valOf ab aF (cz ab x)=valOf ab ux (cz ab x)) {j:Nat}(hj:G j) (b:Nat) (hb:(rv ab aF j).testBit b=true):(rv ab ux j).testBit b=true:=by
 obtain⟨mK,y8⟩:=hG j hj;obtain⟨n,hn,F5⟩:=(fF hR mK y8 b).1 hb
 have key:∀n,dT ab j n→(G n∧dT ab j n)∨∃(m:Nat) (x:Ask) (r:aG) (q:Nat),G m∧dT ab j m∧ab[m]?=some r∧x∈r.asks∧cz ab x=aL ab (q:Int)∧¬G q∧gU ab m q∧dT ab q n:=by
  intro n hn
  induction hn with
  | refl=>exact .inl ⟨hj,.refl⟩
  | @step m q hm ha ih=>
   rcases ih with⟨g1,g2⟩ | ⟨m2,x,r,q2,g1,g2,g3,g4,g5,g6,g7,g8⟩
   ·
    by_cases hq:G q
    ·
     exact .inl ⟨hq,.step g2 ha⟩
    obtain⟨x,hx,_,hk⟩:=tc (hG m g1).1 ha;exact .inr ⟨m,x,_,q,g1,g2,ao (hG m g1).1,hx,hk,hq,ha,.refl⟩
   exact .inr ⟨m2,x,r,q2,g1,g2,g3,g4,g5,g6,g7,.step g8 ha⟩
 rcases key n hn with⟨g1,g2⟩ | ⟨m,x,r,q,g1,g2,g3,g4,g5,g6,g7,g8⟩
 ·
  obtain⟨l4,hnr⟩:=hG n g1;refine(fF hR mK y8 b).2 ⟨n,g2,?_⟩
  rcases(gB l4 b).1 F5 with h1 | ⟨x,hx,ho,h1⟩
  ·
   grind [gB]
  refine(gB l4 b).2 (.inr ⟨x,hx,ho,?_⟩);rw [← h n g1 _ x (ao l4) hx fun m hm e=>?_]
  ·
   exact h1
  grind [kY,bZ,aw.len]
 have hql:=g7.lt.2.1;have hqr:=g7.lt.2.2.2;have h1:(rv ab aF q).testBit b=true:=(fF hR hql hqr b).2 ⟨n,g8,F5⟩
 have h2:=h m g1 r x g3 g4 fun m2 kI e=>by grind [fo]
 have h3:rv ab aF q=rv ab ux q:=by grind [Mb]
 rw [h3] at h1;obtain⟨n2,h4,h5⟩:=(fF hR hql hqr b).1 h1;exact(fF hR mK y8 b).2 ⟨n2,(dT.step g2 g7).trans h4,h5⟩
theorem IW(hR:aw ab) {G:Nat→Prop}(hG:∀j,G j→j<ab.length∧aD ab j=true) (h:∀j,G j→∀r x,ab[j]?=some r→x∈r.asks→(∀m,G m→cz ab x≠aL ab (m:Int))→valOf ab aF (cz ab x)=valOf ab ux (cz ab x)) {j:Nat}(hj:G j):valOf ab aF (aL ab (j:Int))=valOf ab ux (aL ab (j:Int)):=by
 obtain⟨mK,y8⟩:=hG j hj
 have e:rv ab aF j=rv ab ux j:=by
  apply Nat.eq_of_testBit_eq
  intro b;rw [Bool.eq_iff_iff];exact⟨wW hR hG h hj b,wW hR hG (fun j hj r x h1 h2 h3=>(h j hj r x h1 h2 h3).symm) hj b⟩
 grind [jl,jX]
structure Cons (ab:List aG) (H:Int→List dy) (on:Key→Bool) (b:dP):Prop where
 now:H b.ae=b.ad
 ij:∀k t,az k=true→(cZ b.ad k).changed≤t→t≤b.ae→cellOf (H t) k=cellOf b.ad k
 KJ:∀r∈b.ak,r.ax≤b.ae∧r.changed≤r.ax
 vr:∀r∈b.ak,r.value=valOf ab (H r.ax) r.key∧r.reads=y9 ab (H r.ax) r.key
 rr:∀r∈b.ak,∀a∈r.reads,az a=false→∀ra,aB b.ak a=some ra→(r.ax=b.ae∧on a=true)∨(ra.changed≤r.ax→valOf ab (H r.ax) a=ra.value)
 rs:∀r∈b.ak,aA r.key=true→∀a∈r.reads,aA a=true→∀ra,aB b.ak a=some ra→(r.ax=b.ae∧on a=true)∨r.ax≤ra.ax
variable {H:Int→List dy}{on:Key→Bool}{b:dP}{k:Key}
theorem Cons.up(h:Cons ab H on b) (hu:aJ b k=true):∃r,aB b.ak k=some r∧r.ax=b.ae∧r.value=valOf ab b.ad k:=by
 obtain⟨r,hr,hv⟩:=cB.1 hu;obtain⟨h1,h2⟩:=aT hr;refine⟨r,hr,hv,?_⟩;rw [(h.vr r h1).1,hv,h.now,h2]
theorem Cons.changed(h:Cons ab H on b) {m:Rec}(hm:m∈b.ak) (dZ:m.ax<b.ae) {a:Key}(ha:a∈m.reads) (hc:bp (valOf ab b.ad) b a≤m.ax):valOf ab (H m.ax) a=valOf ab b.ad a:=by
 cases hi:az a with
 | true=>
  unfold bp at hc
  rw [if_pos hi] at hc
  have:=h.ij a m.ax hi hc (by omega)
  unfold valOf
  grind
 | false=>
  unfold bp at hc
  rw [if_neg (by rw [hi];simp)] at hc
  split at hc
  ·
   rename_i h1
   rw [Bool.and_eq_true] at h1;obtain⟨ra,kl⟩:=Option.isSome_iff_exists.1 h1.1
   have e:aH b.ak a=ra:=by unfold aH;rw [kl];rfl
   rw [e] at h1 hc
   have ie:valOf ab b.ad a=ra.value:=by
    rw [Bool.or_eq_true] at h1
    rcases h1.2 with h2 | h2
    ·
     have h2:=of_decide_eq_true h2;obtain⟨g1,g2⟩:=aT kl;rw [(h.vr ra g1).1,h2,h.now,g2]
    exact of_decide_eq_true h2
   rcases h.rr m hm a ha hi ra kl with⟨h2,_⟩ | h2
   ·
    omega
   rw [h2 hc,ie]
  omega
end
end Go.Rc

namespace Go.Rc
open Go
/-! ### lists of keys in order -/
def RO(l:List Key):Prop:=l.Pairwise fun a b=>cv a b<0
theorem tp{a b:Key}(h:cv a b<0) (h2:cv b a<0):False:=by grind [jP,k8]
theorem KL{k:Key}:∀{l:List Key},RO l→RO (pV k l)
 | [],_=>by simp [pV,RO]
 | x::r,h=>by
  obtain⟨h1,h2⟩:=List.pairwise_cons.1 h
  unfold pV
  split
  ·
   rename_i c
   refine List.pairwise_cons.2 ⟨fun y hy=>?_,KL h2⟩
   grind [Gs]
  rename_i c
  split
  ·
   exact h
  rename_i e
  have dZ:cv k x<0:=by grind [k9,pd]
  refine List.pairwise_cons.2 ⟨fun y hy=>?_,h⟩
  grind [jP]
theorem OB(l:List Key):RO (kR l):=by
 have key:∀(l acc:List Key),RO acc→RO (l.foldl (fun out k=>pV k out) acc):=by
  intro l
  induction l with
  | nil=>intro acc h;exact h
  | cons x r ih=>grind [KL]
 exact key l [] List.Pairwise.nil
theorem IX:∀{a b:List Key},RO a→RO b→(∀x,x∈a↔x∈b)→a=b
 | [],[],_,_,_=>rfl
 | [],y::b,_,_,h=>by have:=(h y).2 (by simp);cases this
 | x::a,[],_,_,h=>by have:=(h x).1 (by simp);cases this
 | x::a,y::b,h1,h2,h=>by
  obtain⟨h3,h4⟩:=List.pairwise_cons.1 h1;obtain⟨h5,h6⟩:=List.pairwise_cons.1 h2
  have e:x=y:=by
   rcases List.mem_cons.1 ((h x).1 (by simp)) with e | e
   ·
    exact e
   rcases List.mem_cons.1 ((h y).2 (by simp)) with e2 | e2
   ·
    exact e2.symm
   grind [tp]
  subst e
  congr 1
  refine IX h4 h6 fun z=>⟨fun hz=>?_,fun hz=>?_⟩
  ·
   grind [tp]
  grind [tp]
/-! ### rings that belong together -/
section
variable {l l':List Rec}{rev:Int}{k x y z:Key}
theorem cD:cJ l rev k=true↔∃r,aB l k=some r∧aA k=true∧r.ax<rev∧r.bS=false:=by
 unfold cJ aH
 cases h:aB l k with
 | none=>simp
 | some r=>simp
theorem cA.trans(h:cA l rev k x) (h2:cA l rev x y):cA l rev k y:=by
 induction h2 with
 | one h2=>exact .step h h2
 | step _ h3 ih=>exact .step ih h3
def CL(l:List Rec) (rev:Int) (x y:Key):Prop:=cA l rev x y∧cA l rev y x
theorem CL.symm(h:CL l rev x y):CL l rev y x:=⟨h.2,h.1⟩
theorem CL.trans(h:CL l rev x y) (h2:CL l rev y z):CL l rev x z:=⟨h.1.trans h2.1,h2.2.trans h.2⟩
theorem CL.iK(h:CL l rev x y):cJ l rev y=true:=h.1.iK
theorem IY:y∈k7 l rev k l↔y≠k∧CL l rev k y:=by
 unfold k7 Gu
 rw [List.mem_map]
 constructor
 ·
  rintro⟨r,hr,rfl⟩;rw [List.mem_filter] at hr;simp only [Bool.and_eq_true,decide_eq_true_eq,mQ] at hr;exact⟨hr.2.1,hr.2.2.1,hr.2.2.2⟩
 rintro⟨h1,h2⟩;obtain⟨r,hr,rfl⟩:=List.mem_map.1 (qv h2.iK);exact⟨r,List.mem_filter.2 ⟨hr,by simp only [Bool.and_eq_true,decide_eq_true_eq,mQ];exact⟨h1,h2.1,h2.2⟩⟩,rfl⟩
theorem dG:y∈aC l rev k↔y=k∨(cJ l rev k=true∧CL l rev k y):=by
 unfold aC
 split
 ·
  rename_i h
  rw [rA,List.mem_cons,IY]
  grind
 grind
theorem lJ:k∈aC l rev k:=dG.2 (.inl rfl)
theorem vK(l:List Rec) (rev:Int) (k:Key):RO (aC l rev k):=by
 unfold aC
 split
 ·
  exact OB _
 exact List.pairwise_singleton _ _
theorem nG(h:aA k=false):aC l rev k=[k]:=by
 unfold aC
 rw [if_neg]
 grind [cD]
theorem CN(hk:cJ l rev k=true) (h:CL l rev k y) (z:Key):z∈aC l rev y↔z∈aC l rev k:=by
 rw [dG,dG]
 constructor
 ·
  rintro(rfl | ⟨_,h1⟩)
  ·
   exact .inr ⟨hk,h⟩
  exact .inr ⟨hk,h.trans h1⟩
 rintro(rfl | ⟨_,h1⟩)
 ·
  exact .inr ⟨h.iK,h.symm⟩
 exact .inr ⟨h.iK,h.symm.trans h1⟩
theorem eF{g:List Key}{c:sg}:c∈bW l g↔c.eY∈g∧c.read∈(aH l c.eY).reads∧c.read∉g:=by
 unfold bW dW
 grind
theorem Bt{g:List Key}(h:∀m∈g,aH l' m=aH l m):bW l' g=bW l g:=by
 unfold bW
 have key:∀s:List Key,(∀m∈s,aH l' m=aH l m)→(s.flatMap fun m=>dW g m (aH l' m).reads)=s.flatMap fun m=>dW g m (aH l m).reads:=by
  intro s
  induction s with
  | nil=>intro _;rfl
  | cons m r ih=>grind
 exact key g h
end
/-! ### the change of records -/
def Pt(val:Key→ByteArray) (N:Key→Prop) (rev:Int) (cP:List Key) (y:Key) (o o':Option Rec):Prop:=
 o'=o∨((aA y=true∨N y)∧∃r,o=some r∧r.bS=false∧r.ax<rev∧(o'=some {r with ax:=rev}∨o'=some {r with bS:=true}))∨
 ((y∈cP∧N y)∧(∀r,o=some r→r.ax<rev)∧∃r',o'=some r'∧r'.ax=rev∧r'.bS=false∧r'.value=val y∧(∀r,o=some r→r'.changed=if r.value=r'.value then r.changed else rev)∧(o=none→r'.changed=rev))
structure kD (val:Key→ByteArray) (N:Key→Prop) (cP:List Key) (rev:Int) (l l':List Rec):Prop where
 pt:∀y,Pt val N rev cP y (aB l y) (aB l' y)
 scc:∀y z,CL l rev y z→cJ l' rev y=true→cJ l' rev z=true
def Live(l:List Rec) (rev:Int) (k:Key):Prop:=∃r,aB l k=some r∧r.bS=false∧r.ax<rev
theorem Live.DR{l:List Rec}{rev:Int}{k:Key}(h:cJ l rev k=true):Live l rev k:=by
 obtain⟨r,h1,_,h2,h3⟩:=cD.1 h;exact⟨r,h1,h3,h2⟩
theorem Live.iK{l:List Rec}{rev:Int}{k:Key}(h:Live l rev k) (hc:aA k=true):cJ l rev k=true:=by
 obtain⟨r,h1,h2,h3⟩:=h
 grind [cD]
section
variable {val:Key→ByteArray}{N N':Key→Prop}{cP abC:List Key}{rev:Int}{l l' l2:List Rec}{k x y z:Key}
theorem kD.refl(l:List Rec):kD val N cP rev l l:=⟨fun _=>.inl rfl,fun _ _ h _=>h.iK⟩
theorem kD.mono(h:kD val N cP rev l l') (hr:∀y∈cP,y∈abC) (hN:∀y,N y→N' y):kD val N' abC rev l l':=
 ⟨fun y=>by
  rcases h.pt y with h | ⟨h1,h2⟩ | ⟨⟨h1,h2⟩,h3⟩
  ·
   exact .inl h
  ·
   exact .inr (.inl ⟨h1.imp id (hN y),h2⟩)
  exact .inr (.inr ⟨⟨hr y h1,hN y h2⟩,h3⟩),h.scc⟩
theorem kD.live(h:kD val N cP rev l l') (hl:Live l' rev y):aB l' y=aB l y:=by
 obtain⟨r,h1,h2,h3⟩:=hl
 rcases h.pt y with e | ⟨_,q,_,_,_,e | e⟩ | ⟨_,_,q,e,h4,_⟩
 ·
  exact e
 ·
  grind
 ·
  grind
 grind
theorem kD.T4(h:kD val N cP rev l l') (hl:Live l' rev y):Live l rev y:=by
 obtain⟨r,h1,h2,h3⟩:=id hl;exact⟨r,by rw [← h.live hl];exact h1,h2,h3⟩
theorem kD.iK(h:kD val N cP rev l l') (ho:cJ l' rev y=true):aB l' y=aB l y:=h.live (.DR ho)
theorem kD.RP(h:kD val N cP rev l l') (ho:cJ l' rev y=true):cJ l rev y=true:=by
 obtain⟨r,h1,h2,h3,h4⟩:=cD.1 ho;exact cD.2 ⟨r,by rw [← h.iK ho];exact h1,h2,h3,h4⟩
theorem kD.aH(h:kD val N cP rev l l') (ho:cJ l' rev y=true):aH l' y=Rc.aH l y:=by
 unfold Rc.aH
 rw [h.iK ho]
theorem kD.leads(h:kD val N cP rev l l') (hk:cJ l' rev k=true) (hl:cA l' rev k x):cA l rev k x:=by
 induction hl with
 | one h1=>exact .one ⟨by rw [← h.aH hk];exact h1.1,h.RP h1.2⟩
 | step h1 h2 ih=>exact .step ih ⟨by rw [← h.aH h1.iK];exact h2.1,h.RP h2.2⟩
theorem kD.back(h:kD val N cP rev l l') (hk:cJ l' rev k=true) (hl:cA l rev k x):cA l rev x k→cA l' rev k x:=by
 induction hl with
 | one h1=>exact fun hx=>.one ⟨by rw [h.aH hk];exact h1.1,h.scc k _ ⟨.one h1,hx⟩ hk⟩
 | step h1 h2 ih=>
  intro hx;have g:=ih ((cA.one h2).trans hx);exact .step g ⟨by rw [h.aH g.iK];exact h2.1,h.scc k _ ⟨.step h1 h2,hx⟩ hk⟩
theorem kD.mut(h:kD val N cP rev l l') (hk:cJ l' rev k=true):CL l' rev k y↔CL l rev k y:=
 ⟨fun m=>⟨h.leads hk m.1,h.leads m.iK m.2⟩,fun m=>⟨h.back hk m.1 m.2,h.back (h.scc k y m hk) m.2 m.1⟩⟩
theorem kD.group(h:kD val N cP rev l l') (hk:Live l' rev k):aC l' rev k=aC l rev k∧∀m∈aC l rev k,aB l' m=aB l m:=by
 cases hc:aA k with
 | false=>
  rw [nG hc,nG hc];refine⟨rfl,fun m hm=>?_⟩;rw [List.mem_singleton.1 hm];exact h.live hk
 | true=>
  have ho:=hk.iK hc;refine⟨IX (vK _ _ _) (vK _ _ _) fun y=>?_,fun m hm=>?_⟩
  ·
   rw [dG,dG,h.mut ho,ho,h.RP ho]
  rcases dG.1 hm with rfl | ⟨_,m2⟩
  ·
   exact h.live hk
  exact h.iK (h.scc _ _ m2 ho)
theorem kD.OC(h:kD val N cP rev l l') (hk:Live l' rev k):bW l' (aC l' rev k)=bW l (aC l rev k):=by
 obtain⟨h1,h2⟩:=h.group hk;rw [h1];refine Bt fun m hm=>?_
 unfold Rc.aH
 rw [h2 m hm]
theorem kD.trans(h:kD val N cP rev l l') (h2:kD val N cP rev l' l2):kD val N cP rev l l2:=by
 refine⟨fun y=>?_,fun y z m ho=>?_⟩
 ·
  have g2:=h2.pt y
  rcases h.pt y with e | ⟨e0,r,e1,e2,e3,e4 | e4⟩ | ⟨e1,e2,r',e3,e4,e5,e6,e7,e8⟩
  ·
   rw [e] at g2;exact g2
  ·
   rcases g2 with g | ⟨_,q,g1,g2,g3,_⟩ | ⟨_,g1,_⟩
   ·
    exact .inr (.inl ⟨e0,r,e1,e2,e3,.inl (g.trans e4)⟩)
   ·
    grind
   grind
  ·
   rcases g2 with g | ⟨_,q,g1,g2,g3,_⟩ | ⟨g1,g2,q,g3,g4,g5,g6,g7,g8⟩
   ·
    exact .inr (.inl ⟨e0,r,e1,e2,e3,.inr (g.trans e4)⟩)
   ·
    grind
   refine .inr (.inr ⟨g1,fun r2 yj=>?_,q,g3,g4,g5,g6,fun r2 yj=>?_,fun hn=>?_⟩)
   ·
    grind
   ·
    grind
   grind
  rcases g2 with g | ⟨_,q,g1,g2,g3,_⟩ | ⟨_,g1,_⟩
  ·
   exact .inr (.inr ⟨e1,e2,r',g.trans e3,e4,e5,e6,e7,e8⟩)
  ·
   grind
  have:=g1 _ e3
  omega
 have Ri:=h2.RP ho;exact h2.scc y z ((h.mut Ri).2 m) ho
theorem eS{g:List Key}{d:Bool}:aB (l.map (cL rev g d)) y=(aB l y).map (cL rev g d):=vD _ (fun r=>(dN rev g d r).1) y l
theorem kD.mark(hl:Live l rev k) (d:Bool) (hN:aA k=true∨N k):kD val N cP rev l (l.map (cL rev (aC l rev k) d)):=by
 have ij:∀y∈aC l rev k,Live l rev y:=fun y hy=>by
  rcases dG.1 hy with rfl | ⟨_,m⟩
  ·
   exact hl
  exact .DR m.iK
 have gE:∀y,y∉aC l rev k→aB (l.map (cL rev (aC l rev k) d)) y=aB l y:=fun y hy=>by
  rw [eS]
  cases hf:aB l y with
  | none=>rfl
  | some r=>
   have e:=(aT hf).2
   show some (cL rev (aC l rev k) d r)=some r
   unfold cL
   rw [if_neg (by rw [e];exact hy)]
 have TG:∀y∈aC l rev k,∃r,aB l y=some r∧r.bS=false∧r.ax<rev∧aB (l.map (cL rev (aC l rev k) d)) y=some (if d then {r with bS:=true} else {r with ax:=rev}):=fun y hy=>by
  obtain⟨r,h1,h2,h3⟩:=ij y hy;refine⟨r,h1,h2,h3,?_⟩;rw [eS,h1]
  show some (cL rev (aC l rev k) d r)=_
  unfold cL
  rw [if_pos (by rw [(aT h1).2];exact hy)]
 refine⟨fun y=>?_,fun y z m ho=>?_⟩
 ·
  by_cases hy:y∈aC l rev k
  ·
   obtain⟨r,h1,h2,h3,h4⟩:=TG y hy;refine .inr (.inl ⟨?_,r,h1,h2,h3,?_⟩)
   ·
    rcases dG.1 hy with rfl | ⟨_,m⟩
    ·
     exact hN
    obtain⟨_,_,g,_⟩:=cD.1 m.iK;exact .inl g
   grind
  exact .inl (gE y hy)
 have hy:y∉aC l rev k:=fun hy=>by grind [cD]
 have hz:z∉aC l rev k:=fun hz=>hy (by
  rcases dG.1 hz with rfl | ⟨h1,h2⟩
  ·
   grind [dG,CL.iK,CL.symm]
  exact dG.2 (.inr ⟨h1,h2.trans m.symm⟩))
 obtain⟨r,h1,h2,h3,h4⟩:=cD.1 m.iK
 grind [cD]
theorem kD.put{r':Rec}(hk:cJ l rev r'.key=false) (dZ:∀r,aB l r'.key=some r→r.ax<rev) (pX:r'.key∈cP∧N r'.key) (hv:r'.ax=rev) (hd:r'.bS=false) (ie:r'.value=val r'.key)
  (hc:∀r,aB l r'.key=some r→r'.changed=if r.value=r'.value then r.changed else rev) (hn:aB l r'.key=none→r'.changed=rev):kD val N cP rev l (fP l r'):=by
 refine⟨fun y=>?_,fun y z m ho=>?_⟩
 ·
  rw [gi]
  by_cases e:y=r'.key
  ·
   rw [if_pos e,e];exact .inr (.inr ⟨pX,dZ,r',rfl,hv,hd,ie,hc,hn⟩)
  rw [if_neg e];exact .inl rfl
 have hz:z≠r'.key:=fun e=>by grind [CL.iK]
 obtain⟨r,h1,h2,h3,h4⟩:=cD.1 m.iK;exact cD.2 ⟨r,by rw [gi,if_neg hz];exact h1,h2,h3,h4⟩
end
end Go.Rc

namespace Go.Rc
open Go
theorem bD{l:List Rec}{k:Key}{r:Rec}(h:aB l k=some r):aH l k=r:=by
 unfold aH
 rw [h]
 rfl
theorem lK:∀{l:List Rec},vF l→∀{r:Rec},r∈l→aB l r.key=some r
 | [],_,r,hr=>by cases hr
 | x::xs,h,r,hr=>by
  obtain⟨h1,h2⟩:=List.pairwise_cons.1 h
  unfold aB
  rw [List.find?_cons]
  rcases List.mem_cons.1 hr with rfl | hr
  ·
   simp
  have h3:=h1 r hr
  have kV:x.key≠r.key:=fun e=>by rw [e,k8] at h3;omega
  have:(x.key == r.key)=false:=by simpa using kV
  rw [this];exact lK h2 hr
structure Bi (ab:List aG) (H:Int→List dy) (on:Key→Bool) (b:dP):Prop where
 c:Cons ab H on b
 st:vF b.ak
 kr:∀r∈b.ak,∃i:Nat,i<ab.length∧r.key=aL ab (i:Int)
 dv:∀r∈b.ak,r.bS=true→r.ax<b.ae
section
variable {ab:List aG}{H:Int→List dy}{on on':Key→Bool}{b:dP}{k:Key}
theorem Bi.T5(h:Bi ab H on b) (ho:∀k,on k=true→on' k=true):Bi ab H on' b:=
 ⟨{h.c with
   rr:=fun r hr a ha hi ra kl=>(h.c.rr r hr a ha hi ra kl).imp (fun⟨x,y⟩=>⟨x,ho _ y⟩) id
   rs:=fun r hr hc a ha hi ra kl=>(h.c.rs r hr hc a ha hi ra kl).imp (fun⟨x,y⟩=>⟨x,ho _ y⟩) id},h.st,h.kr,h.dv⟩
theorem Bi.off(h:Bi ab H on b) (hu:aJ b k=true) (ho:∀y,on y=true→y=k∨on' y=true):Bi ab H on' b:=by
 obtain⟨q,hq,hv,ie⟩:=h.c.up hu;refine⟨{h.c with rr:=fun r hr a ha hi ra kl=>?_,rs:=fun r hr hc a ha hi ra kl=>?_},h.st,h.kr,h.dv⟩
 ·
  rcases h.c.rr r hr a ha hi ra kl with⟨x,y⟩ | z
  ·
   rcases ho a y with rfl | y
   ·
    rw [kl] at hq
    have:=Option.some.inj hq
    subst this;refine .inr fun _=>?_;rw [x,h.c.now];exact ie.symm
   exact .inl ⟨x,y⟩
  exact .inr z
 rcases h.c.rs r hr hc a ha hi ra kl with⟨x,y⟩ | z
 ·
  grind
 exact .inr z
theorem Mc(hR:aw ab) {aF:List dy}{i:Nat}(hi:i<ab.length) (hr:aD ab i=true) {x:Ask}(hx:x∈ab[i].asks):cz ab x∈dX ab aF i:=by
 obtain⟨q,hq⟩:=List.mem_iff_getElem?.1 hx
 have hql:q<dU ab i:=by grind [dU]
 have h1:=lh (aF:=aF) hql
 grind [fA,uw,tn]
theorem Cons.lead(h:Cons ab H on b) {x y:Key}(hx:cJ b.ak b.ae x=true) (hl:cA b.ak b.ae x y):(aH b.ak x).ax≤(aH b.ak y).ax:=by
 have step:∀x y,cJ b.ak b.ae x=true→Ld b.ak b.ae x y→(aH b.ak x).ax≤(aH b.ak y).ax:=by
  intro x y hx hy;obtain⟨r,h1,h2,h3,h4⟩:=cD.1 hx;obtain⟨q,g1,g2,g3,g4⟩:=cD.1 hy.2;have ha:=hy.1;rw [bD h1] at ha;rw [bD h1,bD g1]
  rcases h.rs r (aT h1).1 (by rw [(aT h1).2];exact h2) y ha g2 q g1 with⟨e,_⟩ | e
  ·
   omega
  exact e
 induction hl with
 | one h1=>exact step _ _ hx h1
 | step h1 h2 ih=>grind [cA.iK]
theorem Bi.key(h:Bi ab H on b) (hl:Live b.ak b.ae k):∃i:Nat,i<ab.length∧k=aL ab (i:Int):=by
 obtain⟨r,h1,_⟩:=hl;obtain⟨h2,h3⟩:=aT h1;obtain⟨i,hi,e⟩:=h.kr r h2
 grind
theorem mj{l:List Rec}{rev:Int}{y:Key}(hl:Live l rev k) (hy:y∈aC l rev k):Live l rev y:=by
 rcases dG.1 hy with rfl | ⟨_,m⟩
 ·
  exact hl
 exact .DR m.iK
theorem Bi.fixed(hR:aw ab) (h:Bi ab H on b) (hl:Live b.ak b.ae k)
  (hp:∀m∈aC b.ak b.ae k,∀a∈(aH b.ak m).reads,a∉aC b.ak b.ae k→valOf ab (H (aH b.ak m).ax) a=valOf ab b.ad a) :
  ∀m∈aC b.ak b.ae k,valOf ab b.ad m=valOf ab (H (aH b.ak m).ax) m∧y9 ab b.ad m=y9 ab (H (aH b.ak m).ax) m:=by
 have rS:=hR.len
 have rT:∀m∈aC b.ak b.ae k,∃i:Nat,i<ab.length∧m=aL ab (i:Int)∧(aH b.ak m).reads=dX ab (H (aH b.ak m).ax) i:=fun m hm=>by
  have VB:=mj hl hm;obtain⟨i,hi,e⟩:=h.key VB;obtain⟨r,h1,_⟩:=VB;refine⟨i,hi,e,?_⟩;have h2:=(h.c.vr r (aT h1).1).2;rw [bD h1,h2,(aT h1).2,e,jM hR hi]
 cases hc:aA k with
 | false=>
  rw [nG hc] at hp rT ⊢;intro m hm;rw [List.mem_singleton] at hm;subst hm;obtain⟨i,hi,e,rT⟩:=rT m (by simp)
  have hs:=zA hR hi (aF:=H (aH b.ak m).ax) (ux:=b.ad) fun a ha=>by
   refine hp m (by simp) a (by rw [rT];exact ha) fun hm=>?_;rw [List.mem_singleton] at hm;rw [e] at hm;rw [e,bZ hi (by omega)] at hc
   rcases tj hR hi a ha with⟨n,hn,rfl⟩ | ⟨j,hj,rfl,_,h5,_⟩
   ·
    grind [cO,eh]
   grind [fo]
  grind [jM]
 | true=>
  have ho:=hl.iK hc
  have ht:∀m∈aC b.ak b.ae k,(aH b.ak m).ax=(aH b.ak k).ax:=fun m hm=>by
   rcases dG.1 hm with rfl | ⟨_,m1,m2⟩
   ·
    rfl
   have a1:=h.c.lead ho m1;have a2:=h.c.lead m1.iK m2
   omega
  have Kx:∀j:Nat,j<ab.length→aL ab (j:Int)∈aC b.ak b.ae k→aD ab j=true:=fun j hj hm=>by
   have h1:cJ b.ak b.ae (aL ab (j:Int))=true:=by grind [dG,CL.iK]
   grind [cD,bZ]
  have sn:∀j:Nat,j<ab.length→aL ab (j:Int)∈aC b.ak b.ae k→valOf ab (H (aH b.ak k).ax) (aL ab (j:Int))=valOf ab b.ad (aL ab (j:Int)):=fun j hj hm=>by
   refine IW hR (G:=fun j=>j<ab.length∧aL ab (j:Int)∈aC b.ak b.ae k) (fun j hj=>⟨hj.1,Kx j hj.1 hj.2⟩) (fun j hj r x hr hx kV=>?_) ⟨hj,hm⟩
   grind [fo,Mc]
  intro m hm;obtain⟨i,hi,e,rT⟩:=rT m hm;have h1:=sn i hi (e ▸ hm);rw [ht m hm] at rT ⊢;refine⟨by rw [e];exact h1.symm,?_⟩
  have hs:=zA hR hi (aF:=H (aH b.ak k).ax) (ux:=b.ad) fun a ha=>by grind
  grind [jM]
theorem jZ(rev:Int) (g:List Key) (d:Bool) (r:Rec):(cL rev g d r).value=r.value∧(cL rev g d r).changed=r.changed:=by
 unfold cL
 grind
theorem Bi.mark(hR:aw ab) (h:Bi ab H on b) (hl:Live b.ak b.ae k)
  (hp:∀m∈aC b.ak b.ae k,∀a∈(aH b.ak m).reads,a∉aC b.ak b.ae k→valOf ab (H (aH b.ak m).ax) a=valOf ab b.ad a∧(az a=true∨(on a=true∧aA a=true)∨aJ b a=true)) :
  Bi ab H on (dQ b (aC b.ak b.ae k) false):=by
 have hv:=h.fixed hR hl fun m hm a ha Bu=>(hp m hm a ha Bu).1
 generalize hG:aC b.ak b.ae k=G at hv hp
 have hvr:∀a ra,a∈G→aB b.ak a=some ra→ra.value=valOf ab b.ad a:=fun a ra ha kl=>by
  have h1:=(h.c.vr ra (aT kl).1).1;have h2:=(hv a ha).1;rw [bD kl] at h2;rw [h1,(aT kl).2,h2]
 have hmv:∀r:Rec,r.key∈G→(cL b.ae G false r).ax=b.ae:=fun r hr=>by
  unfold cL
  rw [if_pos hr]
  rfl
 have hmo:∀r:Rec,r.key∉G→cL b.ae G false r=r:=fun r hr=>by
  unfold cL
  rw [if_neg hr]
 refine⟨⟨h.c.now,h.c.ij,fun r' jg=>?_,fun r' jg=>?_,fun r' jg a ha hi ra' zB=>?_,fun r' jg hc a ha hi ra' zB=>?_⟩,h.st.map fun r=>(dN _ _ _ r).1,fun r' jg=>?_,fun r' jg hd=>?_⟩
 ·
  obtain⟨r,hr,rfl⟩:=List.mem_map.1 jg;have h1:=h.c.KJ r hr
  by_cases e:r.key∈G
  ·
   rw [hmv r e,(jZ _ _ _ r).2];exact⟨Int.le_refl _,by omega⟩
  rw [hmo r e];exact h1
 ·
  obtain⟨r,hr,rfl⟩:=List.mem_map.1 jg;have h1:=h.c.vr r hr
  by_cases e:r.key∈G
  ·
   have hf:=lK h.st hr;have h2:=hv r.key e;rw [bD hf] at h2;rw [hmv r e,(jZ _ _ _ r).1,(dN _ _ _ r).1,(dN _ _ _ r).2,h.c.now,h2.1,h2.2];exact h1
  rw [hmo r e];exact h1
 ·
  obtain⟨r,hr,rfl⟩:=List.mem_map.1 jg;rw [show(dQ b G false).ak=b.ak.map (cL b.ae G false) from rfl,eS] at zB;obtain⟨ra,kl,rfl⟩:=Option.map_eq_some_iff.1 zB;have hf:=lK h.st hr;rw [(dN _ _ _ r).2] at ha;rw [(jZ _ _ _ ra).1,(jZ _ _ _ ra).2]
  show((cL b.ae G false r).ax=b.ae∧_)∨_
  by_cases e:r.key∈G
  ·
   rw [hmv r e]
   by_cases ea:a∈G
   ·
    refine .inr fun _=>?_;rw [h.c.now];exact(hvr a ra ea kl).symm
   rcases(hp r.key e a (by rw [bD hf];exact ha) ea).2 with h1 | h1 | h1
   ·
    rw [hi] at h1
    cases h1
   ·
    exact .inl ⟨rfl,h1.1⟩
   refine .inr fun _=>?_;obtain⟨q,hq,_,ie⟩:=h.c.up h1;rw [kl] at hq
   have:=Option.some.inj hq
   subst this;rw [h.c.now];exact ie.symm
  rw [hmo r e];exact h.c.rr r hr a ha hi ra kl
 ·
  obtain⟨r,hr,rfl⟩:=List.mem_map.1 jg;rw [show(dQ b G false).ak=b.ak.map (cL b.ae G false) from rfl,eS] at zB;obtain⟨ra,kl,rfl⟩:=Option.map_eq_some_iff.1 zB;have hf:=lK h.st hr;rw [(dN _ _ _ r).2] at ha;rw [(dN _ _ _ r).1] at hc
  show((cL b.ae G false r).ax=b.ae∧_)∨_
  have Nl:=(aT kl).2;have hle:=(h.c.KJ r hr).1
  by_cases e:r.key∈G
  ·
   rw [hmv r e]
   by_cases ea:a∈G
   ·
    grind
   rcases(hp r.key e a (by rw [bD hf];exact ha) ea).2 with h1 | h1 | h1
   ·
    obtain⟨j,hj,ej⟩:=h.kr ra (aT kl).1
    grind [aw.len,eh]
   ·
    exact .inl ⟨rfl,h1.1⟩
   obtain⟨q,hq,hqv⟩:=cB.1 h1
   grind
  rw [hmo r e]
  rcases h.c.rs r hr hc a ha hi ra kl with h1 | h1
  ·
   exact .inl h1
  refine .inr ?_
  by_cases ea:ra.key∈G
  ·
   grind
  grind
 ·
  obtain⟨r,hr,rfl⟩:=List.mem_map.1 jg;rw [(dN _ _ _ r).1];exact h.kr r hr
 obtain⟨r,hr,rfl⟩:=List.mem_map.1 jg
 by_cases e:r.key∈G
 ·
  have hf:=lK h.st hr;obtain⟨q,g1,g2,_⟩:=mj hl (y:=r.key) (by rw [hG];exact e);rw [hf] at g1
  have:=Option.some.inj g1
  subst this
  unfold cL at hd
  grind
 rw [hmo r e] at hd ⊢;exact h.dv r hr hd
theorem Bi.bS(h:Bi ab H on b) {G:List Key}(hG:∀m∈G,Live b.ak b.ae m):Bi ab H on (dQ b G true):=by
 have hm:∀r:Rec,(cL b.ae G true r).ax=r.ax:=fun r=>by
  unfold cL
  grind
 refine⟨⟨h.c.now,h.c.ij,fun r' jg=>?_,fun r' jg=>?_,fun r' jg a ha hi ra' zB=>?_,fun r' jg hc a ha hi ra' zB=>?_⟩,h.st.map fun r=>(dN _ _ _ r).1,fun r' jg=>?_,fun r' jg hd=>?_⟩
 ·
  obtain⟨r,hr,rfl⟩:=List.mem_map.1 jg;rw [hm,(jZ _ _ _ r).2];exact h.c.KJ r hr
 ·
  obtain⟨r,hr,rfl⟩:=List.mem_map.1 jg;rw [hm,(jZ _ _ _ r).1,(dN _ _ _ r).1,(dN _ _ _ r).2];exact h.c.vr r hr
 ·
  obtain⟨r,hr,rfl⟩:=List.mem_map.1 jg;rw [show(dQ b G true).ak=b.ak.map (cL b.ae G true) from rfl,eS] at zB;obtain⟨ra,kl,rfl⟩:=Option.map_eq_some_iff.1 zB;rw [(dN _ _ _ r).2] at ha;rw [hm,(jZ _ _ _ ra).1,(jZ _ _ _ ra).2];exact h.c.rr r hr a ha hi ra kl
 ·
  obtain⟨r,hr,rfl⟩:=List.mem_map.1 jg;rw [show(dQ b G true).ak=b.ak.map (cL b.ae G true) from rfl,eS] at zB;obtain⟨ra,kl,rfl⟩:=Option.map_eq_some_iff.1 zB;rw [(dN _ _ _ r).2] at ha;rw [(dN _ _ _ r).1] at hc;rw [hm,hm];exact h.c.rs r hr hc a ha hi ra kl
 ·
  obtain⟨r,hr,rfl⟩:=List.mem_map.1 jg;rw [(dN _ _ _ r).1];exact h.kr r hr
 obtain⟨r,hr,rfl⟩:=List.mem_map.1 jg;rw [hm]
 by_cases e:r.key∈G
 ·
  obtain⟨q,g1,_,g2⟩:=hG _ e;rw [lK h.st hr] at g1
  have:=Option.some.inj g1
  subst this;exact g2
 unfold cL at hd
 rw [if_neg e] at hd;exact h.dv r hr hd
theorem Bi.put(hR:aw ab) (h:Bi ab H on b) {i:Nat}(hi:i<ab.length) (IL:aA (aL ab (i:Int))=true→on (aL ab (i:Int))=true)
  (Kh:∀a∈dX ab b.ad i,az a=true∨(on a=true∧aA a=true)∨aJ b a=true) :
  Bi ab H on {b with ak:=fP b.ak (dI b (aL ab (i:Int)) (valOf ab b.ad (aL ab (i:Int))) (dX ab b.ad i))}:=by
 have rS:=hR.len
 generalize hq:dI b (aL ab (i:Int)) (valOf ab b.ad (aL ab (i:Int))) (dX ab b.ad i)=q
 have q1:q.key=aL ab (i:Int):=by rw [← hq];rfl
 have q2:q.ax=b.ae:=by rw [← hq];rfl
 have q3:q.value=valOf ab b.ad (aL ab (i:Int)):=by rw [← hq];rfl
 have q4:q.reads=dX ab b.ad i:=by rw [← hq];rfl
 have q5:(∃r,aB b.ak q.key=some r∧r.value=q.value∧q.changed=r.changed)∨q.changed=b.ae:=by
  rw [← hq]
  unfold dI
  simp only
  split
  ·
   rename_i hc
   simp only [Bool.and_eq_true,decide_eq_true_eq] at hc;obtain⟨r,hr⟩:=Option.isSome_iff_exists.1 hc.1;rw [bD hr] at hc ⊢;exact .inl ⟨r,hr,hc.2,rfl⟩
  exact .inr rfl
 refine⟨⟨h.c.now,h.c.ij,fun r hr=>?_,fun r hr=>?_,fun r hr a ha QR ra kl=>?_,fun r hr hc a ha QR ra kl=>?_⟩,vF.put h.st,fun r hr=>?_,fun r hr hd=>?_⟩
 ·
  rcases iJ _ _ _ _ hr with rfl | hr
  ·
   refine⟨by rw [q2];exact Int.le_refl _,?_⟩
   rcases q5 with⟨p,hp,_,e⟩ | e
   ·
    have:=h.c.KJ p (aT hp).1
    omega
   omega
  exact h.c.KJ r hr
 ·
  rcases iJ _ _ _ _ hr with rfl | hr
  ·
   rw [q1,q2,q3,q4,h.c.now,jM hR hi];exact⟨rfl,rfl⟩
  exact h.c.vr r hr
 ·
  rw [show({b with ak:=fP b.ak q}:dP).ak=fP b.ak q from rfl,gi] at kl
  show(r.ax=b.ae∧_)∨_
  rcases iJ _ _ _ _ hr with rfl | hr
  ·
   by_cases e:a=r.key
   ·
    refine .inl ⟨q2,?_⟩;rw [e,q1];refine IL ?_;rw [q4] at ha;rw [bZ hi (by omega)]
    cases hrg:aD ab i with
    | true=>rfl
    | false=>
     rcases tj hR hi a ha with⟨n,hn,h1⟩ | ⟨j,hj,h1,_,h5,_⟩
     ·
      grind [cO]
     grind [fo]
   rw [if_neg e] at kl
   rcases Kh a (by rw [← q4];exact ha) with h1 | h1 | h1
   ·
    rw [QR] at h1
    cases h1
   ·
    exact .inl ⟨q2,h1.1⟩
   refine .inr fun _=>?_;obtain⟨p,hp,_,ie⟩:=h.c.up h1;rw [kl] at hp
   have:=Option.some.inj hp
   subst this;rw [q2,h.c.now];exact ie.symm
  by_cases e:a=q.key
  ·
   rw [if_pos e] at kl
   have:=Option.some.inj kl
   subst this
   rcases q5 with⟨p,hp,e2,e3⟩ | e2
   ·
    rcases h.c.rr r hr a ha QR p (by rw [e];exact hp) with h1 | h1
    ·
     exact .inl h1
    grind
   refine .inr fun hc=>?_;have h1:=(h.c.KJ r hr).1
   have hv:r.ax=b.ae:=by omega
   rw [hv,h.c.now,q3,e,q1]
  rw [if_neg e] at kl;exact h.c.rr r hr a ha QR ra kl
 ·
  rw [show({b with ak:=fP b.ak q}:dP).ak=fP b.ak q from rfl,gi] at kl
  show(r.ax=b.ae∧_)∨_
  rcases iJ _ _ _ _ hr with rfl | hr
  ·
   by_cases e:a=r.key
   ·
    grind
   rw [if_neg e] at kl
   rcases Kh a (by rw [← q4];exact ha) with h1 | h1 | h1
   ·
    obtain⟨j,hj,ej⟩:=h.kr ra (aT kl).1;rw [← (aT kl).2,ej,eh hj (by omega)] at h1
    cases h1
   ·
    exact .inl ⟨q2,h1.1⟩
   grind [cB]
  by_cases e:a=q.key
  ·
   rw [if_pos e] at kl
   have:=Option.some.inj kl
   subst this
   have:=(h.c.KJ r hr).1
   exact .inr (by omega)
  rw [if_neg e] at kl;exact h.c.rs r hr hc a ha QR ra kl
 ·
  rcases iJ _ _ _ _ hr with rfl | hr
  ·
   exact⟨i,hi,q1⟩
  exact h.kr r hr
 rcases iJ _ _ _ _ hr with rfl | hr
 ·
  have:r.bS=false:=by rw [← hq];rfl
  rw [this] at hd
  cases hd
 exact h.dv r hr hd
end
end Go.Rc

namespace Go.Rc
open Go
def RQ(val:Key→ByteArray) (b:dP) (y:Key):Prop:=∃m a,m∈aC b.ak b.ae y∧a∈(aH b.ak m).reads∧a∉aC b.ak b.ae y∧(aH b.ak m).ax<bp val b a
def Nn(val:Key→ByteArray) (b:dP) (y:Key):Prop:=az y=false∧aJ b y=false∧(aB b.ak y=none∨(aH b.ak y).bS=true∨RQ val b y)
section
variable {ab:List aG}{H:Int→List dy}{on:Key→Bool}{b b0:dP}{k:Key}{s t:ES}
def ES.FC(s:ES) (k:Key):Bool:=s.on k && aA k
theorem IZ(h:s.on k=true∧aA k=true):s.FC k=true:=by grind [ES.FC]
structure Wy (ab:List aG) (b0:dP) (s:ES):Prop where
 rev:s.b.ae=b0.ae
 aF:s.b.ad=b0.ad
 ev:kD (valOf ab b0.ad) (fun _=>True) s.cP b0.ae b0.ak s.b.ak
 QS:∀y r,aB s.b.ak y=some r→r.bS=true→(aH b0.ak y).bS=true∨RQ (valOf ab b0.ad) b0 y
 cP:∀y∈s.cP,Nn (valOf ab b0.ad) b0 y
 T6:∀y∈s.cP,aJ s.b y=true
 mrk:∀y,aJ b0 y=false→aJ s.b y=true→y∈s.cP∨¬RQ (valOf ab b0.ad) b0 y
 mE:s.cP.Nodup
theorem sq{val:Key→ByteArray}(hi:az k=false) (h:aB b.ak k=none):bp val b k=b.ae:=by grind [bp]
theorem fU{val:Key→ByteArray}(hi:az k=false) {r:Rec}(h:aB b.ak k=some r):bp val b k=if r.ax=b.ae∨val k=r.value then r.changed else b.ae:=by
 unfold bp
 rw [hi,bD h,h]
 grind
theorem Wy.changed(hB:Bi ab H on s.b) (h:Wy ab b0 s) (a:Key):bp (valOf ab b0.ad) s.b a=bp (valOf ab b0.ad) b0 a:=by
 cases hi:az a with
 | true=>
  unfold bp
  rw [hi,if_pos rfl,if_pos rfl,h.aF]
 | false=>
  rcases h.ev.pt a with e | ⟨_,r,e1,e2,e3,e4 | e4⟩ | ⟨_,e2,r',e3,e4,e5,e6,e7,e8⟩
  ·
   cases hf:aB b0.ak a with
   | none=>grind [sq,rev]
   | some r=>rw [fU hi (e.trans hf),fU hi hf,h.rev]
  ·
   have hu:aJ s.b a=true:=cB.2 ⟨_,e4,h.rev.symm⟩;obtain⟨q,hq,_,ie⟩:=hB.c.up hu;rw [e4] at hq
   have:=Option.some.inj hq
   subst this;rw [h.aF] at ie;rw [fU hi e4,fU hi e1,if_pos (.inl h.rev.symm),if_pos (.inr ie.symm)]
  ·
   rw [fU hi e4,fU hi e1,h.rev]
  rw [fU hi e3,if_pos (.inl (e4.trans h.rev.symm))]
  cases hf:aB b0.ak a with
  | none=>rw [sq hi hf,e8 hf]
  | some r=>
   rw [fU hi hf,e7 r hf,e6]
   grind
theorem Wy.Wb(hB:Bi ab H on s.b) (h:Wy ab b0 s) (hl:Live s.b.ak s.b.ae k) {m a:Key}(hm:m∈aC s.b.ak s.b.ae k) (ha:a∈(aH s.b.ak m).reads) (Bu:a∉aC s.b.ak s.b.ae k)
  (hc:(aH s.b.ak m).ax<bp (valOf ab b0.ad) s.b a):∀y∈aC s.b.ak s.b.ae k,RQ (valOf ab b0.ad) b0 y:=by
 intro y hy;rw [h.rev] at hl hm Bu hy;obtain⟨h1,h2⟩:=h.ev.group hl;rw [h1] at hm Bu hy;have Ls:=h.ev.T4 hl
 have e:aH s.b.ak m=aH b0.ak m:=by
  unfold aH
  rw [h2 m hm]
 rw [e] at ha hc
 have hg:∀z,z∈aC b0.ak b0.ae y↔z∈aC b0.ak b0.ae k:=fun z=>by
  rcases dG.1 hy with rfl | ⟨h3,h4⟩
  ·
   exact Iff.rfl
  exact CN h3 h4 z
 exact⟨m,a,(hg m).2 hm,ha,fun h3=>Bu ((hg a).1 h3),by rw [← h.changed hB a];exact hc⟩
theorem Wy.T7(h:Wy ab b0 s) (hl:Live s.b.ak s.b.ae k) (hp:∀m∈aC s.b.ak s.b.ae k,∀a∈(aH s.b.ak m).reads,a∉aC s.b.ak s.b.ae k→bp (valOf ab b0.ad) b0 a≤(aH s.b.ak m).ax):∀y∈aC s.b.ak s.b.ae k,¬RQ (valOf ab b0.ad) b0 y:=by
 rintro y hy ⟨m,a,hm,ha,Bu,hc⟩;rw [h.rev] at hl hp hy;obtain⟨h1,h2⟩:=h.ev.group hl;rw [h1] at hp hy
 have hg:∀z,z∈aC b0.ak b0.ae y↔z∈aC b0.ak b0.ae k:=fun z=>by
  rcases dG.1 hy with rfl | ⟨h3,h4⟩
  ·
   exact Iff.rfl
  exact CN h3 h4 z
 have e:aH s.b.ak m=aH b0.ak m:=by grind [aH]
 grind
theorem Wy.none(h:Wy ab b0 s) (hf:aB s.b.ak k=none):aB b0.ak k=none:=by
 rcases h.ev.pt k with e | ⟨_,r,e1,e2,e3,e4 | e4⟩ | ⟨_,e2,r',e3,_⟩
 ·
  exact e.symm.trans hf
 ·
  rw [hf] at e4;cases e4
 ·
  rw [hf] at e4;cases e4
 rw [hf] at e3;cases e3
theorem kD.aJ{val:Key→ByteArray}{N:Key→Prop}{cP:List Key}{b b':dP}(h:kD val N cP b.ae b.ak b'.ak) (hr:b'.ae=b.ae) (hu:Rc.aJ b k=true):Rc.aJ b' k=true:=by
 obtain⟨r,h1,h2⟩:=cB.1 hu
 rcases h.pt k with e | ⟨_,q,e1,e2,e3,_⟩ | ⟨_,e2,_⟩
 ·
  exact cB.2 ⟨r,e.trans h1,h2.trans hr.symm⟩
 ·
  grind
 have:=e2 r h1
 omega
theorem KN{G:List Key}(hu:Rc.aJ b k=false) (I0:Rc.aJ (dQ b G false) k=true):k∈G:=by
 obtain⟨r',h1,h2⟩:=cB.1 I0;have h1':(aB b.ak k).map (cL b.ae G false)=some r':=eS.symm.trans h1;obtain⟨r,hr,rfl⟩:=Option.map_eq_some_iff.1 h1';have e:=(aT hr).2;refine Classical.byContradiction fun hk=>?_
 unfold cL at h2
 rw [if_neg (by rw [e];exact hk)] at h2
 have:=cB.2 ⟨r,hr,h2⟩
 rw [hu] at this
 cases this
theorem GJ{G:List Key}:Rc.aJ (dQ b G true) k=Rc.aJ b k:=by
 have e:aB (dQ b G true).ak k=(aB b.ak k).map (cL b.ae G true):=eS
 have hm:∀r:Rec,(cL b.ae G true r).ax=r.ax:=fun r=>by
  unfold cL
  grind
 rw [Bool.eq_iff_iff,cB,cB,e]
 constructor
 ·
  rintro⟨r',h1,h2⟩;obtain⟨r,hr,rfl⟩:=Option.map_eq_some_iff.1 h1;rw [hm] at h2;exact⟨r,hr,h2⟩
 rintro⟨r,h1,h2⟩;exact⟨_,by rw [h1];rfl,by rw [hm];exact h2⟩
theorem CO{l:List Key}(h:l.Nodup) (hk:k∉l):(l++[k]).Nodup:=by grind
theorem Wy.step{s':ES}(h:Wy ab b0 s) (h1:s'.b.ae=s.b.ae) (h2:s'.b.ad=s.b.ad) (dL:kD (valOf ab b0.ad) (fun _=>True) s'.cP b0.ae s.b.ak s'.b.ak) (hr:∀y∈s.cP,y∈s'.cP)
  (hd:∀y r,aB s'.b.ak y=some r→r.bS=true→(aH b0.ak y).bS=true∨RQ (valOf ab b0.ad) b0 y) (hw:∀y∈s'.cP,Nn (valOf ab b0.ad) b0 y) (hn:∀y∈s'.cP,y∈s.cP∨Rc.aJ s'.b y=true)
  (hm:∀y,Rc.aJ s.b y=false→Rc.aJ s'.b y=true→y∈s'.cP∨¬RQ (valOf ab b0.ad) b0 y) (wF:s'.cP.Nodup):Wy ab b0 s':=by
 have qD:kD (valOf ab b0.ad) (fun _=>True) s'.cP s.b.ae s.b.ak s'.b.ak:=by rw [h.rev];exact dL
 refine⟨h1.trans h.rev,h2.trans h.aF,(h.ev.mono hr fun _ h=>h).trans dL,hd,hw,fun y hy=>?_,fun y hu I0=>?_,wF⟩
 ·
  rcases hn y hy with h3 | h3
  ·
   exact qD.aJ h1 (h.T6 y h3)
  exact h3
 cases hs:Rc.aJ s.b y with
 | true=>exact(h.mrk y hu hs).imp (hr y) id
 | false=>exact hm y hs I0
theorem Wy.zC(h:Wy ab b0 s) (hu:aJ s.b k=false):aJ b0 k=false:=by
 cases hb:aJ b0 k with
 | false=>rfl
 | true=>
  have:=h.ev.aJ h.rev hb
  rw [hu] at this
  cases this
theorem zD(h:aB b.ak k=none):aJ b k=false:=by
 unfold aJ
 rw [h]
 rfl
theorem mB{r:Rec}(h:aB b.ak k=some r) (hv:r.ax<b.ae):aJ b k=false:=by grind [cB]
theorem Bi.answer(hB:Bi ab H on b) (hk:gG ab k) (ht:az k=true∨aA k=true∨aJ b k=true):dz (valOf ab b.ad) b k=valOf ab b.ad k:=by
 unfold dz
 by_cases hc:aA k=true
 ·
  rw [if_pos hc]
 rw [if_neg hc]
 unfold uo
 by_cases hi:az k=true
 ·
  rw [if_pos hi]
  unfold valOf cellOf
  rw [if_pos hi]
 rw [if_neg hi]
 have hu:aJ b k=true:=by grind
 obtain⟨r,hf,hv,ie⟩:=hB.c.up hu
 have ho:nQ b k=true:=by grind [nQ,bD]
 rw [if_pos ho,bD hf,ie]
theorem uy(h:fB s k=true):az k=true∨(s.on k=true∧aA k=true)∨aJ s.b k=true:=by
 unfold fB at h
 grind
theorem OD(h:az k=true∨(s.on k=true∧aA k=true)∨aJ s.b k=true):fB s k=true:=by
 unfold fB
 grind
theorem Bi.len(hB:Bi ab H on b):b.ak.length≤ab.length:=by
 have h1:(b.ak.map (·.key)).Nodup:=by
  refine List.pairwise_map.2 (hB.st.imp fun {x y} h e=>?_);rw [e,k8] at h
  omega
 have h2:=iI (S:=(List.range ab.length).map fun i:Nat=>aL ab (i:Int)) h1 fun x hx=>by
  obtain⟨r,hr,rfl⟩:=List.mem_map.1 hx;obtain⟨i,hi,e⟩:=hB.kr r hr
  grind
 simpa using h2
/-! ### the order of what is asked -/
theorem vL(hR:aw ab) {aF:List dy}{i:Nat}(hi:i<ab.length) {a:Key}(ha:a∈dX ab aF i):gg ab i a∧∀m:Nat,m<ab.length→a=aL ab (m:Int)→Lw ab m (qy ab i)∧∀b,Lw ab i b→Lw ab m b:=by grind [List.mem_iff_getElem?,zm,lh,KD,uw,tn]
theorem Md(hR:aw ab) {aF:List dy}{i:Nat}(hi:i<ab.length) (hr:aD ab i=true) {a:Key}(ha:a∈dX ab aF i) (hc:aA a=true):∃j:Nat,j<ab.length∧a=aL ab (j:Int)∧gU ab i j:=by grind [List.mem_iff_getElem?,zm,lh,fA,uw,tn,kY,jL]
theorem wX(hR:aw ab) (hB:Bi ab H on b) {i:Nat}(hi:i<ab.length) (ho:cJ b.ak b.ae (aL ab (i:Int))=true) {x:Key}(hl:cA b.ak b.ae (aL ab (i:Int)) x):∃j:Nat,j<ab.length∧x=aL ab (j:Int)∧dT ab i j:=by
 have rS:=hR.len
 have step:∀(m:Nat) y,m<ab.length→cJ b.ak b.ae (aL ab (m:Int))=true→Ld b.ak b.ae (aL ab (m:Int)) y→∃j:Nat,j<ab.length∧y=aL ab (j:Int)∧gU ab m j:=by
  intro m y hm hom hy;obtain⟨r,h1,h2,h3,h4⟩:=cD.1 hom;obtain⟨q,g1,g2,_⟩:=cD.1 hy.2;have ha:=hy.1;rw [bD h1,(hB.c.vr r (aT h1).1).2,(aT h1).2,jM hR hm] at ha
  grind [bZ,Md]
 induction hl with
 | one h1=>
  obtain⟨j,h2,h3,h4⟩:=step i _ hi ho h1;exact⟨j,h2,h3,.step .refl h4⟩
 | step h1 h2 ih=>
  obtain⟨j,h3,rfl,h4⟩:=ih;obtain⟨q,h5,h6,h7⟩:=step j _ h3 h1.iK h2;exact⟨q,h5,h6,.step h4 h7⟩
theorem KO(hR:aw ab) (hB:Bi ab H on b) {i j:Nat}(hi:i<ab.length) (hj:j<ab.length) (hl:Live b.ak b.ae (aL ab (i:Int))) (hm:aL ab (j:Int)∈aC b.ak b.ae (aL ab (i:Int))):qy ab j=qy ab i∧∀b,Lw ab i b→Lw ab j b:=by
 have rS:=hR.len
 rcases dG.1 hm with e | ⟨ho,m1,m2⟩
 ·
  have:=fo hR hj hi e
  grind
 obtain⟨q,hq,eq,h1⟩:=wX hR hB hi ho m1
 have:=fo hR hj hq eq
 subst this;obtain⟨p,hp,ep,h2⟩:=wX hR hB hj m1.iK m2
 have:=fo hR hi hp ep
 subst this;have h3:=mO hR h1;have h4:=mO hR h2;obtain⟨_,_,c1,_⟩:=cD.1 ho;obtain⟨_,_,c2,_⟩:=cD.1 m1.iK;rw [bZ hi (by omega)] at c1;rw [bZ hj (by omega)] at c2
 unfold qy Lw
 grind
end
/-! ### a request -/
section
variable {ab:List aG}{H:Int→List dy}{b0:dP}
structure Rs (ab:List aG) (H:Int→List dy) (b0:dP) (N:Key→Prop) (s s':ES):Prop where
 e:s'.e=0
 bi:Bi ab H s.FC s'.b
 ev:kD (valOf ab b0.ad) N s'.cP b0.ae s.b.ak s'.b.ak
 wy:Wy ab b0 s'
theorem Rs.refl{N:Key→Prop}{s:ES}(he:s.e=0) (hB:Bi ab H s.FC s.b) (hW:Wy ab b0 s):Rs ab H b0 N s s:=⟨he,hB,.refl _,hW⟩
theorem Rs.trans{N:Key→Prop}{s t u:ES}(h:Rs ab H b0 N s t) (h2:Rs ab H b0 N t u) (hr:∀y∈t.cP,y∈u.cP) (ho:∀k,t.on k=s.on k):Rs ab H b0 N s u:=
 ⟨h2.e,h2.bi.T5 fun k hk=>by grind [ES.FC],(h.ev.mono hr fun _ h=>h).trans h2.ev,h2.wy⟩
def Ps(ab:List aG) (H:Int→List dy) (b0:dP) (s:ES) (k:Key) (n:Nat):Prop:=
 Live s.b.ak s.b.ae k→∀j c,j<n→(bW s.b.ak (aC s.b.ak s.b.ae k))[j]?=some c→
  valOf ab (H (aH s.b.ak c.eY).ax) c.read=valOf ab b0.ad c.read∧(az c.read=true∨(s.on c.read=true∧aA c.read=true)∨aJ s.b c.read=true)∧bp (valOf ab b0.ad) b0 c.read≤(aH s.b.ak c.eY).ax
theorem zF{val:Key→ByteArray}:∀f,(∀s k s',mb ab val f s k=some s'→∀y∈s.cP,y∈s'.cP)∧(∀s k n s' b,dF ab val f s k n=some (s',b)→∀y∈s.cP,y∈s'.cP)∧(∀s k r a s',gW ab val f s k r a=some s'→∀y∈s.cP,y∈s'.cP):=by
 intro f
 induction f with
 | zero=>grind [mb,dF,gW]
 | succ f ih=>
  obtain⟨LW,Fz,H6⟩:=ih;refine⟨?_,?_,?_⟩
  ·
   intro s k s' h y hy
   unfold mb at h
   split at h
   ·
    cases h;exact hy
   split at h
   ·
    cases h;exact hy
   split at h
   ·
    grind
   obtain⟨p,hp,h⟩:=Option.bind_eq_some_iff.1 h;obtain⟨t,ht,h⟩:=Option.bind_eq_some_iff.1 h
   cases h
   have h1:=Fz _ _ _ p.1 p.2 hp y hy
   grind
  ·
   grind [dF,Option.bind_eq_some_iff]
  grind [gW,Option.bind_eq_some_iff]
def UpR(ab:List aG) (H:Int→List dy) (b0:dP) (f:Nat):Prop:=∀s k s',mb ab (valOf ab b0.ad) f s k=some s'→Good ab b0.ad s→s.e=0→Bi ab H s.FC s.b→Wy ab b0 s→gG ab k→(∀i:Nat,i<ab.length→k=aL ab (i:Int)→ahw ab s i)→Rs ab H b0 (fun y=>s.on y=false) s s'
def ChR(ab:List aG) (H:Int→List dy) (b0:dP) (f:Nat):Prop:=∀s (i n:Nat) s' c,dF ab (valOf ab b0.ad) f s (aL ab (i:Int)) n=some (s',c)→Good ab b0.ad s→s.e=0→Bi ab H s.FC s.b→Wy ab b0 s→i<ab.length→s.on (aL ab (i:Int))=true→ZY ab s i→Ps ab H b0 s (aL ab (i:Int)) n→
 Rs ab H b0 (fun y=>s.on y=false∨y=aL ab (i:Int)) s s'∧(c=true→cJ s'.b.ak b0.ae (aL ab (i:Int))=false∧aJ s'.b (aL ab (i:Int))=false∧Nn (valOf ab b0.ad) b0 (aL ab (i:Int)))
def RuR(ab:List aG) (H:Int→List dy) (b0:dP) (f:Nat):Prop:=∀s (i n:Nat) s',gW ab (valOf ab b0.ad) f s (aL ab (i:Int)) (fZ (dt ab (aL ab (i:Int))) (valOf ab b0.ad) n).1 (fZ (dt ab (aL ab (i:Int))) (valOf ab b0.ad) n).2=some s'→Good ab b0.ad s→s.e=0→Bi ab H s.FC s.b→Wy ab b0 s→i<ab.length→n≤dU ab i→s.on (aL ab (i:Int))=true→ZY ab s i→
 cJ s.b.ak b0.ae (aL ab (i:Int))=false→aJ s.b (aL ab (i:Int))=false→Nn (valOf ab b0.ad) b0 (aL ab (i:Int))→(∀a∈(fZ (dt ab (aL ab (i:Int))) (valOf ab b0.ad) n).1,fB s a=true)→
 Rs ab H b0 (fun y=>s.on y=false∨y=aL ab (i:Int)) s s'
theorem Bi.lF{s t:ES}(h:Bi ab H s.FC t.b) (hk:j5 s t):Bi ab H t.FC t.b:=h.T5 fun k Nd=>by grind [ES.FC,j5.on]
theorem ZY.lF{s t:ES}{i:Nat}(h:ZY ab s i) (hk:j5 s t):ZY ab t i:=fun j hj KP=>h j hj (by rw [← hk.on];exact KP)
theorem Rs.mono{N N':Key→Prop}{s s':ES}(h:Rs ab H b0 N s s') (hN:∀y,N y→N' y):Rs ab H b0 N' s s':=⟨h.e,h.bi,h.ev.mono (fun _ h=>h) hN,h.wy⟩
theorem wY(rev:Int) (G:List Key) (r:Rec):(cL rev G false r).bS=r.bS:=by
 unfold cL
 grind
theorem DS(hR:aw ab):∀f,UpR ab H b0 f∧ChR ab H b0 f∧RuR ab H b0 f:=by
 have rS:=hR.len;intro f
 induction f with
 | zero=>exact⟨fun s k s' h=>by simp [mb] at h,fun s i n s' c h=>by simp [dF] at h,fun s i n s' h=>by simp [gW] at h⟩
 | succ f ih=>
  obtain⟨LW,Fz,H6⟩:=ih;have gd:=df (val:=valOf ab b0.ad) (aF:=b0.ad) hR f;have kp:=jY (val:=valOf ab b0.ad) (aF:=b0.ad) hR f;have rn:=zF (ab:=ab) (val:=valOf ab b0.ad) f;refine⟨?_,?_,?_⟩
  ·
   intro s k s' h hg he hB hW hk IL
   unfold mb at h
   split at h
   ·
    cases h;exact .refl he hB hW
   rename_i QG
   have qt:az k=false:=by simp at QG;exact QG.2
   split at h
   ·
    cases h;exact .refl he hB hW
   rename_i hu
   obtain⟨i,hi,rfl,_⟩:=hk.jE qt
   split at h
   ·
    rename_i ho
    split at h
    ·
     cases h;exact .refl he hB hW
    rename_i hc
    have h1:=IL i hi rfl i hi ho
    grind [bZ,Lw,qy]
   rename_i ho
   have H2:s.on (aL ab (i:Int))=false:=by simpa using ho
   obtain⟨⟨s2,c2⟩,hp,h⟩:=Option.bind_eq_some_iff.1 h;obtain⟨s3,ht,h⟩:=Option.bind_eq_some_iff.1 h;simp only [Option.some.injEq] at h;subst h;have Wc:∀y,ES.on {s with busy:=dC s.busy (aL ab (i:Int)) (.bool true)} y=(decide (aL ab (i:Int)=y) || s.on y):=fun y=>qw s _ y;have pW:=hg.on (aL ab (i:Int))
   generalize nj:({s with busy:=dC s.busy (aL ab (i:Int)) (.bool true)}:ES)=s1 at hp Wc pW
   have e1:s1.b=s.b:=by rw [← nj]
   have e2:s1.cP=s.cP:=by rw [← nj]
   have e3:s1.e=0:=by rw [← nj];exact he
   have abE:s1.on (aL ab (i:Int))=true:=by rw [Wc];simp
   have hB1:Bi ab H s1.FC s1.b:=by
    rw [e1];refine hB.T5 fun y hy=>?_
    unfold ES.FC at hy ⊢
    grind
   have hW1:Wy ab b0 s1:=⟨by rw [e1];exact hW.rev,by rw [e1];exact hW.aF,by rw [e1,e2];exact hW.ev,by rw [e1];exact hW.QS,by rw [e2];exact hW.cP,by rw [e1,e2];exact hW.T6,by rw [e1,e2];exact hW.mrk,by rw [e2];exact hW.mE⟩
   have jr:ZY ab s1 i:=fun j hj KP=>by
    rw [Wc] at KP;simp only [Bool.or_eq_true,decide_eq_true_eq] at KP
    rcases KP with KP | KP
    ·
     exact .inl (fo hR hj hi KP.symm)
    exact .inr (IL i hi rfl j hj KP)
   obtain⟨c1,c3⟩:=Fz s1 i 0 s2 c2 hp pW e3 hB1 hW1 hi abE jr fun _ j c hj=>by omega
   obtain⟨k1,k2,_⟩:=kp.2.1 _ _ _ _ _ hp pW;have FB:=(gd.2.1 _ _ _ _ _ hp pW).1
   have key:Rs ab H b0 (fun y=>s1.on y=false∨y=aL ab (i:Int)) s1 s3∧aJ s3.b (aL ab (i:Int))=true:=by
    cases c2 with
    | false=>
     simp only [Bool.false_eq_true,if_false,Option.some.injEq] at ht;subst ht;exact⟨c1,(k2 c1.e).2 rfl⟩
    | true=>
     simp only [if_true] at ht;obtain⟨d1,d2,d3⟩:=c3 rfl
     have r2:=H6 s2 i 0 s3 ht FB c1.e (c1.bi.lF k1) c1.wy hi (Nat.zero_le _) (by rw [k1.on];exact abE) (jr.lF k1) d1 d2 d3 fun a ha=>by simp [fZ] at ha
     refine⟨c1.trans (r2.mono fun y hy=>by rw [← k1.on];exact hy) (rn.2.2 _ _ _ _ _ ht) k1.on,?_⟩;exact((kp.2.2 _ _ _ _ _ ht FB (hk.jE qt)).2.1 r2.e).2
   obtain⟨r3,hu3⟩:=key;refine⟨r3.e,?_,?_,⟨r3.wy.rev,r3.wy.aF,r3.wy.ev,r3.wy.QS,r3.wy.cP,r3.wy.T6,r3.wy.mrk,r3.wy.mE⟩⟩
   ·
    refine r3.bi.off hu3 fun y hy=>?_
    unfold ES.FC at hy ⊢
    grind
   have:=r3.ev
   rw [e1] at this;refine this.mono (fun _ h=>h) fun y hy=>?_
   grind
  ·
   intro s i n s' c h hg he hB hW hi eV RU Np;have qt:az (aL ab (i:Int))=false:=eh hi (by omega)
   unfold dF at h
   rw [if_neg (by simp [he])] at h
   split at h
   ·
    rename_i hc
    simp only [Option.some.injEq,Prod.mk.injEq] at h;obtain⟨rfl,rfl⟩:=h;refine⟨.refl he hB hW,fun _=>?_⟩
    cases hf:aB s.b.ak (aL ab (i:Int)) with
    | none=>
     refine⟨?_,zD hf,qt,hW.zC (zD hf),.inl (hW.none hf)⟩;rw [Bool.eq_false_iff]
     grind [cD]
    | some r=>
     rw [hf,bD hf] at hc
     have hd:r.bS=true:=by simpa using hc
     have hv:=hB.dv r (aT hf).1 hd;refine⟨?_,mB hf hv,qt,hW.zC (mB hf hv),.inr (hW.QS _ r hf hd)⟩;rw [Bool.eq_false_iff]
     grind [cD]
   rename_i hc
   split at h
   ·
    simp only [Option.some.injEq,Prod.mk.injEq] at h;obtain⟨rfl,rfl⟩:=h;exact⟨.refl he hB hW,fun e=>by cases e⟩
   rename_i hv
   have hl:Live s.b.ak s.b.ae (aL ab (i:Int)):=by
    cases hf:aB s.b.ak (aL ab (i:Int)) with
    | none=>rw [hf] at hc;simp at hc
    | some r=>
     rw [hf,bD hf] at hc;rw [bD hf] at hv;have h1:=(hB.c.KJ r (aT hf).1).1;exact⟨r,hf,by simpa using hc,by omega⟩
   have Np:=Np hl
   have abF:aJ s.b (aL ab (i:Int))=false:=by
    obtain⟨r,h1,_,h2⟩:=hl;exact mB h1 h2
   split at h
   ·
    rename_i hn
    simp only [Option.some.injEq,Prod.mk.injEq] at h;obtain⟨rfl,rfl⟩:=h
    have hp:∀m∈aC s.b.ak s.b.ae (aL ab (i:Int)),∀a∈(aH s.b.ak m).reads,a∉aC s.b.ak s.b.ae (aL ab (i:Int))→valOf ab (H (aH s.b.ak m).ax) a=valOf ab s.b.ad a∧(az a=true∨(s.FC a=true∧aA a=true)∨aJ s.b a=true):=fun m hm a ha Bu=>by
     have kH:(⟨m,a⟩:sg)∈bW s.b.ak (aC s.b.ak s.b.ae (aL ab (i:Int))):=eF.2 ⟨hm,ha,Bu⟩;obtain⟨j,hj⟩:=List.mem_iff_getElem?.1 kH;have h1:=(List.getElem?_eq_some_iff.1 hj).1;have h2:=List.getElem?_eq_none_iff.1 hn;have h3:=Np j ⟨m,a⟩ (by omega) hj;rw [hW.aF];exact⟨h3.1,h3.2.1.imp id (Or.imp (fun p=>⟨IZ p,p.2⟩) id)⟩
    have wF:=hW.T7 hl fun m hm a ha Bu=>by
     have kH:(⟨m,a⟩:sg)∈bW s.b.ak (aC s.b.ak s.b.ae (aL ab (i:Int))):=eF.2 ⟨hm,ha,Bu⟩;obtain⟨j,hj⟩:=List.mem_iff_getElem?.1 kH;have h1:=(List.getElem?_eq_some_iff.1 hj).1;have h2:=List.getElem?_eq_none_iff.1 hn;exact(Np j ⟨m,a⟩ (by omega) hj).2.2
    have dL:∀N:Key→Prop,N (aL ab (i:Int))→kD (valOf ab b0.ad) N s.cP b0.ae s.b.ak (dQ s.b (aC s.b.ak s.b.ae (aL ab (i:Int))) false).ak:=fun N hN=>by
     rw [← hW.rev];exact kD.mark hl false (.inr hN)
    refine⟨⟨he,hB.mark hR hl hp,dL _ (.inr rfl),hW.step rfl rfl (dL _ trivial) (fun _ h=>h) (fun y r' hf hd=>?_) hW.cP (fun _ h=>.inl h) (fun y hu I0=>.inr (wF y (KN hu I0))) hW.mE⟩,fun e=>by cases e⟩;have DT:(aB s.b.ak y).map (cL s.b.ae (aC s.b.ak s.b.ae (aL ab (i:Int))) false)=some r':=eS.symm.trans hf;obtain⟨r,hr,rfl⟩:=Option.map_eq_some_iff.1 DT;rw [wY] at hd;exact hW.QS y r hr hd
   rename_i c0 Nq
   obtain⟨hm,ha,Bu⟩:=eF.1 (List.mem_of_getElem? Nq);obtain⟨j,hj,ej⟩:=hB.key (mj hl hm);obtain⟨rm,g1,g2,g3⟩:=mj hl hm;have pI:gG ab c0.read:=iE hg Nq
   split at h
   ·
    obtain⟨t,ht,h⟩:=Option.bind_eq_some_iff.1 h
    have Bv:=vL hR (aF:=H rm.ax) hj (a:=c0.read) (by
     have h1:=(hB.c.vr rm (aT g1).1).2;rw [(aT g1).2,ej,jM hR hj] at h1
     grind [bD])
    have r1:=LW s c0.read t ht hg he hB hW pI fun q hq eq p hp hpo=>by
     obtain⟨h4,h5⟩:=Bv.2 q hq eq;obtain⟨g4,g5⟩:=KO hR hB hi hj hl (ej ▸ hm)
     rcases RU p hp hpo with rfl | h6
     ·
      rw [← g4];exact h4
     exact h5 _ (g5 _ h6)
    obtain⟨k1,_,_⟩:=kp.1 _ _ _ ht hg pI;have gt:=(gd.1 _ _ _ ht hg pI).1;have e1:t.b.ae=s.b.ae:=r1.wy.rev.trans hW.rev.symm
    have dL:kD (valOf ab b0.ad) (fun y=>s.on y=false) t.cP s.b.ae s.b.ak t.b.ak:=by
     rw [hW.rev];exact r1.ev
    obtain⟨r2,r3⟩:=Fz t i n s' c h gt r1.e (r1.bi.lF k1) r1.wy hi (by rw [k1.on];exact eV) (RU.lF k1) fun dZ j' c' hjn OE=>by
     rw [e1] at dZ OE;rw [dL.OC dZ] at OE;obtain⟨p1,p2,p3⟩:=Np j' c' hjn OE;have QM:=(eF.1 (List.mem_of_getElem? OE)).1
     have e3:aH t.b.ak c'.eY=aH s.b.ak c'.eY:=by
      unfold aH
      rw [(dL.group dZ).2 _ QM]
     rw [e3];refine⟨p1,?_,p3⟩
     rcases p2 with p | p | p
     ·
      exact .inl p
     ·
      grind [j5.on]
     exact .inr (.inr (k1.up _ p))
    exact⟨(r1.mono fun y hy=>.inl hy).trans (r2.mono fun y hy=>by rw [← k1.on];exact hy) (rn.2.1 _ _ _ _ _ h) k1.on,r3⟩
   rename_i Kh
   have Wd:=uy (s:=s) (k:=c0.read) (by simpa using Kh)
   split at h
   ·
    rename_i dZ
    have OG:=hW.Wb hB hl hm ha Bu dZ;have I1:Nn (valOf ab b0.ad) b0 (aL ab (i:Int)):=⟨qt,hW.zC abF,.inr (.inr (OG _ lJ))⟩;simp only [Option.some.injEq,Prod.mk.injEq] at h;obtain⟨h,rfl⟩:=h
    cases tk:aA (aL ab (i:Int)) with
    | false=>
     rw [tk] at h;simp only [Bool.false_eq_true,if_false] at h;subst h;refine⟨.refl he hB hW,fun _=>⟨?_,abF,I1⟩⟩;rw [Bool.eq_false_iff]
     grind [cD]
    | true=>
     rw [tk] at h;simp only [if_true] at h;subst h
     have dL:∀N:Key→Prop,kD (valOf ab b0.ad) N s.cP b0.ae s.b.ak (dQ s.b (aC s.b.ak s.b.ae (aL ab (i:Int))) true).ak:=fun N=>by
      rw [← hW.rev];exact kD.mark hl true (.inl tk)
     obtain⟨r,f1,f2,f3⟩:=hl
     have hfk:aB (dQ s.b (aC s.b.ak s.b.ae (aL ab (i:Int))) true).ak (aL ab (i:Int))=some {r with bS:=true}:=by
      refine eS.trans ?_;rw [f1]
      show some (cL _ _ _ r)=_
      unfold cL
      rw [if_pos (by rw [(aT f1).2];exact lJ)]
      rfl
     refine⟨⟨he,hB.bS fun m hm=>mj ⟨r,f1,f2,f3⟩ hm,dL _,hW.step rfl rfl (dL _) (fun _ h=>h) (fun y r' hf hd=>?_) hW.cP (fun _ h=>.inl h) (fun y hu I0=>by grind [GJ]) hW.mE⟩,fun _=>⟨?_,mB hfk f3,I1⟩⟩
     ·
      have DT:(aB s.b.ak y).map (cL s.b.ae (aC s.b.ak s.b.ae (aL ab (i:Int))) true)=some r':=eS.symm.trans hf;obtain⟨q,hq,rfl⟩:=Option.map_eq_some_iff.1 DT
      by_cases hy:y∈aC s.b.ak s.b.ae (aL ab (i:Int))
      ·
       exact .inr (OG y hy)
      unfold cL at hd
      rw [if_neg (by rw [(aT hq).2];exact hy)] at hd;exact hW.QS y q hq hd
     rw [Bool.eq_false_iff]
     grind [cD]
   rename_i hle
   refine Fz s i (n+1) s' c h hg he hB hW hi eV RU fun _ j' c' hjn OE=>?_
   rcases Nat.lt_or_ge j' n with dZ | qi
   ·
    exact Np j' c' dZ OE
   have:j'=n:=by omega
   subst this;rw [Nq] at OE
   have:=Option.some.inj OE
   subst this;refine⟨?_,Wd,by rw [← hW.changed hB c0.read];exact Int.not_lt.1 hle⟩;rw [bD g1] at hle ha ⊢;have h1:=hB.c.changed (aT g1).1 g3 ha (by rw [hW.aF];omega)
   grind [Wy.aF]
  intro s i n s' h hg he hB hW hi hn eV RU hop mA I1 Kh
  have lB:i≤99:=by omega
  unfold gW at h
  rw [if_neg (by simp [he]),gP hi lB] at h
  rcases Nat.lt_or_ge n (dU ab i) with dZ | qi
  ·
   obtain⟨a,h1,h2,h3⟩:=KD hR hi (ah:=(fZ (dt ab (aL ab (i:Int))) (valOf ab b0.ad) n).2) (by grind [iD]);rw [h1] at h;simp only [Bool.false_eq_true,if_false] at h;obtain⟨t,ht,h⟩:=Option.bind_eq_some_iff.1 h;have pI:=h2.QL hR
   have r1:=LW s a t ht hg he hB hW pI fun m hm VZ j hj KP=>by
    obtain⟨h4,h5⟩:=h3 m hm VZ
    rcases RU j hj KP with rfl | h6
    ·
     exact h4
    exact h5 _ h6
   obtain⟨k1,k2,_⟩:=kp.1 _ _ _ ht hg pI;have gt:=(gd.1 _ _ _ ht hg pI).1
   have Nr:fB t a=true:=by grind [Rs.e,OD]
   have We:dz (valOf ab b0.ad) t.b a=valOf ab b0.ad a:=by
    rw [← r1.wy.aF];refine r1.bi.answer pI ?_
    rcases uy Nr with h4 | h4 | h4
    ·
     exact .inl h4
    ·
     exact .inr (.inl h4.2)
    exact .inr (.inr h4)
   rw [if_pos r1.e,We] at h
   have sn:aB t.b.ak (aL ab (i:Int))=aB s.b.ak (aL ab (i:Int)):=by
    rcases r1.ev.pt (aL ab (i:Int)) with e | ⟨e0,r,e1,e2,e3,_⟩ | ⟨⟨_,e0⟩,_⟩
    ·
     exact e
    ·
     grind [cD]
    grind
   have r2:=H6 t i (n+1) s' (by grind [fZ]) gt r1.e (r1.bi.lF k1) r1.wy hi dZ (by rw [k1.on];exact eV) (RU.lF k1) (by grind [cJ,aH]) (by
    rw [← mA]
    unfold aJ aH
    rw [sn,r1.wy.rev,hW.rev]) I1 (fun x hx=>by
    simp only [fZ] at hx;rw [h1] at hx
    rcases List.mem_append.1 hx with hx | hx
    ·
     exact k1.there (Kh x hx)
    grind)
   exact(r1.mono fun y hy=>.inl hy).trans (r2.mono fun y hy=>by rw [← k1.on];exact hy) (rn.2.2 _ _ _ _ _ h) k1.on
  have kV:n=dU ab i:=by omega
  subst kV;rw [jd hR hi] at h;simp only [if_true] at h;rw [if_neg (by have:=hB.len;simp;omega)] at h;simp only [Option.some.injEq] at h;subst h;have abG:∀a∈dX ab b0.ad i,az a=true∨(s.on a=true∧aA a=true)∨aJ s.b a=true:=fun a ha=>uy (Kh a ha);have Bw:=hB.put hR hi (fun hc=>IZ ⟨eV,hc⟩) (by rw [hW.aF];exact fun a ha=>(abG a ha).imp id (Or.imp (fun p=>⟨IZ p,p.2⟩) id));rw [hW.aF] at Bw
  have dL:∀N:Key→Prop,N (aL ab (i:Int))→kD (valOf ab b0.ad) N (s.cP++[aL ab (i:Int)]) b0.ae s.b.ak (fP s.b.ak (dI s.b (aL ab (i:Int)) (valOf ab b0.ad (aL ab (i:Int))) (dX ab b0.ad i))):=fun N hN=>by
   refine kD.put hop (fun r hr=>?_) ⟨by simp [dI],hN⟩ hW.rev rfl rfl (fun r hr=>?_) fun hn=>?_
   ·
    have h1:=(hB.c.KJ r (aT hr).1).1
    have h2:r.ax≠s.b.ae:=fun e=>by
     have:aJ s.b (aL ab (i:Int))=true:=cB.2 ⟨r,hr,e⟩
     grind
    have:=hW.rev
    omega
   ·
    have jg:aB s.b.ak (aL ab (i:Int))=some r:=hr
    unfold dI
    simp only [jg,bD jg,hW.rev]
    grind
   grind [dI,Wy.rev]
  refine⟨he,by show Bi ab H s.FC ⟨s.b.ae,s.b.ad,_⟩;rw [hW.aF];exact Bw,dL _ (.inr rfl),hW.step rfl rfl (dL _ trivial) (fun y hy=>by simp [hy]) (fun y r hf hd=>?_) (fun y hy=>?_) (fun y hy=>?_) (fun y hu I0=>?_) (CO hW.mE fun hr=>by have:=hW.T6 _ hr;rw [mA] at this;cases this)⟩
  ·
   have DT:aB (fP s.b.ak (dI s.b (aL ab (i:Int)) (valOf ab b0.ad (aL ab (i:Int))) (dX ab b0.ad i))) y=some r:=hf;rw [gi] at DT
   split at DT
   ·
    have:=Option.some.inj DT
    subst this
    cases hd
   exact hW.QS y r DT hd
  ·
   rcases List.mem_append.1 hy with hy | hy
   ·
    exact hW.cP y hy
   grind
  ·
   rcases List.mem_append.1 hy with hy | hy
   ·
    exact .inl hy
   rw [List.mem_singleton] at hy;rw [hy];exact .inr (tg (r:=dI s.b (aL ab (i:Int)) (valOf ab b0.ad (aL ab (i:Int))) (dX ab b0.ad i)) rfl)
  refine .inl ?_
  by_cases e:y=aL ab (i:Int)
  ·
   rw [e]
   simp
  obtain⟨r,hr,hv⟩:=cB.1 I0;have jg:aB (fP s.b.ak (dI s.b (aL ab (i:Int)) (valOf ab b0.ad (aL ab (i:Int))) (dX ab b0.ad i))) y=some r:=hr;rw [gi,if_neg (show ¬y=(dI s.b (aL ab (i:Int)) (valOf ab b0.ad (aL ab (i:Int))) (dX ab b0.ad i)).key from e)] at jg
  grind [cB]
theorem KQ{val:Key→ByteArray}{f:Nat}:∀{l:List Key}{s s':ES},eD ab val f s l=some s'→∀y∈s.cP,y∈s'.cP
 | [],s,s',h,y,hy=>by grind [eD]
 | k::r,s,s',h,y,hy=>by
  simp only [eD] at h;obtain⟨t,h1,h2⟩:=Option.bind_eq_some_iff.1 h;exact KQ h2 y ((zF f).1 _ _ _ h1 y hy)
theorem CP(hR:aw ab) {f:Nat}:∀{l:List Key}{s s':ES},eD ab (valOf ab b0.ad) f s l=some s'→Good ab b0.ad s→s.e=0→Bi ab H s.FC s.b→Wy ab b0 s→(∀k∈l,gG ab k)→(∀k,s.on k=false)→Rs ab H b0 (fun _=>True) s s'∧(∀k,s'.on k=false)∧(∀k,aJ s.b k=true→aJ s'.b k=true)∧∀k∈l,az k=false→aJ s'.b k=true
 | [],s,s',h,hg,he,hB,hW,_,ho=>by
  simp only [eD,Option.some.injEq] at h;subst h;exact⟨.refl he hB hW,ho,fun _ h=>h,fun k hk=>by cases hk⟩
 | k::r,s,s',h,hg,he,hB,hW,hk,ho=>by
  simp only [eD] at h;obtain⟨t,h1,h2⟩:=Option.bind_eq_some_iff.1 h;have sk:=hk k (by simp);have H7:=((df (val:=valOf ab b0.ad) hR f).1 _ _ _ h1 hg sk).1;obtain⟨kp,kt,_⟩:=(jY (val:=valOf ab b0.ad) hR f).1 _ _ _ h1 hg sk
  have r1:=(DS (H:=H) (b0:=b0) hR f).1 s k t h1 hg he hB hW sk fun i _ _ j _ KP=>by rw [ho] at KP;cases KP
  obtain⟨r2,o2,u2,g2⟩:=CP hR h2 H7 r1.e (r1.bi.lF kp) r1.wy (fun k Nd=>hk k (by simp [Nd])) fun k=>by rw [kp.on];exact ho k
  have pX:=KQ h2;refine⟨(r1.mono fun _ _=>trivial).trans r2 pX kp.on,o2,fun y hy=>u2 y (kp.up y hy),fun q hq RV=>?_⟩
  rcases List.mem_cons.1 hq with rfl | hq
  ·
   refine u2 _ ?_
   rcases(kt r1.e).2 with h4 | h4
   ·
    rw [RV] at h4
    cases h4
   rcases uy h4 with h5 | h5 | h5
   ·
    rw [RV] at h5
    cases h5
   ·
    rw [kp.on,ho] at h5
    cases h5.1
   exact h5
  exact g2 q hq RV
end
end Go.Rc

namespace Go.Rc
open Go
def Bh(ab:List aG) (b:dP):Prop:=∃H:Int→List dy,Bi ab H (fun _=>false) b
section
variable {ab:List aG}{H:Int→List dy}{on:Key→Bool}{x y b:dP}{k:Key}
theorem Bh.new(ab:List aG) (rev:Int) (aF:List dy):Bh ab ⟨rev,aF,[]⟩:=
 ⟨fun _=>aF,⟨⟨rfl,fun _ _ _ _ _=>rfl,fun r hr=>(by cases hr),fun r hr=>(by cases hr),fun r hr=>(by cases hr),fun r hr=>(by cases hr)⟩,List.Pairwise.nil,fun r hr=>(by cases hr),fun r hr=>(by cases hr)⟩⟩
theorem Bi.drop(h:Bi ab H on b) {rs:List Rec}(hs:rs.Sublist b.ak) (ho:∀r∈rs,on r.key=false):Bi ab H (fun _=>false) {b with ak:=rs}:=by
 have ahG:vF rs:=h.st.sublist hs
 have hf:∀a ra,aB rs a=some ra→aB b.ak a=some ra:=fun a ra kl=>by
  obtain⟨h1,h2⟩:=aT kl
  grind [lK,st]
 refine⟨⟨h.c.now,h.c.ij,fun r hr=>h.c.KJ r (hs.subset hr),fun r hr=>h.c.vr r (hs.subset hr),fun r hr a ha hi ra kl=>?_,fun r hr hc a ha hi ra kl=>?_⟩,ahG,fun r hr=>h.kr r (hs.subset hr),fun r hr=>h.dv r (hs.subset hr)⟩
 ·
  rcases h.c.rr r (hs.subset hr) a ha hi ra (hf a ra kl) with⟨_,h1⟩ | h1
  ·
   obtain⟨h2,h3⟩:=aT kl
   grind
  exact .inr h1
 rcases h.c.rs r (hs.subset hr) hc a ha hi ra (hf a ra kl) with⟨_,h1⟩ | h1
 ·
  obtain⟨h2,h3⟩:=aT kl
  grind
 exact .inr h1
theorem Bh.drop(h:Bh ab b) {rs:List Rec}(hs:rs.Sublist b.ak):Bh ab {b with ak:=rs}:=by
 obtain⟨H,h⟩:=h;exact⟨H,h.drop hs fun _ _=>rfl⟩
theorem Bh.apply(h:Bh ab x) (hr:y.ak=x.ak) (hv:y.ae=x.ae+1) (hk:∀k,cZ y.ad k=cZ x.ad k∨(cZ y.ad k).changed=y.ae):Bh ab y:=by
 obtain⟨H,h⟩:=h;have hH:∀t,t≤x.ae→(if t≤x.ae then H t else y.ad)=H t:=fun t ht=>if_pos ht;refine⟨fun t=>if t≤x.ae then H t else y.ad,⟨⟨?_,fun k t hi h1 h2=>?_,fun r jg=>?_,fun r jg=>?_,fun r jg a ha hi ra kl=>?_,fun r jg hc a ha hi ra kl=>?_⟩,by rw [hr];exact h.st,by rw [hr];exact h.kr,fun r jg hd=>?_⟩⟩
 ·
  grind
 ·
  by_cases ht:t≤x.ae
  ·
   show cellOf (if t≤x.ae then H t else y.ad) k=_
   rw [if_pos ht]
   rcases hk k with e | e
   ·
    rw [e] at h1;rw [h.c.ij k t hi h1 ht]
    unfold cellOf
    rw [e]
   omega
  grind
 ·
  rw [hr] at jg
  have:=h.c.KJ r jg
  omega
 ·
  rw [hr] at jg;have h1:=h.c.KJ r jg;rw [hH _ h1.1];exact h.c.vr r jg
 ·
  rw [hr] at jg kl;have h1:=h.c.KJ r jg;rw [hH _ h1.1]
  rcases h.c.rr r jg a ha hi ra kl with⟨_,h2⟩ | h2
  ·
   cases h2
  exact .inr h2
 ·
  rw [hr] at jg kl
  rcases h.c.rs r jg hc a ha hi ra kl with⟨_,h2⟩ | h2
  ·
   cases h2
  exact .inr h2
 rw [hr] at jg
 have:=h.dv r jg hd
 omega
theorem Wy.start(b:dP):Wy ab b ⟨b,[],[],0⟩:=⟨rfl,rfl,.refl _,fun y r hf hd=>.inl (by rw [bD hf];exact hd),fun y hy=>(by cases hy),fun y hy=>(by cases hy),fun y h1 h2=>(by rw [h1] at h2;cases h2),List.nodup_nil⟩
theorem Bh.request(hR:aw ab) (h:Bh ab b) {f:Nat}{l:List Key}{s':ES}(hg:Good ab b.ad ⟨b,[],[],0⟩) (hk:∀k∈l,gG ab k) (hs:eD ab (valOf ab b.ad) f ⟨b,[],[],0⟩ l=some s') :
  s'.e=0∧Bh ab s'.b∧Wy ab b s'∧(∀k,aJ b k=true→aJ s'.b k=true)∧(∀k∈l,az k=false→aJ s'.b k=true)∧∀r∈s'.b.ak,r.ax=s'.b.ae→r.value=valOf ab b.ad r.key:=by
 obtain⟨H,h⟩:=h;have hW:Wy ab b ⟨b,[],[],0⟩:=Wy.start b
 obtain⟨h1,h2,h3,h4⟩:=CP (H:=H) (b0:=b) hR hs hg rfl (h.T5 fun k hk=>by cases hk) hW hk fun k=>rfl
 have hB:Bi ab H (fun _=>false) s'.b:=h1.bi.T5 fun k hk=>by grind [ES.FC,ES.on,bX]
 refine⟨h1.e,⟨H,hB⟩,h1.wy,h3,h4,fun r hr hv=>?_⟩;rw [(hB.c.vr r hr).1,hv,hB.c.now,h1.wy.aF]
end
end Go.Rc

