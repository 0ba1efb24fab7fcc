/- Base of the proof: frames, memory, ownership, and the plain meaning of rule systems. Conditions: as each lemma says. -/
import Derived.Test.YtjpagoacbadijaaGreatDoorNBf
import Derived.Test.YtjpagoacbadijaaGreatDoorNBd
set_option linter.all false
namespace Go.Rc
open Go
theorem St.zI{w w':World}{Z:Nat→Prop}{l:List As}{A B:As}(h:St w (rO [B]) Z w' (B::A::l)):∀x,A.fp x→w.heap.size≤x:=fun x hx=>by
 rcases h.qh A (by simp) x hx with⟨C,hC,hc⟩ | h1
 ·
  rw [List.mem_singleton] at hC;subst hC;exact absurd hx ((List.pairwise_cons.1 h.vD).1 A (by simp) x hc)
 exact h1
theorem o8.QR{ab:List aG}{k:Key}(hR:aw ab) (h:o8 ab k):gA ab k:=by
 have rT:=hR.len
 rcases h with⟨n,h0,h3,rfl⟩ | ⟨i,hi,rfl⟩
 ·
  obtain⟨m,rfl⟩:∃m:Nat,n=m:=⟨n.toNat,by omega⟩;exact .cell (by omega)
 exact .gQ hi (by omega)
theorem o8.right{ab:List aG}{k:Key}(hR:aw ab) (h:o8 ab k):jt ab k=true:=by
 have hk:=h.QR hR
 rcases h with⟨n,h0,h3,rfl⟩ | ⟨i,hi,rfl⟩
 ·
  unfold jt
  rw [gA.valid hk]
  unfold du
  rw [if_neg (by omega)]
  simp
 exact L7 hR hi
structure LB (ab:List aG) (x:dQ):Prop where
 ok:BK ab x.ae x.ad x
 aF:lK x.ad x.ae
section
variable {ab:List aG}{x:dQ}
theorem LB.apply(h:LB ab x) {y:dQ}(hr:y.ak=x.ak) (h0:x.ad≤y.ad) (h1:y.ad≤1073741824) (hG:lK y.ad y.ae) (h6:y.ae.length≤64):LB ab y:=by
 have hg:=h.ok.ke;have ho:=h.ok.zF;have h00:0≤y.ad:=Int.le_trans ho.r0 h0;have hb:=hG.lJ h00 h1 h6;exact⟨⟨⟨rfl,by show y.ak.length≤_;rw [hr];exact hg.len,by grind [Good.key],by grind [Good.Ic],.nil,fun k=>.inl rfl⟩,⟨by show vK y.ak;rw [hr];exact ho.st,by show ∀r∈y.ak,_;rw [hr];exact fun r hm=>⟨(ho.v r hm).1,Int.le_trans (ho.v r hm).2 h0⟩,h00,h1⟩,rfl,hb.1,h6⟩,hG⟩
theorem LB.sub(h:LB ab x) {rs:List Rec}(hs:rs.Sublist x.ak):LB ab ⟨x.ad,x.ae,rs⟩:=⟨h.ok.sub hs,h.aF⟩
theorem LB.of(h:LB ab x) {b:dQ}(hb:BK ab x.ae x.ad b):LB ab b:=by
 have h1:b.ae=x.ae:=hb.ke.aF;have h2:b.ad=x.ad:=hb.rv;refine⟨?_,?_⟩
 ·
  rw [h1,h2];exact hb
 rw [h1,h2];exact h.aF
theorem LB.task(h:LB ab x) {b:dQ}(hb:BK ab x.ae x.ad b) {rs:List Rec}(hs:rs.Sublist b.ak):LB ab ⟨b.ad,b.ae,rs⟩:=(h.of hb).sub hs
theorem LB.req(hR:aw ab) (h:LB ab x) {goals:List Key}(hg:∀k∈goals,o8 ab k) (Wn:goals.length≤32):∃(f:Nat) (s':ES),ia ab x goals=0∧Good ab x.ae ⟨x,[],[],0⟩∧(∀k∈goals,gA ab k)∧eD ab (valOf ab x.ae) f ⟨x,[],[],0⟩ goals=some s'∧s'.cU.length≤1000000∧LB ab (s'.base x)∧(s'.base x).ad=x.ad:=by
 have rT:=hR.len;have tr:=h.ok.ke;have hk:∀k∈goals,gA ab k:=fun k hm=>(hg k hm).QR hR;obtain⟨f,s',hu⟩:=zC (val:=valOf ab x.ae) hR goals ⟨x,[],[],0⟩ tr hk;have h1:=tn hR hu tr hk;have h2:=GF hR hu tr h.ok.zF hk;have qa:=CS hR hu tr hk;have hop:iE ab ⟨x,[],[],0⟩≤ab.length:=Ui _ _;refine⟨f,s',?_,tr,hk,hu,?_,?_,?_⟩
 ·
  unfold ia
  rw [if_neg (fun h=>h hR),if_neg (fun hn=>hn h.ok.lJ),if_neg (by omega),if_pos (List.all_eq_true.2 fun k hm=>(hg k hm).right hR)]
 ·
  grind
 ·
  unfold ES.base
  split
  ·
   refine h.of ⟨⟨h1.1.aF,h1.1.len,h1.1.key,h1.1.Ic,.nil,fun k=>.inl rfl⟩,⟨h2.st,h2.v,h2.r0,h2.r1⟩,h1.2.rev,h.ok.CW,h.ok.zG⟩
  exact h
 unfold ES.base
 split
 ·
  exact h1.2.rev
 rfl
theorem LB.start(h:LB ab x) {goals:List Key}(hk:∀k∈goals,gA ab k) (Wn:goals.length≤32):TR ab x.ae x.ad 0 ⟨ab,x,goals,[],[]⟩:=
 ⟨⟨rfl,h.ok,hk,fun f hf=>(by cases hf),fun k hk=>(by cases hk)⟩,Nat.le_refl _,Nat.le_refl _,Wn⟩
theorem LB.nil{ab:List aG}(y:dQ) (hr:y.ak=[]) (h0:0≤y.ad) (h1:y.ad≤1073741824) (hG:lK y.ad y.ae) (h6:y.ae.length≤64):LB ab y:=by
 have hb:=hG.lJ h0 h1 h6;exact⟨⟨⟨rfl,by grind,by grind,by grind,.nil,fun k=>.inl rfl⟩,⟨by show vK y.ak;rw [hr];exact .nil,by grind,h0,h1⟩,rfl,hb.1,h6⟩,hG⟩
end
end Go.Rc

namespace Go.Rc
open Go
def Wo(l:List Key):Prop:=l.Pairwise fun a b=>cw a b<0
theorem RY{l l':List Key}(hp:l'.Perm l) (hn:l.Nodup) (hs:l'.Pairwise fun a b=>¬cw b a<0):Wo l':=by
 have hn':l'.Pairwise fun a b=>a≠b:=hp.nodup_iff.2 hn
 refine(hs.and hn').imp fun {a b} h=>?_
 grind [lj,ph]
section
variable {ab:List aG}{aF:List dB}{k:Key}
theorem qE{l:List Key}{q:Nat}{y z:Key}(hy:l[q]?=some y) (hz:z∈l.take (q+1)):z∈l.take q∨z=y:=by grind [List.take_succ_eq_append_getElem]
def oJ(l:List Key):List (Key × Value):=l.map fun x=>(x,.bool true)
theorem GM(l:List Key) (y:Key):(bZ (oJ l) y).getD (.bool false)=.bool (decide (y∈l)):=by
 unfold oJ
 induction l with
 | nil=>simp [bZ]
 | cons x r ih=>
  simp only [List.map_cons,bZ]
  grind
theorem GN(l:List Key) {y:Key}(h:y∉l):dF (oJ l) y (.bool true)=oJ (l++[y]):=by
 unfold oJ
 induction l with
 | nil=>rfl
 | cons x r ih=>
  rw [List.mem_cons,not_or] at h;simp only [List.map_cons,List.cons_append,dF];rw [if_neg (Ne.symm h.1),ih h.2]
end
end Go.Rc

namespace Go.Rc
open Go
structure LR {α:Type}(A:Nat→Prop) (w:World) (k:Nat) (R:α→List Value→Prop) (a:Option Addr) (n:Nat) (xs:List α):Prop where
 len:n=xs.length
 le:n≤140737488355328
 at_:∀{i:Nat}{x:α},xs[i]?=some x→∃b o r,a=some ⟨b,o,none⟩∧r.length=k∧R x r∧w.rangeAt b (o+i*k) r∧A b∧b<w.heap.size
theorem SR.Rg{α:Type}{w:World}{k b E:Nat}{R:α→List Value→Prop}{xs:List α}{rows:List (List Value)}(h:cW w b E rows.flatten) (hl:xs.length=rows.length) (hk:∀r∈rows,r.length=k) (h1:∀u∈rows.flatten,u.oneCell'=true)
  (hle:rows.length≤140737488355328) (hR:∀(i:Nat) (x:α) (r:List Value),xs[i]?=some x→rows[i]?=some r→R x r):SR (fun _=>True) w k R (some ⟨b,0,none⟩) rows.length rows.length xs:=by
 have hlen:rows.flatten.length=rows.length*k:=by
  clear h hl h1 hle hR
  induction rows with
  | nil=>simp
  | cons r t ih=>grind
 have ho:=OL.blk (base:=0) (k:=k) h (Nat.zero_le _) hlen h1 hle;exact⟨hl.symm,rows,hl.symm,hk,ho.sl (A:=fun _=>True) (fun _ _=>trivial) hle,hR⟩
end Go.Rc

namespace Go.Rc
open Go
theorem LB.xe{ab:List aG}{x:dQ}(h:LB ab x):qC ab x:=
 ⟨h.ok.zF.r0,h.ok.zF.r1,⟨h.aF.1,h.aF.2.1⟩,h.aF.k99,h.ok.zG,fun r hr=>⟨h.ok.ke.key r hr,((gI _).1 (h.ok.zF.v r hr).1).2.2.1,(h.ok.ke.Ic r hr).2,(h.ok.zF.v r hr).1⟩,h.ok.zF.st,h.ok.ke.len,fun r hr=>(h.ok.zF.v r hr).2⟩
theorem LB.small{ab:List aG}{x:dQ}(hR:aw ab) (h:LB ab x):∀k,(valOf ab x.ae k).size≤1000:=I1 hR fun y hy=>(h.aF.2.2 y hy).2
theorem OR.ahN{α:Type}{R:α→List Value→Prop}{base b E k:Nat}{w:World}{x y:α}{r s:List Value}(h:cW w b E (r++s)) (hb:base≤b) (hr:r.length=k) (hs:s.length=k) (h1:∀u∈r++s,u.oneCell'=true) (hx:R x r) (hy:R y s):OR base w E k R (some ⟨b,0,none⟩) 2 2 [x,y]:=
 ⟨rfl,[r,s],rfl,by simp [hr,hs],by grind [OL.blk],GG hx hy⟩
end Go.Rc

namespace Go.Rc
open Go
section
variable {ab:List aG}{aF:List dB}
noncomputable def Mb(ab:List aG) (aF:List dB) (i q:Nat):List ByteArray:=(gh (dw ab (aN ab (i:Int))) (valOf ab aF) q).2
noncomputable def tu(ab:List aG) (aF:List dB) (i q:Nat):Key:=(dw ab (aN ab (i:Int)) (Mb ab aF i q)).ask
theorem uB(i q:Nat):(Mb ab aF i q).length=q:=(iD _ _ _).2
theorem ll{i q:Nat}(hq:q<dV ab i):(eb ab aF i)[q]?=some (tu ab aF i q):=by
 unfold eb tu Mb
 generalize dV ab i=n at hq ⊢
 induction n with
 | zero=>omega
 | succ n ih=>
  have hl:=(iD (dw ab (aN ab (i:Int))) (valOf ab aF) n).1;simp only [gh]
  grind
theorem KN(hR:aw ab) {i q:Nat}(hi:i<ab.length) (hq:q<dV ab i):dw ab (aN ab (i:Int)) (Mb ab aF i q)=⟨false,⟨#[]⟩,tu ab aF i q⟩:=by grind [fA,uB,tu]
theorem KO(hR:aw ab) {i:Nat}(hi:i<ab.length):dw ab (aN ab (i:Int)) (Mb ab aF i (dV ab i))=⟨true,valOf ab aF (aN ab (i:Int)),da⟩:=jd hR hi
theorem GO(hR:aw ab) {i q:Nat}(hi:i<ab.length) (hq:q<dV ab i):gA ab (tu ab aF i q):=
 (tp hR hi _ (List.mem_of_getElem? (ll (aF:=aF) hq))).QR hR
theorem Mc(hR:aw ab) {i:Nat}(hi:i<ab.length) (hr:aD ab i=true):dH (valOf ab aF (aN ab (i:Int)))=rv ab aF i:=by grind [jn,j4,gD,wY]
end
end Go.Rc

namespace Go.Rc
open Go
section
variable {ab:List aG}{aF:List dB}{k:Key}{L:List Key}
end
end Go.Rc

namespace Go.Rc
open Go
section
variable {ab:List aG}{aF:List dB}
theorem dU.trans{i j k:Nat}(h:dU ab i j) (h2:dU ab j k):dU ab i k:=by
 induction h2 with
 | refl=>exact h
 | step _ h3 ih=>exact .step ih h3
variable {lo n q v:Nat}{S:List Int}{r:aG}
end
end Go.Rc

namespace Go.Rc
open Go
section
variable {ab:List aG}{aF uC:List dB}
end
end Go.Rc
namespace Go.Rc
open Go
end Go.Rc

namespace Go.Rc
open Go
section
variable {ab:List aG}{aF uC:List dB}
theorem zJ(hR:aw ab) {i:Nat}(hi:i<ab.length) (h:∀a∈eb ab aF i,valOf ab aF a=valOf ab uC a):eb ab uC i=eb ab aF i∧valOf ab uC (aN ab (i:Int))=valOf ab aF (aN ab (i:Int)):=by
 have e:gh (dw ab (aN ab (i:Int))) (valOf ab aF) (dV ab i)=gh (dw ab (aN ab (i:Int))) (valOf ab uC) (dV ab i):=zh _ fun m hm=>h _ (List.mem_of_getElem? (ll hm))
 refine⟨?_,?_⟩
 ·
  unfold eb
  rw [e]
 have h1:=jd (aF:=aF) hR hi;have h2:=jd (aF:=uC) hR hi
 grind
theorem xf(hR:aw ab) {G:Nat→Prop}(hG:∀j,G j→j<ab.length∧aD ab j=true) (h:∀j,G j→∀r x,ab[j]?=some r→x∈r.asks→(∀m,G m→cB ab x≠aN ab (m:Int))→valOf ab aF (cB ab x)=valOf ab uC (cB ab x)) {j:Nat}(hj:G j) (b:Nat) (hb:(rv ab aF j).testBit b=true):(rv ab uC j).testBit b=true:=by
 obtain⟨mL,zl⟩:=hG j hj;obtain⟨n,hn,Gc⟩:=(fF hR mL zl b).1 hb
 have key:∀n,dU ab j n→(G n∧dU ab j n)∨∃(m:Nat) (x:Ask) (r:aG) (q:Nat),G m∧dU ab j m∧ab[m]?=some r∧x∈r.asks∧cB ab x=aN ab (q:Int)∧¬G q∧gZ ab m q∧dU ab q n:=by
  intro n hn
  induction hn with
  | refl=>exact .inl ⟨hj,.refl⟩
  | @step m q hm ha ih=>
   rcases ih with⟨g1,g2⟩ | ⟨m2,x,r,q2,g1,g2,g3,g4,g5,g6,g7,g8⟩
   ·
    by_cases hq:G q
    ·
     exact .inl ⟨hq,.step g2 ha⟩
    obtain⟨x,hx,_,hk⟩:=tg (hG m g1).1 ha;exact .inr ⟨m,x,_,q,g1,g2,ao (hG m g1).1,hx,hk,hq,ha,.refl⟩
   exact .inr ⟨m2,x,r,q2,g1,g2,g3,g4,g5,g6,g7,.step g8 ha⟩
 rcases key n hn with⟨g1,g2⟩ | ⟨m,x,r,q,g1,g2,g3,g4,g5,g6,g7,g8⟩
 ·
  obtain⟨l4,hnr⟩:=hG n g1;refine(fF hR mL zl b).2 ⟨n,g2,?_⟩
  rcases(gE l4 b).1 Gc with h1 | ⟨x,hx,ho,h1⟩
  ·
   grind [gE]
  refine(gE l4 b).2 (.inr ⟨x,hx,ho,?_⟩);rw [← h n g1 _ x (ao l4) hx fun m hm e=>?_]
  ·
   exact h1
  grind [k7,ck,aw.len]
 have hql:=g7.lt.2.1;have hqr:=g7.lt.2.2.2;have h1:(rv ab aF q).testBit b=true:=(fF hR hql hqr b).2 ⟨n,g8,Gc⟩
 have h2:=h m g1 r x g3 g4 fun m2 kM e=>by grind [fq]
 have h3:rv ab aF q=rv ab uC q:=by grind [Mc]
 rw [h3] at h1;obtain⟨n2,h4,h5⟩:=(fF hR hql hqr b).1 h1;exact(fF hR mL zl b).2 ⟨n2,(dU.step g2 g7).trans h4,h5⟩
theorem I4(hR:aw ab) {G:Nat→Prop}(hG:∀j,G j→j<ab.length∧aD ab j=true) (h:∀j,G j→∀r x,ab[j]?=some r→x∈r.asks→(∀m,G m→cB ab x≠aN ab (m:Int))→valOf ab aF (cB ab x)=valOf ab uC (cB ab x)) {j:Nat}(hj:G j):valOf ab aF (aN ab (j:Int))=valOf ab uC (aN ab (j:Int)):=by
 obtain⟨mL,zl⟩:=hG j hj
 have e:rv ab aF j=rv ab uC j:=by
  apply Nat.eq_of_testBit_eq
  intro b;rw [Bool.eq_iff_iff];exact⟨xf hR hG h hj b,xf hR hG (fun j hj r x h1 h2 h3=>(h j hj r x h1 h2 h3).symm) hj b⟩
 grind [jn,j4]
structure Cons (ab:List aG) (H:Int→List dB) (on:Key→Bool) (b:dQ):Prop where
 now:H b.ad=b.ae
 iB:∀k t,az k=true→(db b.ae k).changed≤t→t≤b.ad→cellOf (H t) k=cellOf b.ae k
 KP:∀r∈b.ak,r.ax≤b.ad∧r.changed≤r.ax
 vr:∀r∈b.ak,r.value=valOf ab (H r.ax) r.key∧r.reads=zm ab (H r.ax) r.key
 rr:∀r∈b.ak,∀a∈r.reads,az a=false→∀ra,aC b.ak a=some ra→(r.ax=b.ad∧on a=true)∨(ra.changed≤r.ax→valOf ab (H r.ax) a=ra.value)
 rs:∀r∈b.ak,aA r.key=true→∀a∈r.reads,aA a=true→∀ra,aC b.ak a=some ra→(r.ax=b.ad∧on a=true)∨r.ax≤ra.ax
variable {H:Int→List dB}{on:Key→Bool}{b:dQ}{k:Key}
theorem Cons.up(h:Cons ab H on b) (hu:aK b k=true):∃r,aC b.ak k=some r∧r.ax=b.ad∧r.value=valOf ab b.ae k:=by
 obtain⟨r,hr,hv⟩:=cL.1 hu;obtain⟨h1,h2⟩:=aX hr;refine⟨r,hr,hv,?_⟩;rw [(h.vr r h1).1,hv,h.now,h2]
theorem Cons.changed(h:Cons ab H on b) {m:Rec}(hm:m∈b.ak) (ee:m.ax<b.ad) {a:Key}(ha:a∈m.reads) (hc:bp (valOf ab b.ae) b a≤m.ax):valOf ab (H m.ax) a=valOf ab b.ae a:=by
 cases hi:az a with
 | true=>
  unfold bp at hc
  rw [if_pos hi] at hc
  have:=h.iB a m.ax hi hc (by omega)
  unfold valOf
  grind
 | false=>
  unfold bp at hc
  rw [if_neg (by rw [hi];simp)] at hc
  split at hc
  ·
   rename_i h1
   rw [Bool.and_eq_true] at h1;obtain⟨ra,kq⟩:=Option.isSome_iff_exists.1 h1.1
   have e:aH b.ak a=ra:=by unfold aH;rw [kq];rfl
   rw [e] at h1 hc
   have ig:valOf ab b.ae a=ra.value:=by
    rw [Bool.or_eq_true] at h1
    rcases h1.2 with h2 | h2
    ·
     have h2:=of_decide_eq_true h2;obtain⟨g1,g2⟩:=aX kq;rw [(h.vr ra g1).1,h2,h.now,g2]
    exact of_decide_eq_true h2
   rcases h.rr m hm a ha hi ra kq with⟨h2,_⟩ | h2
   ·
    omega
   rw [h2 hc,ig]
  omega
end
end Go.Rc

namespace Go.Rc
open Go
/-! ### lists of keys in order -/
def RZ(l:List Key):Prop:=l.Pairwise fun a b=>cw a b<0
theorem tv{a b:Key}(h:cw a b<0) (h2:cw b a<0):False:=by grind [jU,lh]
theorem KQ{k:Key}:∀{l:List Key},RZ l→RZ (pZ k l)
 | [],_=>by simp [pZ,RZ]
 | x::r,h=>by
  obtain⟨h1,h2⟩:=List.pairwise_cons.1 h
  unfold pZ
  split
  ·
   rename_i c
   refine List.pairwise_cons.2 ⟨fun y hy=>?_,KQ h2⟩
   grind [Gz]
  rename_i c
  split
  ·
   exact h
  rename_i e
  have ee:cw k x<0:=by grind [lj,ph]
  refine List.pairwise_cons.2 ⟨fun y hy=>?_,h⟩
  grind [jU]
theorem OE(l:List Key):RZ (mb l):=by
 have key:∀(l acc:List Key),RZ acc→RZ (l.foldl (fun out k=>pZ k out) acc):=by
  intro l
  induction l with
  | nil=>intro acc h;exact h
  | cons x r ih=>grind [KQ]
 exact key l [] List.Pairwise.nil
theorem DZ:∀{a b:List Key},RZ a→RZ b→(∀x,x∈a↔x∈b)→a=b
 | [],[],_,_,_=>rfl
 | [],y::b,_,_,h=>by have:=(h y).2 (by simp);cases this
 | x::a,[],_,_,h=>by have:=(h x).1 (by simp);cases this
 | x::a,y::b,h1,h2,h=>by
  obtain⟨h3,h4⟩:=List.pairwise_cons.1 h1;obtain⟨h5,h6⟩:=List.pairwise_cons.1 h2
  have e:x=y:=by
   rcases List.mem_cons.1 ((h x).1 (by simp)) with e | e
   ·
    exact e
   rcases List.mem_cons.1 ((h y).2 (by simp)) with e2 | e2
   ·
    exact e2.symm
   grind [tv]
  subst e
  congr 1
  refine DZ h4 h6 fun z=>⟨fun hz=>?_,fun hz=>?_⟩
  ·
   grind [tv]
  grind [tv]
/-! ### rings that belong together -/
section
variable {l l':List Rec}{rev:Int}{k x y z:Key}
theorem cx:cI l rev k=true↔∃r,aC l k=some r∧aA k=true∧r.ax<rev∧r.bU=false:=by
 unfold cI aH
 cases h:aC l k with
 | none=>simp
 | some r=>simp
theorem cD.trans(h:cD l rev k x) (h2:cD l rev x y):cD l rev k y:=by
 induction h2 with
 | one h2=>exact .step h h2
 | step _ h3 ih=>exact .step ih h3
def CX(l:List Rec) (rev:Int) (x y:Key):Prop:=cD l rev x y∧cD l rev y x
theorem CX.symm(h:CX l rev x y):CX l rev y x:=⟨h.2,h.1⟩
theorem CX.trans(h:CX l rev x y) (h2:CX l rev y z):CX l rev x z:=⟨h.1.trans h2.1,h2.2.trans h.2⟩
theorem CX.iE(h:CX l rev x y):cI l rev y=true:=h.1.iE
theorem I5:y∈k9 l rev k l↔y≠k∧CX l rev k y:=by
 unfold k9 GB
 rw [List.mem_map]
 constructor
 ·
  rintro⟨r,hr,rfl⟩;rw [List.mem_filter] at hr;simp only [Bool.and_eq_true,decide_eq_true_eq,mR] at hr;exact⟨hr.2.1,hr.2.2.1,hr.2.2.2⟩
 rintro⟨h1,h2⟩;obtain⟨r,hr,rfl⟩:=List.mem_map.1 (qx h2.iE);exact⟨r,List.mem_filter.2 ⟨hr,by simp only [Bool.and_eq_true,decide_eq_true_eq,mR];exact⟨h1,h2.1,h2.2⟩⟩,rfl⟩
theorem dq:y∈aB l rev k↔y=k∨(cI l rev k=true∧CX l rev k y):=by
 unfold aB
 split
 ·
  rename_i h
  rw [vH,List.mem_cons,I5]
  grind
 grind
theorem lL:k∈aB l rev k:=dq.2 (.inl rfl)
theorem oK(l:List Rec) (rev:Int) (k:Key):RZ (aB l rev k):=by
 unfold aB
 split
 ·
  exact OE _
 exact List.pairwise_singleton _ _
theorem nI(h:aA k=false):aB l rev k=[k]:=by
 unfold aB
 rw [if_neg]
 grind [cx]
theorem vP(hk:cI l rev k=true) (h:CX l rev k y) (z:Key):z∈aB l rev y↔z∈aB l rev k:=by
 rw [dq,dq]
 constructor
 ·
  rintro(rfl | ⟨_,h1⟩)
  ·
   exact .inr ⟨hk,h⟩
  exact .inr ⟨hk,h.trans h1⟩
 rintro(rfl | ⟨_,h1⟩)
 ·
  exact .inr ⟨h.iE,h.symm⟩
 exact .inr ⟨h.iE,h.symm.trans h1⟩
theorem eH{g:List Key}{c:si}:c∈bP l g↔c.eR∈g∧c.read∈(aH l c.eR).reads∧c.read∉g:=by
 unfold bP dZ
 grind
theorem BE{g:List Key}(h:∀m∈g,aH l' m=aH l m):bP l' g=bP l g:=by
 unfold bP
 have key:∀s:List Key,(∀m∈s,aH l' m=aH l m)→(s.flatMap fun m=>dZ g m (aH l' m).reads)=s.flatMap fun m=>dZ g m (aH l m).reads:=by
  intro s
  induction s with
  | nil=>intro _;rfl
  | cons m r ih=>grind
 exact key g h
end
/-! ### the change of records -/
def Pt(val:Key→ByteArray) (N:Key→Prop) (rev:Int) (cU:List Key) (y:Key) (o o':Option Rec):Prop:=
 o'=o∨((aA y=true∨N y)∧∃r,o=some r∧r.bU=false∧r.ax<rev∧(o'=some {r with ax:=rev}∨o'=some {r with bU:=true}))∨
 ((y∈cU∧N y)∧(∀r,o=some r→r.ax<rev)∧∃r',o'=some r'∧r'.ax=rev∧r'.bU=false∧r'.value=val y∧(∀r,o=some r→r'.changed=if r.value=r'.value then r.changed else rev)∧(o=none→r'.changed=rev))
structure kJ (val:Key→ByteArray) (N:Key→Prop) (cU:List Key) (rev:Int) (l l':List Rec):Prop where
 pt:∀y,Pt val N rev cU y (aC l y) (aC l' y)
 scc:∀y z,CX l rev y z→cI l' rev y=true→cI l' rev z=true
def Live(l:List Rec) (rev:Int) (k:Key):Prop:=∃r,aC l k=some r∧r.bU=false∧r.ax<rev
theorem Live.D0{l:List Rec}{rev:Int}{k:Key}(h:cI l rev k=true):Live l rev k:=by
 obtain⟨r,h1,_,h2,h3⟩:=cx.1 h;exact⟨r,h1,h3,h2⟩
theorem Live.iE{l:List Rec}{rev:Int}{k:Key}(h:Live l rev k) (hc:aA k=true):cI l rev k=true:=by
 obtain⟨r,h1,h2,h3⟩:=h
 grind [cx]
section
variable {val:Key→ByteArray}{N N':Key→Prop}{cU abM:List Key}{rev:Int}{l l' l2:List Rec}{k x y z:Key}
theorem kJ.refl(l:List Rec):kJ val N cU rev l l:=⟨fun _=>.inl rfl,fun _ _ h _=>h.iE⟩
theorem kJ.mono(h:kJ val N cU rev l l') (hr:∀y∈cU,y∈abM) (hN:∀y,N y→N' y):kJ val N' abM rev l l':=
 ⟨fun y=>by
  rcases h.pt y with h | ⟨h1,h2⟩ | ⟨⟨h1,h2⟩,h3⟩
  ·
   exact .inl h
  ·
   exact .inr (.inl ⟨h1.imp id (hN y),h2⟩)
  exact .inr (.inr ⟨⟨hr y h1,hN y h2⟩,h3⟩),h.scc⟩
theorem kJ.live(h:kJ val N cU rev l l') (hl:Live l' rev y):aC l' y=aC l y:=by
 obtain⟨r,h1,h2,h3⟩:=hl
 rcases h.pt y with e | ⟨_,q,_,_,_,e | e⟩ | ⟨_,_,q,e,h4,_⟩
 ·
  exact e
 ·
  grind
 ·
  grind
 grind
theorem kJ.Ul(h:kJ val N cU rev l l') (hl:Live l' rev y):Live l rev y:=by
 obtain⟨r,h1,h2,h3⟩:=id hl;exact⟨r,by rw [← h.live hl];exact h1,h2,h3⟩
theorem kJ.iE(h:kJ val N cU rev l l') (ho:cI l' rev y=true):aC l' y=aC l y:=h.live (.D0 ho)
theorem kJ.R0(h:kJ val N cU rev l l') (ho:cI l' rev y=true):cI l rev y=true:=by
 obtain⟨r,h1,h2,h3,h4⟩:=cx.1 ho;exact cx.2 ⟨r,by rw [← h.iE ho];exact h1,h2,h3,h4⟩
theorem kJ.aH(h:kJ val N cU rev l l') (ho:cI l' rev y=true):aH l' y=Rc.aH l y:=by
 unfold Rc.aH
 rw [h.iE ho]
theorem kJ.leads(h:kJ val N cU rev l l') (hk:cI l' rev k=true) (hl:cD l' rev k x):cD l rev k x:=by
 induction hl with
 | one h1=>exact .one ⟨by rw [← h.aH hk];exact h1.1,h.R0 h1.2⟩
 | step h1 h2 ih=>exact .step ih ⟨by rw [← h.aH h1.iE];exact h2.1,h.R0 h2.2⟩
theorem kJ.back(h:kJ val N cU rev l l') (hk:cI l' rev k=true) (hl:cD l rev k x):cD l rev x k→cD l' rev k x:=by
 induction hl with
 | one h1=>exact fun hx=>.one ⟨by rw [h.aH hk];exact h1.1,h.scc k _ ⟨.one h1,hx⟩ hk⟩
 | step h1 h2 ih=>
  intro hx;have g:=ih ((cD.one h2).trans hx);exact .step g ⟨by rw [h.aH g.iE];exact h2.1,h.scc k _ ⟨.step h1 h2,hx⟩ hk⟩
theorem kJ.mut(h:kJ val N cU rev l l') (hk:cI l' rev k=true):CX l' rev k y↔CX l rev k y:=
 ⟨fun m=>⟨h.leads hk m.1,h.leads m.iE m.2⟩,fun m=>⟨h.back hk m.1 m.2,h.back (h.scc k y m hk) m.2 m.1⟩⟩
theorem kJ.group(h:kJ val N cU rev l l') (hk:Live l' rev k):aB l' rev k=aB l rev k∧∀m∈aB l rev k,aC l' m=aC l m:=by
 cases hc:aA k with
 | false=>
  rw [nI hc,nI hc];refine⟨rfl,fun m hm=>?_⟩;rw [List.mem_singleton.1 hm];exact h.live hk
 | true=>
  have ho:=hk.iE hc;refine⟨DZ (oK _ _ _) (oK _ _ _) fun y=>?_,fun m hm=>?_⟩
  ·
   rw [dq,dq,h.mut ho,ho,h.R0 ho]
  rcases dq.1 hm with rfl | ⟨_,m2⟩
  ·
   exact h.live hk
  exact h.iE (h.scc _ _ m2 ho)
theorem kJ.OG(h:kJ val N cU rev l l') (hk:Live l' rev k):bP l' (aB l' rev k)=bP l (aB l rev k):=by
 obtain⟨h1,h2⟩:=h.group hk;rw [h1];refine BE fun m hm=>?_
 unfold Rc.aH
 rw [h2 m hm]
theorem kJ.trans(h:kJ val N cU rev l l') (h2:kJ val N cU rev l' l2):kJ val N cU rev l l2:=by
 refine⟨fun y=>?_,fun y z m ho=>?_⟩
 ·
  have g2:=h2.pt y
  rcases h.pt y with e | ⟨e0,r,e1,e2,e3,e4 | e4⟩ | ⟨e1,e2,r',e3,e4,e5,e6,e7,e8⟩
  ·
   rw [e] at g2;exact g2
  ·
   rcases g2 with g | ⟨_,q,g1,g2,g3,_⟩ | ⟨_,g1,_⟩
   ·
    exact .inr (.inl ⟨e0,r,e1,e2,e3,.inl (g.trans e4)⟩)
   ·
    grind
   grind
  ·
   rcases g2 with g | ⟨_,q,g1,g2,g3,_⟩ | ⟨g1,g2,q,g3,g4,g5,g6,g7,g8⟩
   ·
    exact .inr (.inl ⟨e0,r,e1,e2,e3,.inr (g.trans e4)⟩)
   ·
    grind
   refine .inr (.inr ⟨g1,fun r2 yt=>?_,q,g3,g4,g5,g6,fun r2 yt=>?_,fun hn=>?_⟩)
   ·
    grind
   ·
    grind
   grind
  rcases g2 with g | ⟨_,q,g1,g2,g3,_⟩ | ⟨_,g1,_⟩
  ·
   exact .inr (.inr ⟨e1,e2,r',g.trans e3,e4,e5,e6,e7,e8⟩)
  ·
   grind
  have:=g1 _ e3
  omega
 have Rq:=h2.R0 ho;exact h2.scc y z ((h.mut Rq).2 m) ho
theorem eS{g:List Key}{d:Bool}:aC (l.map (cO rev g d)) y=(aC l y).map (cO rev g d):=vI _ (fun r=>(dP rev g d r).1) y l
theorem kJ.mark(hl:Live l rev k) (d:Bool) (hN:aA k=true∨N k):kJ val N cU rev l (l.map (cO rev (aB l rev k) d)):=by
 have iB:∀y∈aB l rev k,Live l rev y:=fun y hy=>by
  rcases dq.1 hy with rfl | ⟨_,m⟩
  ·
   exact hl
  exact .D0 m.iE
 have gH:∀y,y∉aB l rev k→aC (l.map (cO rev (aB l rev k) d)) y=aC l y:=fun y hy=>by
  rw [eS]
  cases hf:aC l y with
  | none=>rfl
  | some r=>
   have e:=(aX hf).2
   show some (cO rev (aB l rev k) d r)=some r
   unfold cO
   rw [if_neg (by rw [e];exact hy)]
 have TZ:∀y∈aB l rev k,∃r,aC l y=some r∧r.bU=false∧r.ax<rev∧aC (l.map (cO rev (aB l rev k) d)) y=some (if d then {r with bU:=true} else {r with ax:=rev}):=fun y hy=>by
  obtain⟨r,h1,h2,h3⟩:=iB y hy;refine⟨r,h1,h2,h3,?_⟩;rw [eS,h1]
  show some (cO rev (aB l rev k) d r)=_
  unfold cO
  rw [if_pos (by rw [(aX h1).2];exact hy)]
 refine⟨fun y=>?_,fun y z m ho=>?_⟩
 ·
  by_cases hy:y∈aB l rev k
  ·
   obtain⟨r,h1,h2,h3,h4⟩:=TZ y hy;refine .inr (.inl ⟨?_,r,h1,h2,h3,?_⟩)
   ·
    rcases dq.1 hy with rfl | ⟨_,m⟩
    ·
     exact hN
    obtain⟨_,_,g,_⟩:=cx.1 m.iE;exact .inl g
   grind
  exact .inl (gH y hy)
 have hy:y∉aB l rev k:=fun hy=>by grind [cx]
 have hz:z∉aB l rev k:=fun hz=>hy (by
  rcases dq.1 hz with rfl | ⟨h1,h2⟩
  ·
   grind [dq,CX.iE,CX.symm]
  exact dq.2 (.inr ⟨h1,h2.trans m.symm⟩))
 obtain⟨r,h1,h2,h3,h4⟩:=cx.1 m.iE
 grind [cx]
theorem kJ.put{r':Rec}(hk:cI l rev r'.key=false) (ee:∀r,aC l r'.key=some r→r.ax<rev) (qa:r'.key∈cU∧N r'.key) (hv:r'.ax=rev) (hd:r'.bU=false) (ig:r'.value=val r'.key)
  (hc:∀r,aC l r'.key=some r→r'.changed=if r.value=r'.value then r.changed else rev) (hn:aC l r'.key=none→r'.changed=rev):kJ val N cU rev l (fR l r'):=by
 refine⟨fun y=>?_,fun y z m ho=>?_⟩
 ·
  rw [gk]
  by_cases e:y=r'.key
  ·
   rw [if_pos e,e];exact .inr (.inr ⟨qa,ee,r',rfl,hv,hd,ig,hc,hn⟩)
  rw [if_neg e];exact .inl rfl
 have hz:z≠r'.key:=fun e=>by grind [CX.iE]
 obtain⟨r,h1,h2,h3,h4⟩:=cx.1 m.iE;exact cx.2 ⟨r,by rw [gk,if_neg hz];exact h1,h2,h3,h4⟩
end
end Go.Rc

namespace Go.Rc
open Go
theorem bC{l:List Rec}{k:Key}{r:Rec}(h:aC l k=some r):aH l k=r:=by
 unfold aH
 rw [h]
 rfl
theorem lM:∀{l:List Rec},vK l→∀{r:Rec},r∈l→aC l r.key=some r
 | [],_,r,hr=>by cases hr
 | x::xs,h,r,hr=>by
  obtain⟨h1,h2⟩:=List.pairwise_cons.1 h
  unfold aC
  rw [List.find?_cons]
  rcases List.mem_cons.1 hr with rfl | hr
  ·
   simp
  have h3:=h1 r hr
  have kW:x.key≠r.key:=fun e=>by rw [e,lh] at h3;omega
  have:(x.key == r.key)=false:=by simpa using kW
  rw [this];exact lM h2 hr
structure Bi (ab:List aG) (H:Int→List dB) (on:Key→Bool) (b:dQ):Prop where
 c:Cons ab H on b
 st:vK b.ak
 kr:∀r∈b.ak,∃i:Nat,i<ab.length∧r.key=aN ab (i:Int)
 dv:∀r∈b.ak,r.bU=true→r.ax<b.ad
section
variable {ab:List aG}{H:Int→List dB}{on on':Key→Bool}{b:dQ}{k:Key}
theorem Bi.Um(h:Bi ab H on b) (ho:∀k,on k=true→on' k=true):Bi ab H on' b:=
 ⟨{h.c with
   rr:=fun r hr a ha hi ra kq=>(h.c.rr r hr a ha hi ra kq).imp (fun⟨x,y⟩=>⟨x,ho _ y⟩) id
   rs:=fun r hr hc a ha hi ra kq=>(h.c.rs r hr hc a ha hi ra kq).imp (fun⟨x,y⟩=>⟨x,ho _ y⟩) id},h.st,h.kr,h.dv⟩
theorem Bi.off(h:Bi ab H on b) (hu:aK b k=true) (ho:∀y,on y=true→y=k∨on' y=true):Bi ab H on' b:=by
 obtain⟨q,hq,hv,ig⟩:=h.c.up hu;refine⟨{h.c with rr:=fun r hr a ha hi ra kq=>?_,rs:=fun r hr hc a ha hi ra kq=>?_},h.st,h.kr,h.dv⟩
 ·
  rcases h.c.rr r hr a ha hi ra kq with⟨x,y⟩ | z
  ·
   rcases ho a y with rfl | y
   ·
    rw [kq] at hq
    have:=Option.some.inj hq
    subst this;refine .inr fun _=>?_;rw [x,h.c.now];exact ig.symm
   exact .inl ⟨x,y⟩
  exact .inr z
 rcases h.c.rs r hr hc a ha hi ra kq with⟨x,y⟩ | z
 ·
  grind
 exact .inr z
theorem Md(hR:aw ab) {aF:List dB}{i:Nat}(hi:i<ab.length) (hr:aD ab i=true) {x:Ask}(hx:x∈ab[i].asks):cB ab x∈eb ab aF i:=by
 obtain⟨q,hq⟩:=List.mem_iff_getElem?.1 hx
 have hql:q<dV ab i:=by grind [dV]
 have h1:=ll (aF:=aF) hql
 grind [fA,uB,tu]
theorem Cons.lead(h:Cons ab H on b) {x y:Key}(hx:cI b.ak b.ad x=true) (hl:cD b.ak b.ad x y):(aH b.ak x).ax≤(aH b.ak y).ax:=by
 have step:∀x y,cI b.ak b.ad x=true→Ld b.ak b.ad x y→(aH b.ak x).ax≤(aH b.ak y).ax:=by
  intro x y hx hy;obtain⟨r,h1,h2,h3,h4⟩:=cx.1 hx;obtain⟨q,g1,g2,g3,g4⟩:=cx.1 hy.2;have ha:=hy.1;rw [bC h1] at ha;rw [bC h1,bC g1]
  rcases h.rs r (aX h1).1 (by rw [(aX h1).2];exact h2) y ha g2 q g1 with⟨e,_⟩ | e
  ·
   omega
  exact e
 induction hl with
 | one h1=>exact step _ _ hx h1
 | step h1 h2 ih=>grind [cD.iE]
theorem Bi.key(h:Bi ab H on b) (hl:Live b.ak b.ad k):∃i:Nat,i<ab.length∧k=aN ab (i:Int):=by
 obtain⟨r,h1,_⟩:=hl;obtain⟨h2,h3⟩:=aX h1;obtain⟨i,hi,e⟩:=h.kr r h2
 grind
theorem mj{l:List Rec}{rev:Int}{y:Key}(hl:Live l rev k) (hy:y∈aB l rev k):Live l rev y:=by
 rcases dq.1 hy with rfl | ⟨_,m⟩
 ·
  exact hl
 exact .D0 m.iE
theorem Bi.fixed(hR:aw ab) (h:Bi ab H on b) (hl:Live b.ak b.ad k)
  (hp:∀m∈aB b.ak b.ad k,∀a∈(aH b.ak m).reads,a∉aB b.ak b.ad k→valOf ab (H (aH b.ak m).ax) a=valOf ab b.ae a) :
  ∀m∈aB b.ak b.ad k,valOf ab b.ae m=valOf ab (H (aH b.ak m).ax) m∧zm ab b.ae m=zm ab (H (aH b.ak m).ax) m:=by
 have rT:=hR.len
 have rU:∀m∈aB b.ak b.ad k,∃i:Nat,i<ab.length∧m=aN ab (i:Int)∧(aH b.ak m).reads=eb ab (H (aH b.ak m).ax) i:=fun m hm=>by
  have VQ:=mj hl hm;obtain⟨i,hi,e⟩:=h.key VQ;obtain⟨r,h1,_⟩:=VQ;refine⟨i,hi,e,?_⟩;have h2:=(h.c.vr r (aX h1).1).2;rw [bC h1,h2,(aX h1).2,e,jS hR hi]
 cases hc:aA k with
 | false=>
  rw [nI hc] at hp rU ⊢;intro m hm;rw [List.mem_singleton] at hm;subst hm;obtain⟨i,hi,e,rU⟩:=rU m (by simp)
  have hs:=zJ hR hi (aF:=H (aH b.ak m).ax) (uC:=b.ae) fun a ha=>by
   refine hp m (by simp) a (by rw [rU];exact ha) fun hm=>?_;rw [List.mem_singleton] at hm;rw [e] at hm;rw [e,ck hi (by omega)] at hc
   rcases tp hR hi a ha with⟨n,hn,rfl⟩ | ⟨j,hj,rfl,_,h5,_⟩
   ·
    grind [cE,eG]
   grind [fq]
  grind [jS]
 | true=>
  have ho:=hl.iE hc
  have ht:∀m∈aB b.ak b.ad k,(aH b.ak m).ax=(aH b.ak k).ax:=fun m hm=>by
   rcases dq.1 hm with rfl | ⟨_,m1,m2⟩
   ·
    rfl
   have a1:=h.c.lead ho m1;have a2:=h.c.lead m1.iE m2
   omega
  have KB:∀j:Nat,j<ab.length→aN ab (j:Int)∈aB b.ak b.ad k→aD ab j=true:=fun j hj hm=>by
   have h1:cI b.ak b.ad (aN ab (j:Int))=true:=by grind [dq,CX.iE]
   grind [cx,ck]
  have sq:∀j:Nat,j<ab.length→aN ab (j:Int)∈aB b.ak b.ad k→valOf ab (H (aH b.ak k).ax) (aN ab (j:Int))=valOf ab b.ae (aN ab (j:Int)):=fun j hj hm=>by
   refine I4 hR (G:=fun j=>j<ab.length∧aN ab (j:Int)∈aB b.ak b.ad k) (fun j hj=>⟨hj.1,KB j hj.1 hj.2⟩) (fun j hj r x hr hx kW=>?_) ⟨hj,hm⟩
   grind [fq,Md]
  intro m hm;obtain⟨i,hi,e,rU⟩:=rU m hm;have h1:=sq i hi (e ▸ hm);rw [ht m hm] at rU ⊢;refine⟨by rw [e];exact h1.symm,?_⟩
  have hs:=zJ hR hi (aF:=H (aH b.ak k).ax) (uC:=b.ae) fun a ha=>by grind
  grind [jS]
theorem j6(rev:Int) (g:List Key) (d:Bool) (r:Rec):(cO rev g d r).value=r.value∧(cO rev g d r).changed=r.changed:=by
 unfold cO
 grind
theorem Bi.mark(hR:aw ab) (h:Bi ab H on b) (hl:Live b.ak b.ad k)
  (hp:∀m∈aB b.ak b.ad k,∀a∈(aH b.ak m).reads,a∉aB b.ak b.ad k→valOf ab (H (aH b.ak m).ax) a=valOf ab b.ae a∧(az a=true∨(on a=true∧aA a=true)∨aK b a=true)) :
  Bi ab H on (dT b (aB b.ak b.ad k) false):=by
 have hv:=h.fixed hR hl fun m hm a ha BF=>(hp m hm a ha BF).1
 generalize hG:aB b.ak b.ad k=G at hv hp
 have hvr:∀a ra,a∈G→aC b.ak a=some ra→ra.value=valOf ab b.ae a:=fun a ra ha kq=>by
  have h1:=(h.c.vr ra (aX kq).1).1;have h2:=(hv a ha).1;rw [bC kq] at h2;rw [h1,(aX kq).2,h2]
 have hmv:∀r:Rec,r.key∈G→(cO b.ad G false r).ax=b.ad:=fun r hr=>by
  unfold cO
  rw [if_pos hr]
  rfl
 have hmo:∀r:Rec,r.key∉G→cO b.ad G false r=r:=fun r hr=>by
  unfold cO
  rw [if_neg hr]
 refine⟨⟨h.c.now,h.c.iB,fun r' jg=>?_,fun r' jg=>?_,fun r' jg a ha hi ra' zK=>?_,fun r' jg hc a ha hi ra' zK=>?_⟩,h.st.map fun r=>(dP _ _ _ r).1,fun r' jg=>?_,fun r' jg hd=>?_⟩
 ·
  obtain⟨r,hr,rfl⟩:=List.mem_map.1 jg;have h1:=h.c.KP r hr
  by_cases e:r.key∈G
  ·
   rw [hmv r e,(j6 _ _ _ r).2];exact⟨Int.le_refl _,by omega⟩
  rw [hmo r e];exact h1
 ·
  obtain⟨r,hr,rfl⟩:=List.mem_map.1 jg;have h1:=h.c.vr r hr
  by_cases e:r.key∈G
  ·
   have hf:=lM h.st hr;have h2:=hv r.key e;rw [bC hf] at h2;rw [hmv r e,(j6 _ _ _ r).1,(dP _ _ _ r).1,(dP _ _ _ r).2,h.c.now,h2.1,h2.2];exact h1
  rw [hmo r e];exact h1
 ·
  obtain⟨r,hr,rfl⟩:=List.mem_map.1 jg;rw [show(dT b G false).ak=b.ak.map (cO b.ad G false) from rfl,eS] at zK;obtain⟨ra,kq,rfl⟩:=Option.map_eq_some_iff.1 zK;have hf:=lM h.st hr;rw [(dP _ _ _ r).2] at ha;rw [(j6 _ _ _ ra).1,(j6 _ _ _ ra).2]
  show((cO b.ad G false r).ax=b.ad∧_)∨_
  by_cases e:r.key∈G
  ·
   rw [hmv r e]
   by_cases ea:a∈G
   ·
    refine .inr fun _=>?_;rw [h.c.now];exact(hvr a ra ea kq).symm
   rcases(hp r.key e a (by rw [bC hf];exact ha) ea).2 with h1 | h1 | h1
   ·
    rw [hi] at h1
    cases h1
   ·
    exact .inl ⟨rfl,h1.1⟩
   refine .inr fun _=>?_;obtain⟨q,hq,_,ig⟩:=h.c.up h1;rw [kq] at hq
   have:=Option.some.inj hq
   subst this;rw [h.c.now];exact ig.symm
  rw [hmo r e];exact h.c.rr r hr a ha hi ra kq
 ·
  obtain⟨r,hr,rfl⟩:=List.mem_map.1 jg;rw [show(dT b G false).ak=b.ak.map (cO b.ad G false) from rfl,eS] at zK;obtain⟨ra,kq,rfl⟩:=Option.map_eq_some_iff.1 zK;have hf:=lM h.st hr;rw [(dP _ _ _ r).2] at ha;rw [(dP _ _ _ r).1] at hc
  show((cO b.ad G false r).ax=b.ad∧_)∨_
  have Nt:=(aX kq).2;have hle:=(h.c.KP r hr).1
  by_cases e:r.key∈G
  ·
   rw [hmv r e]
   by_cases ea:a∈G
   ·
    grind
   rcases(hp r.key e a (by rw [bC hf];exact ha) ea).2 with h1 | h1 | h1
   ·
    obtain⟨j,hj,ej⟩:=h.kr ra (aX kq).1
    grind [aw.len,eG]
   ·
    exact .inl ⟨rfl,h1.1⟩
   obtain⟨q,hq,hqv⟩:=cL.1 h1
   grind
  rw [hmo r e]
  rcases h.c.rs r hr hc a ha hi ra kq with h1 | h1
  ·
   exact .inl h1
  refine .inr ?_
  by_cases ea:ra.key∈G
  ·
   grind
  grind
 ·
  obtain⟨r,hr,rfl⟩:=List.mem_map.1 jg;rw [(dP _ _ _ r).1];exact h.kr r hr
 obtain⟨r,hr,rfl⟩:=List.mem_map.1 jg
 by_cases e:r.key∈G
 ·
  have hf:=lM h.st hr;obtain⟨q,g1,g2,_⟩:=mj hl (y:=r.key) (by rw [hG];exact e);rw [hf] at g1
  have:=Option.some.inj g1
  subst this
  unfold cO at hd
  grind
 rw [hmo r e] at hd ⊢;exact h.dv r hr hd
theorem Bi.bU(h:Bi ab H on b) {G:List Key}(hG:∀m∈G,Live b.ak b.ad m):Bi ab H on (dT b G true):=by
 have hm:∀r:Rec,(cO b.ad G true r).ax=r.ax:=fun r=>by
  unfold cO
  grind
 refine⟨⟨h.c.now,h.c.iB,fun r' jg=>?_,fun r' jg=>?_,fun r' jg a ha hi ra' zK=>?_,fun r' jg hc a ha hi ra' zK=>?_⟩,h.st.map fun r=>(dP _ _ _ r).1,fun r' jg=>?_,fun r' jg hd=>?_⟩
 ·
  obtain⟨r,hr,rfl⟩:=List.mem_map.1 jg;rw [hm,(j6 _ _ _ r).2];exact h.c.KP r hr
 ·
  obtain⟨r,hr,rfl⟩:=List.mem_map.1 jg;rw [hm,(j6 _ _ _ r).1,(dP _ _ _ r).1,(dP _ _ _ r).2];exact h.c.vr r hr
 ·
  obtain⟨r,hr,rfl⟩:=List.mem_map.1 jg;rw [show(dT b G true).ak=b.ak.map (cO b.ad G true) from rfl,eS] at zK;obtain⟨ra,kq,rfl⟩:=Option.map_eq_some_iff.1 zK;rw [(dP _ _ _ r).2] at ha;rw [hm,(j6 _ _ _ ra).1,(j6 _ _ _ ra).2];exact h.c.rr r hr a ha hi ra kq
 ·
  obtain⟨r,hr,rfl⟩:=List.mem_map.1 jg;rw [show(dT b G true).ak=b.ak.map (cO b.ad G true) from rfl,eS] at zK;obtain⟨ra,kq,rfl⟩:=Option.map_eq_some_iff.1 zK;rw [(dP _ _ _ r).2] at ha;rw [(dP _ _ _ r).1] at hc;rw [hm,hm];exact h.c.rs r hr hc a ha hi ra kq
 ·
  obtain⟨r,hr,rfl⟩:=List.mem_map.1 jg;rw [(dP _ _ _ r).1];exact h.kr r hr
 obtain⟨r,hr,rfl⟩:=List.mem_map.1 jg;rw [hm]
 by_cases e:r.key∈G
 ·
  obtain⟨q,g1,_,g2⟩:=hG _ e;rw [lM h.st hr] at g1
  have:=Option.some.inj g1
  subst this;exact g2
 unfold cO at hd
 rw [if_neg e] at hd;exact h.dv r hr hd
theorem Bi.put(hR:aw ab) (h:Bi ab H on b) {i:Nat}(hi:i<ab.length) (IY:aA (aN ab (i:Int))=true→on (aN ab (i:Int))=true)
  (Kl:∀a∈eb ab b.ae i,az a=true∨(on a=true∧aA a=true)∨aK b a=true) :
  Bi ab H on {b with ak:=fR b.ak (dK b (aN ab (i:Int)) (valOf ab b.ae (aN ab (i:Int))) (eb ab b.ae i))}:=by
 have rT:=hR.len
 generalize hq:dK b (aN ab (i:Int)) (valOf ab b.ae (aN ab (i:Int))) (eb ab b.ae i)=q
 have q1:q.key=aN ab (i:Int):=by rw [← hq];rfl
 have q2:q.ax=b.ad:=by rw [← hq];rfl
 have q3:q.value=valOf ab b.ae (aN ab (i:Int)):=by rw [← hq];rfl
 have q4:q.reads=eb ab b.ae i:=by rw [← hq];rfl
 have q5:(∃r,aC b.ak q.key=some r∧r.value=q.value∧q.changed=r.changed)∨q.changed=b.ad:=by
  rw [← hq]
  unfold dK
  simp only
  split
  ·
   rename_i hc
   simp only [Bool.and_eq_true,decide_eq_true_eq] at hc;obtain⟨r,hr⟩:=Option.isSome_iff_exists.1 hc.1;rw [bC hr] at hc ⊢;exact .inl ⟨r,hr,hc.2,rfl⟩
  exact .inr rfl
 refine⟨⟨h.c.now,h.c.iB,fun r hr=>?_,fun r hr=>?_,fun r hr a ha QX ra kq=>?_,fun r hr hc a ha QX ra kq=>?_⟩,vK.put h.st,fun r hr=>?_,fun r hr hd=>?_⟩
 ·
  rcases iM _ _ _ _ hr with rfl | hr
  ·
   refine⟨by rw [q2];exact Int.le_refl _,?_⟩
   rcases q5 with⟨p,hp,_,e⟩ | e
   ·
    have:=h.c.KP p (aX hp).1
    omega
   omega
  exact h.c.KP r hr
 ·
  rcases iM _ _ _ _ hr with rfl | hr
  ·
   rw [q1,q2,q3,q4,h.c.now,jS hR hi];exact⟨rfl,rfl⟩
  exact h.c.vr r hr
 ·
  rw [show({b with ak:=fR b.ak q}:dQ).ak=fR b.ak q from rfl,gk] at kq
  show(r.ax=b.ad∧_)∨_
  rcases iM _ _ _ _ hr with rfl | hr
  ·
   by_cases e:a=r.key
   ·
    refine .inl ⟨q2,?_⟩;rw [e,q1];refine IY ?_;rw [q4] at ha;rw [ck hi (by omega)]
    cases hrg:aD ab i with
    | true=>rfl
    | false=>
     rcases tp hR hi a ha with⟨n,hn,h1⟩ | ⟨j,hj,h1,_,h5,_⟩
     ·
      grind [cE]
     grind [fq]
   rw [if_neg e] at kq
   rcases Kl a (by rw [← q4];exact ha) with h1 | h1 | h1
   ·
    rw [QX] at h1
    cases h1
   ·
    exact .inl ⟨q2,h1.1⟩
   refine .inr fun _=>?_;obtain⟨p,hp,_,ig⟩:=h.c.up h1;rw [kq] at hp
   have:=Option.some.inj hp
   subst this;rw [q2,h.c.now];exact ig.symm
  by_cases e:a=q.key
  ·
   rw [if_pos e] at kq
   have:=Option.some.inj kq
   subst this
   rcases q5 with⟨p,hp,e2,e3⟩ | e2
   ·
    rcases h.c.rr r hr a ha QX p (by rw [e];exact hp) with h1 | h1
    ·
     exact .inl h1
    grind
   refine .inr fun hc=>?_;have h1:=(h.c.KP r hr).1
   have hv:r.ax=b.ad:=by omega
   rw [hv,h.c.now,q3,e,q1]
  rw [if_neg e] at kq;exact h.c.rr r hr a ha QX ra kq
 ·
  rw [show({b with ak:=fR b.ak q}:dQ).ak=fR b.ak q from rfl,gk] at kq
  show(r.ax=b.ad∧_)∨_
  rcases iM _ _ _ _ hr with rfl | hr
  ·
   by_cases e:a=r.key
   ·
    grind
   rw [if_neg e] at kq
   rcases Kl a (by rw [← q4];exact ha) with h1 | h1 | h1
   ·
    obtain⟨j,hj,ej⟩:=h.kr ra (aX kq).1;rw [← (aX kq).2,ej,eG hj (by omega)] at h1
    cases h1
   ·
    exact .inl ⟨q2,h1.1⟩
   grind [cL]
  by_cases e:a=q.key
  ·
   rw [if_pos e] at kq
   have:=Option.some.inj kq
   subst this
   have:=(h.c.KP r hr).1
   exact .inr (by omega)
  rw [if_neg e] at kq;exact h.c.rs r hr hc a ha QX ra kq
 ·
  rcases iM _ _ _ _ hr with rfl | hr
  ·
   exact⟨i,hi,q1⟩
  exact h.kr r hr
 rcases iM _ _ _ _ hr with rfl | hr
 ·
  have:r.bU=false:=by rw [← hq];rfl
  rw [this] at hd
  cases hd
 exact h.dv r hr hd
end
end Go.Rc

namespace Go.Rc
open Go
def R1(val:Key→ByteArray) (b:dQ) (y:Key):Prop:=∃m a,m∈aB b.ak b.ad y∧a∈(aH b.ak m).reads∧a∉aB b.ak b.ad y∧(aH b.ak m).ax<bp val b a
def OH(val:Key→ByteArray) (b:dQ) (y:Key):Prop:=az y=false∧aK b y=false∧(aC b.ak y=none∨(aH b.ak y).bU=true∨R1 val b y)
section
variable {ab:List aG}{H:Int→List dB}{on:Key→Bool}{b b0:dQ}{k:Key}{s t:ES}
def ES.FN(s:ES) (k:Key):Bool:=s.on k && aA k
theorem I6(h:s.on k=true∧aA k=true):s.FN k=true:=by grind [ES.FN]
structure Wy (ab:List aG) (b0:dQ) (s:ES):Prop where
 rev:s.b.ad=b0.ad
 aF:s.b.ae=b0.ae
 ev:kJ (valOf ab b0.ae) (fun _=>True) s.cU b0.ad b0.ak s.b.ak
 QY:∀y r,aC s.b.ak y=some r→r.bU=true→(aH b0.ak y).bU=true∨R1 (valOf ab b0.ae) b0 y
 cU:∀y∈s.cU,OH (valOf ab b0.ae) b0 y
 Un:∀y∈s.cU,aK s.b y=true
 mrk:∀y,aK b0 y=false→aK s.b y=true→y∈s.cU∨¬R1 (valOf ab b0.ae) b0 y
 mF:s.cU.Nodup
theorem sr{val:Key→ByteArray}(hi:az k=false) (h:aC b.ak k=none):bp val b k=b.ad:=by grind [bp]
theorem fW{val:Key→ByteArray}(hi:az k=false) {r:Rec}(h:aC b.ak k=some r):bp val b k=if r.ax=b.ad∨val k=r.value then r.changed else b.ad:=by
 unfold bp
 rw [hi,bC h,h]
 grind
theorem Wy.changed(hB:Bi ab H on s.b) (h:Wy ab b0 s) (a:Key):bp (valOf ab b0.ae) s.b a=bp (valOf ab b0.ae) b0 a:=by
 cases hi:az a with
 | true=>
  unfold bp
  rw [hi,if_pos rfl,if_pos rfl,h.aF]
 | false=>
  rcases h.ev.pt a with e | ⟨_,r,e1,e2,e3,e4 | e4⟩ | ⟨_,e2,r',e3,e4,e5,e6,e7,e8⟩
  ·
   cases hf:aC b0.ak a with
   | none=>grind [sr,rev]
   | some r=>rw [fW hi (e.trans hf),fW hi hf,h.rev]
  ·
   have hu:aK s.b a=true:=cL.2 ⟨_,e4,h.rev.symm⟩;obtain⟨q,hq,_,ig⟩:=hB.c.up hu;rw [e4] at hq
   have:=Option.some.inj hq
   subst this;rw [h.aF] at ig;rw [fW hi e4,fW hi e1,if_pos (.inl h.rev.symm),if_pos (.inr ig.symm)]
  ·
   rw [fW hi e4,fW hi e1,h.rev]
  rw [fW hi e3,if_pos (.inl (e4.trans h.rev.symm))]
  cases hf:aC b0.ak a with
  | none=>rw [sr hi hf,e8 hf]
  | some r=>
   rw [fW hi hf,e7 r hf,e6]
   grind
theorem Wy.Wp(hB:Bi ab H on s.b) (h:Wy ab b0 s) (hl:Live s.b.ak s.b.ad k) {m a:Key}(hm:m∈aB s.b.ak s.b.ad k) (ha:a∈(aH s.b.ak m).reads) (BF:a∉aB s.b.ak s.b.ad k)
  (hc:(aH s.b.ak m).ax<bp (valOf ab b0.ae) s.b a):∀y∈aB s.b.ak s.b.ad k,R1 (valOf ab b0.ae) b0 y:=by
 intro y hy;rw [h.rev] at hl hm BF hy;obtain⟨h1,h2⟩:=h.ev.group hl;rw [h1] at hm BF hy;have Lt:=h.ev.Ul hl
 have e:aH s.b.ak m=aH b0.ak m:=by
  unfold aH
  rw [h2 m hm]
 rw [e] at ha hc
 have hg:∀z,z∈aB b0.ak b0.ad y↔z∈aB b0.ak b0.ad k:=fun z=>by
  rcases dq.1 hy with rfl | ⟨h3,h4⟩
  ·
   exact Iff.rfl
  exact vP h3 h4 z
 exact⟨m,a,(hg m).2 hm,ha,fun h3=>BF ((hg a).1 h3),by rw [← h.changed hB a];exact hc⟩
theorem Wy.Uo(h:Wy ab b0 s) (hl:Live s.b.ak s.b.ad k) (hp:∀m∈aB s.b.ak s.b.ad k,∀a∈(aH s.b.ak m).reads,a∉aB s.b.ak s.b.ad k→bp (valOf ab b0.ae) b0 a≤(aH s.b.ak m).ax):∀y∈aB s.b.ak s.b.ad k,¬R1 (valOf ab b0.ae) b0 y:=by
 rintro y hy ⟨m,a,hm,ha,BF,hc⟩;rw [h.rev] at hl hp hy;obtain⟨h1,h2⟩:=h.ev.group hl;rw [h1] at hp hy
 have hg:∀z,z∈aB b0.ak b0.ad y↔z∈aB b0.ak b0.ad k:=fun z=>by
  rcases dq.1 hy with rfl | ⟨h3,h4⟩
  ·
   exact Iff.rfl
  exact vP h3 h4 z
 have e:aH s.b.ak m=aH b0.ak m:=by grind [aH]
 grind
theorem Wy.none(h:Wy ab b0 s) (hf:aC s.b.ak k=none):aC b0.ak k=none:=by
 rcases h.ev.pt k with e | ⟨_,r,e1,e2,e3,e4 | e4⟩ | ⟨_,e2,r',e3,_⟩
 ·
  exact e.symm.trans hf
 ·
  rw [hf] at e4;cases e4
 ·
  rw [hf] at e4;cases e4
 rw [hf] at e3;cases e3
theorem kJ.aK{val:Key→ByteArray}{N:Key→Prop}{cU:List Key}{b b':dQ}(h:kJ val N cU b.ad b.ak b'.ak) (hr:b'.ad=b.ad) (hu:Rc.aK b k=true):Rc.aK b' k=true:=by
 obtain⟨r,h1,h2⟩:=cL.1 hu
 rcases h.pt k with e | ⟨_,q,e1,e2,e3,_⟩ | ⟨_,e2,_⟩
 ·
  exact cL.2 ⟨r,e.trans h1,h2.trans hr.symm⟩
 ·
  grind
 have:=e2 r h1
 omega
theorem KS{G:List Key}(hu:Rc.aK b k=false) (I7:Rc.aK (dT b G false) k=true):k∈G:=by
 obtain⟨r',h1,h2⟩:=cL.1 I7;have h1':(aC b.ak k).map (cO b.ad G false)=some r':=eS.symm.trans h1;obtain⟨r,hr,rfl⟩:=Option.map_eq_some_iff.1 h1';have e:=(aX hr).2;refine Classical.byContradiction fun hk=>?_
 unfold cO at h2
 rw [if_neg (by rw [e];exact hk)] at h2
 have:=cL.2 ⟨r,hr,h2⟩
 rw [hu] at this
 cases this
theorem GP{G:List Key}:Rc.aK (dT b G true) k=Rc.aK b k:=by
 have e:aC (dT b G true).ak k=(aC b.ak k).map (cO b.ad G true):=eS
 have hm:∀r:Rec,(cO b.ad G true r).ax=r.ax:=fun r=>by
  unfold cO
  grind
 rw [Bool.eq_iff_iff,cL,cL,e]
 constructor
 ·
  rintro⟨r',h1,h2⟩;obtain⟨r,hr,rfl⟩:=Option.map_eq_some_iff.1 h1;rw [hm] at h2;exact⟨r,hr,h2⟩
 rintro⟨r,h1,h2⟩;exact⟨_,by rw [h1];rfl,by rw [hm];exact h2⟩
theorem CY{l:List Key}(h:l.Nodup) (hk:k∉l):(l++[k]).Nodup:=by grind
theorem Wy.step{s':ES}(h:Wy ab b0 s) (h1:s'.b.ad=s.b.ad) (h2:s'.b.ae=s.b.ae) (dO:kJ (valOf ab b0.ae) (fun _=>True) s'.cU b0.ad s.b.ak s'.b.ak) (hr:∀y∈s.cU,y∈s'.cU)
  (hd:∀y r,aC s'.b.ak y=some r→r.bU=true→(aH b0.ak y).bU=true∨R1 (valOf ab b0.ae) b0 y) (hw:∀y∈s'.cU,OH (valOf ab b0.ae) b0 y) (hn:∀y∈s'.cU,y∈s.cU∨Rc.aK s'.b y=true)
  (hm:∀y,Rc.aK s.b y=false→Rc.aK s'.b y=true→y∈s'.cU∨¬R1 (valOf ab b0.ae) b0 y) (wL:s'.cU.Nodup):Wy ab b0 s':=by
 have qF:kJ (valOf ab b0.ae) (fun _=>True) s'.cU s.b.ad s.b.ak s'.b.ak:=by rw [h.rev];exact dO
 refine⟨h1.trans h.rev,h2.trans h.aF,(h.ev.mono hr fun _ h=>h).trans dO,hd,hw,fun y hy=>?_,fun y hu I7=>?_,wL⟩
 ·
  rcases hn y hy with h3 | h3
  ·
   exact qF.aK h1 (h.Un y h3)
  exact h3
 cases hs:Rc.aK s.b y with
 | true=>exact(h.mrk y hu hs).imp (hr y) id
 | false=>exact hm y hs I7
theorem Wy.zL(h:Wy ab b0 s) (hu:aK s.b k=false):aK b0 k=false:=by
 cases hb:aK b0 k with
 | false=>rfl
 | true=>
  have:=h.ev.aK h.rev hb
  rw [hu] at this
  cases this
theorem zM(h:aC b.ak k=none):aK b k=false:=by
 unfold aK
 rw [h]
 rfl
theorem mC{r:Rec}(h:aC b.ak k=some r) (hv:r.ax<b.ad):aK b k=false:=by grind [cL]
theorem Bi.answer(hB:Bi ab H on b) (hk:gA ab k) (ht:az k=true∨aA k=true∨aK b k=true):dC (valOf ab b.ae) b k=valOf ab b.ae k:=by
 unfold dC
 by_cases hc:aA k=true
 ·
  rw [if_pos hc]
 rw [if_neg hc]
 unfold uw
 by_cases hi:az k=true
 ·
  rw [if_pos hi]
  unfold valOf cellOf
  rw [if_pos hi]
 rw [if_neg hi]
 have hu:aK b k=true:=by grind
 obtain⟨r,hf,hv,ig⟩:=hB.c.up hu
 have ho:nV b k=true:=by grind [nV,bC]
 rw [if_pos ho,bC hf,ig]
theorem uD(h:fB s k=true):az k=true∨(s.on k=true∧aA k=true)∨aK s.b k=true:=by
 unfold fB at h
 grind
theorem OI(h:az k=true∨(s.on k=true∧aA k=true)∨aK s.b k=true):fB s k=true:=by
 unfold fB
 grind
theorem Bi.len(hB:Bi ab H on b):b.ak.length≤ab.length:=by
 have h1:(b.ak.map (·.key)).Nodup:=by
  refine List.pairwise_map.2 (hB.st.imp fun {x y} h e=>?_);rw [e,lh] at h
  omega
 have h2:=iL (S:=(List.range ab.length).map fun i:Nat=>aN ab (i:Int)) h1 fun x hx=>by
  obtain⟨r,hr,rfl⟩:=List.mem_map.1 hx;obtain⟨i,hi,e⟩:=hB.kr r hr
  grind
 simpa using h2
/-! ### the order of what is asked -/
theorem vQ(hR:aw ab) {aF:List dB}{i:Nat}(hi:i<ab.length) {a:Key}(ha:a∈eb ab aF i):gi ab i a∧∀m:Nat,m<ab.length→a=aN ab (m:Int)→Lw ab m (qA ab i)∧∀b,Lw ab i b→Lw ab m b:=by grind [List.mem_iff_getElem?,zy,ll,KI,uB,tu]
theorem Me(hR:aw ab) {aF:List dB}{i:Nat}(hi:i<ab.length) (hr:aD ab i=true) {a:Key}(ha:a∈eb ab aF i) (hc:aA a=true):∃j:Nat,j<ab.length∧a=aN ab (j:Int)∧gZ ab i j:=by grind [List.mem_iff_getElem?,zy,ll,fA,uB,tu,k7,jR]
theorem xh(hR:aw ab) (hB:Bi ab H on b) {i:Nat}(hi:i<ab.length) (ho:cI b.ak b.ad (aN ab (i:Int))=true) {x:Key}(hl:cD b.ak b.ad (aN ab (i:Int)) x):∃j:Nat,j<ab.length∧x=aN ab (j:Int)∧dU ab i j:=by
 have rT:=hR.len
 have step:∀(m:Nat) y,m<ab.length→cI b.ak b.ad (aN ab (m:Int))=true→Ld b.ak b.ad (aN ab (m:Int)) y→∃j:Nat,j<ab.length∧y=aN ab (j:Int)∧gZ ab m j:=by
  intro m y hm hom hy;obtain⟨r,h1,h2,h3,h4⟩:=cx.1 hom;obtain⟨q,g1,g2,_⟩:=cx.1 hy.2;have ha:=hy.1;rw [bC h1,(hB.c.vr r (aX h1).1).2,(aX h1).2,jS hR hm] at ha
  grind [ck,Me]
 induction hl with
 | one h1=>
  obtain⟨j,h2,h3,h4⟩:=step i _ hi ho h1;exact⟨j,h2,h3,.step .refl h4⟩
 | step h1 h2 ih=>
  obtain⟨j,h3,rfl,h4⟩:=ih;obtain⟨q,h5,h6,h7⟩:=step j _ h3 h1.iE h2;exact⟨q,h5,h6,.step h4 h7⟩
theorem KT(hR:aw ab) (hB:Bi ab H on b) {i j:Nat}(hi:i<ab.length) (hj:j<ab.length) (hl:Live b.ak b.ad (aN ab (i:Int))) (hm:aN ab (j:Int)∈aB b.ak b.ad (aN ab (i:Int))):qA ab j=qA ab i∧∀b,Lw ab i b→Lw ab j b:=by
 have rT:=hR.len
 rcases dq.1 hm with e | ⟨ho,m1,m2⟩
 ·
  have:=fq hR hj hi e
  grind
 obtain⟨q,hq,eq,h1⟩:=xh hR hB hi ho m1
 have:=fq hR hj hq eq
 subst this;obtain⟨p,hp,ep,h2⟩:=xh hR hB hj m1.iE m2
 have:=fq hR hi hp ep
 subst this;have h3:=mP hR h1;have h4:=mP hR h2;obtain⟨_,_,c1,_⟩:=cx.1 ho;obtain⟨_,_,c2,_⟩:=cx.1 m1.iE;rw [ck hi (by omega)] at c1;rw [ck hj (by omega)] at c2
 unfold qA Lw
 grind
end
/-! ### a request -/
section
variable {ab:List aG}{H:Int→List dB}{b0:dQ}
structure Rs (ab:List aG) (H:Int→List dB) (b0:dQ) (N:Key→Prop) (s s':ES):Prop where
 e:s'.e=0
 bi:Bi ab H s.FN s'.b
 ev:kJ (valOf ab b0.ae) N s'.cU b0.ad s.b.ak s'.b.ak
 wy:Wy ab b0 s'
theorem Rs.refl{N:Key→Prop}{s:ES}(he:s.e=0) (hB:Bi ab H s.FN s.b) (hW:Wy ab b0 s):Rs ab H b0 N s s:=⟨he,hB,.refl _,hW⟩
theorem Rs.trans{N:Key→Prop}{s t u:ES}(h:Rs ab H b0 N s t) (h2:Rs ab H b0 N t u) (hr:∀y∈t.cU,y∈u.cU) (ho:∀k,t.on k=s.on k):Rs ab H b0 N s u:=
 ⟨h2.e,h2.bi.Um fun k hk=>by grind [ES.FN],(h.ev.mono hr fun _ h=>h).trans h2.ev,h2.wy⟩
def Ps(ab:List aG) (H:Int→List dB) (b0:dQ) (s:ES) (k:Key) (n:Nat):Prop:=
 Live s.b.ak s.b.ad k→∀j c,j<n→(bP s.b.ak (aB s.b.ak s.b.ad k))[j]?=some c→
  valOf ab (H (aH s.b.ak c.eR).ax) c.read=valOf ab b0.ae c.read∧(az c.read=true∨(s.on c.read=true∧aA c.read=true)∨aK s.b c.read=true)∧bp (valOf ab b0.ae) b0 c.read≤(aH s.b.ak c.eR).ax
theorem zN{val:Key→ByteArray}:∀f,(∀s k s',mc ab val f s k=some s'→∀y∈s.cU,y∈s'.cU)∧(∀s k n s' b,dI ab val f s k n=some (s',b)→∀y∈s.cU,y∈s'.cU)∧(∀s k r a s',ib ab val f s k r a=some s'→∀y∈s.cU,y∈s'.cU):=by
 intro f
 induction f with
 | zero=>grind [mc,dI,ib]
 | succ f ih=>
  obtain⟨LX,FM,Ie⟩:=ih;refine⟨?_,?_,?_⟩
  ·
   intro s k s' h y hy
   unfold mc at h
   split at h
   ·
    cases h;exact hy
   split at h
   ·
    cases h;exact hy
   split at h
   ·
    grind
   obtain⟨p,hp,h⟩:=Option.bind_eq_some_iff.1 h;obtain⟨t,ht,h⟩:=Option.bind_eq_some_iff.1 h
   cases h
   have h1:=FM _ _ _ p.1 p.2 hp y hy
   grind
  ·
   grind [dI,Option.bind_eq_some_iff]
  grind [ib,Option.bind_eq_some_iff]
def UpR(ab:List aG) (H:Int→List dB) (b0:dQ) (f:Nat):Prop:=∀s k s',mc ab (valOf ab b0.ae) f s k=some s'→Good ab b0.ae s→s.e=0→Bi ab H s.FN s.b→Wy ab b0 s→gA ab k→(∀i:Nat,i<ab.length→k=aN ab (i:Int)→ahG ab s i)→Rs ab H b0 (fun y=>s.on y=false) s s'
def ChR(ab:List aG) (H:Int→List dB) (b0:dQ) (f:Nat):Prop:=∀s (i n:Nat) s' c,dI ab (valOf ab b0.ae) f s (aN ab (i:Int)) n=some (s',c)→Good ab b0.ae s→s.e=0→Bi ab H s.FN s.b→Wy ab b0 s→i<ab.length→s.on (aN ab (i:Int))=true→OnR ab s i→Ps ab H b0 s (aN ab (i:Int)) n→
 Rs ab H b0 (fun y=>s.on y=false∨y=aN ab (i:Int)) s s'∧(c=true→cI s'.b.ak b0.ad (aN ab (i:Int))=false∧aK s'.b (aN ab (i:Int))=false∧OH (valOf ab b0.ae) b0 (aN ab (i:Int)))
def RuR(ab:List aG) (H:Int→List dB) (b0:dQ) (f:Nat):Prop:=∀s (i n:Nat) s',ib ab (valOf ab b0.ae) f s (aN ab (i:Int)) (gh (dw ab (aN ab (i:Int))) (valOf ab b0.ae) n).1 (gh (dw ab (aN ab (i:Int))) (valOf ab b0.ae) n).2=some s'→Good ab b0.ae s→s.e=0→Bi ab H s.FN s.b→Wy ab b0 s→i<ab.length→n≤dV ab i→s.on (aN ab (i:Int))=true→OnR ab s i→
 cI s.b.ak b0.ad (aN ab (i:Int))=false→aK s.b (aN ab (i:Int))=false→OH (valOf ab b0.ae) b0 (aN ab (i:Int))→(∀a∈(gh (dw ab (aN ab (i:Int))) (valOf ab b0.ae) n).1,fB s a=true)→
 Rs ab H b0 (fun y=>s.on y=false∨y=aN ab (i:Int)) s s'
theorem Bi.lH{s t:ES}(h:Bi ab H s.FN t.b) (hk:kc s t):Bi ab H t.FN t.b:=h.Um fun k Ni=>by grind [ES.FN,kc.on]
theorem OnR.lH{s t:ES}{i:Nat}(h:OnR ab s i) (hk:kc s t):OnR ab t i:=fun j hj KU=>h j hj (by rw [← hk.on];exact KU)
theorem Rs.mono{N N':Key→Prop}{s s':ES}(h:Rs ab H b0 N s s') (hN:∀y,N y→N' y):Rs ab H b0 N' s s':=⟨h.e,h.bi,h.ev.mono (fun _ h=>h) hN,h.wy⟩
theorem xj(rev:Int) (G:List Key) (r:Rec):(cO rev G false r).bU=r.bU:=by
 unfold cO
 grind
theorem D1(hR:aw ab):∀f,UpR ab H b0 f∧ChR ab H b0 f∧RuR ab H b0 f:=by
 have rT:=hR.len;intro f
 induction f with
 | zero=>exact⟨fun s k s' h=>by simp [mc] at h,fun s i n s' c h=>by simp [dI] at h,fun s i n s' h=>by simp [ib] at h⟩
 | succ f ih=>
  obtain⟨LX,FM,Ie⟩:=ih;have gd:=dm (val:=valOf ab b0.ae) (aF:=b0.ae) hR f;have kp:=j5 (val:=valOf ab b0.ae) (aF:=b0.ae) hR f;have rn:=zN (ab:=ab) (val:=valOf ab b0.ae) f;refine⟨?_,?_,?_⟩
  ·
   intro s k s' h hg he hB hW hk IY
   unfold mc at h
   split at h
   ·
    cases h;exact .refl he hB hW
   rename_i QM
   have qv:az k=false:=by simp at QM;exact QM.2
   split at h
   ·
    cases h;exact .refl he hB hW
   rename_i hu
   obtain⟨i,hi,rfl,_⟩:=hk.jI qv
   split at h
   ·
    rename_i ho
    split at h
    ·
     cases h;exact .refl he hB hW
    rename_i hc
    have h1:=IY i hi rfl i hi ho
    grind [ck,Lw,qA]
   rename_i ho
   have H9:s.on (aN ab (i:Int))=false:=by simpa using ho
   obtain⟨⟨s2,c2⟩,hp,h⟩:=Option.bind_eq_some_iff.1 h;obtain⟨s3,ht,h⟩:=Option.bind_eq_some_iff.1 h;simp only [Option.some.injEq] at h;subst h;have Wq:∀y,ES.on {s with busy:=dF s.busy (aN ab (i:Int)) (.bool true)} y=(decide (aN ab (i:Int)=y) || s.on y):=fun y=>qy s _ y;have pj:=hg.on (aN ab (i:Int))
   generalize nt:({s with busy:=dF s.busy (aN ab (i:Int)) (.bool true)}:ES)=s1 at hp Wq pj
   have e1:s1.b=s.b:=by rw [← nt]
   have e2:s1.cU=s.cU:=by rw [← nt]
   have e3:s1.e=0:=by rw [← nt];exact he
   have abO:s1.on (aN ab (i:Int))=true:=by rw [Wq];simp
   have hB1:Bi ab H s1.FN s1.b:=by
    rw [e1];refine hB.Um fun y hy=>?_
    unfold ES.FN at hy ⊢
    grind
   have hW1:Wy ab b0 s1:=⟨by rw [e1];exact hW.rev,by rw [e1];exact hW.aF,by rw [e1,e2];exact hW.ev,by rw [e1];exact hW.QY,by rw [e2];exact hW.cU,by rw [e1,e2];exact hW.Un,by rw [e1,e2];exact hW.mrk,by rw [e2];exact hW.mF⟩
   have js:OnR ab s1 i:=fun j hj KU=>by
    rw [Wq] at KU;simp only [Bool.or_eq_true,decide_eq_true_eq] at KU
    rcases KU with KU | KU
    ·
     exact .inl (fq hR hj hi KU.symm)
    exact .inr (IY i hi rfl j hj KU)
   obtain⟨c1,c3⟩:=FM s1 i 0 s2 c2 hp pj e3 hB1 hW1 hi abO js fun _ j c hj=>by omega
   obtain⟨k1,k2,_⟩:=kp.2.1 _ _ _ _ _ hp pj;have CK:=(gd.2.1 _ _ _ _ _ hp pj).1
   have key:Rs ab H b0 (fun y=>s1.on y=false∨y=aN ab (i:Int)) s1 s3∧aK s3.b (aN ab (i:Int))=true:=by
    cases c2 with
    | false=>
     simp only [Bool.false_eq_true,if_false,Option.some.injEq] at ht;subst ht;exact⟨c1,(k2 c1.e).2 rfl⟩
    | true=>
     simp only [if_true] at ht;obtain⟨d1,d2,d3⟩:=c3 rfl
     have r2:=Ie s2 i 0 s3 ht CK c1.e (c1.bi.lH k1) c1.wy hi (Nat.zero_le _) (by rw [k1.on];exact abO) (js.lH k1) d1 d2 d3 fun a ha=>by simp [gh] at ha
     refine⟨c1.trans (r2.mono fun y hy=>by rw [← k1.on];exact hy) (rn.2.2 _ _ _ _ _ ht) k1.on,?_⟩;exact((kp.2.2 _ _ _ _ _ ht CK (hk.jI qv)).2.1 r2.e).2
   obtain⟨r3,hu3⟩:=key;refine⟨r3.e,?_,?_,⟨r3.wy.rev,r3.wy.aF,r3.wy.ev,r3.wy.QY,r3.wy.cU,r3.wy.Un,r3.wy.mrk,r3.wy.mF⟩⟩
   ·
    refine r3.bi.off hu3 fun y hy=>?_
    unfold ES.FN at hy ⊢
    grind
   have:=r3.ev
   rw [e1] at this;refine this.mono (fun _ h=>h) fun y hy=>?_
   grind
  ·
   intro s i n s' c h hg he hB hW hi eX R2 Nu;have qv:az (aN ab (i:Int))=false:=eG hi (by omega)
   unfold dI at h
   rw [if_neg (by simp [he])] at h
   split at h
   ·
    rename_i hc
    simp only [Option.some.injEq,Prod.mk.injEq] at h;obtain⟨rfl,rfl⟩:=h;refine⟨.refl he hB hW,fun _=>?_⟩
    cases hf:aC s.b.ak (aN ab (i:Int)) with
    | none=>
     refine⟨?_,zM hf,qv,hW.zL (zM hf),.inl (hW.none hf)⟩;rw [Bool.eq_false_iff]
     grind [cx]
    | some r=>
     rw [hf,bC hf] at hc
     have hd:r.bU=true:=by simpa using hc
     have hv:=hB.dv r (aX hf).1 hd;refine⟨?_,mC hf hv,qv,hW.zL (mC hf hv),.inr (hW.QY _ r hf hd)⟩;rw [Bool.eq_false_iff]
     grind [cx]
   rename_i hc
   split at h
   ·
    simp only [Option.some.injEq,Prod.mk.injEq] at h;obtain⟨rfl,rfl⟩:=h;exact⟨.refl he hB hW,fun e=>by cases e⟩
   rename_i hv
   have hl:Live s.b.ak s.b.ad (aN ab (i:Int)):=by
    cases hf:aC s.b.ak (aN ab (i:Int)) with
    | none=>rw [hf] at hc;simp at hc
    | some r=>
     rw [hf,bC hf] at hc;rw [bC hf] at hv;have h1:=(hB.c.KP r (aX hf).1).1;exact⟨r,hf,by simpa using hc,by omega⟩
   have Nu:=Nu hl
   have abP:aK s.b (aN ab (i:Int))=false:=by
    obtain⟨r,h1,_,h2⟩:=hl;exact mC h1 h2
   split at h
   ·
    rename_i hn
    simp only [Option.some.injEq,Prod.mk.injEq] at h;obtain⟨rfl,rfl⟩:=h
    have hp:∀m∈aB s.b.ak s.b.ad (aN ab (i:Int)),∀a∈(aH s.b.ak m).reads,a∉aB s.b.ak s.b.ad (aN ab (i:Int))→valOf ab (H (aH s.b.ak m).ax) a=valOf ab s.b.ae a∧(az a=true∨(s.FN a=true∧aA a=true)∨aK s.b a=true):=fun m hm a ha BF=>by
     have kL:(⟨m,a⟩:si)∈bP s.b.ak (aB s.b.ak s.b.ad (aN ab (i:Int))):=eH.2 ⟨hm,ha,BF⟩;obtain⟨j,hj⟩:=List.mem_iff_getElem?.1 kL;have h1:=(List.getElem?_eq_some_iff.1 hj).1;have h2:=List.getElem?_eq_none_iff.1 hn;have h3:=Nu j ⟨m,a⟩ (by omega) hj;rw [hW.aF];exact⟨h3.1,h3.2.1.imp id (Or.imp (fun p=>⟨I6 p,p.2⟩) id)⟩
    have wL:=hW.Uo hl fun m hm a ha BF=>by
     have kL:(⟨m,a⟩:si)∈bP s.b.ak (aB s.b.ak s.b.ad (aN ab (i:Int))):=eH.2 ⟨hm,ha,BF⟩;obtain⟨j,hj⟩:=List.mem_iff_getElem?.1 kL;have h1:=(List.getElem?_eq_some_iff.1 hj).1;have h2:=List.getElem?_eq_none_iff.1 hn;exact(Nu j ⟨m,a⟩ (by omega) hj).2.2
    have dO:∀N:Key→Prop,N (aN ab (i:Int))→kJ (valOf ab b0.ae) N s.cU b0.ad s.b.ak (dT s.b (aB s.b.ak s.b.ad (aN ab (i:Int))) false).ak:=fun N hN=>by
     rw [← hW.rev];exact kJ.mark hl false (.inr hN)
    refine⟨⟨he,hB.mark hR hl hp,dO _ (.inr rfl),hW.step rfl rfl (dO _ trivial) (fun _ h=>h) (fun y r' hf hd=>?_) hW.cU (fun _ h=>.inl h) (fun y hu I7=>.inr (wL y (KS hu I7))) hW.mF⟩,fun e=>by cases e⟩;have D2:(aC s.b.ak y).map (cO s.b.ad (aB s.b.ak s.b.ad (aN ab (i:Int))) false)=some r':=eS.symm.trans hf;obtain⟨r,hr,rfl⟩:=Option.map_eq_some_iff.1 D2;rw [xj] at hd;exact hW.QY y r hr hd
   rename_i c0 Nv
   obtain⟨hm,ha,BF⟩:=eH.1 (List.mem_of_getElem? Nv);obtain⟨j,hj,ej⟩:=hB.key (mj hl hm);obtain⟨rm,g1,g2,g3⟩:=mj hl hm;have pN:gA ab c0.read:=iF hg Nv
   split at h
   ·
    obtain⟨t,ht,h⟩:=Option.bind_eq_some_iff.1 h
    have BG:=vQ hR (aF:=H rm.ax) hj (a:=c0.read) (by
     have h1:=(hB.c.vr rm (aX g1).1).2;rw [(aX g1).2,ej,jS hR hj] at h1
     grind [bC])
    have r1:=LX s c0.read t ht hg he hB hW pN fun q hq eq p hp hpo=>by
     obtain⟨h4,h5⟩:=BG.2 q hq eq;obtain⟨g4,g5⟩:=KT hR hB hi hj hl (ej ▸ hm)
     rcases R2 p hp hpo with rfl | h6
     ·
      rw [← g4];exact h4
     exact h5 _ (g5 _ h6)
    obtain⟨k1,_,_⟩:=kp.1 _ _ _ ht hg pN;have gt:=(gd.1 _ _ _ ht hg pN).1;have e1:t.b.ad=s.b.ad:=r1.wy.rev.trans hW.rev.symm
    have dO:kJ (valOf ab b0.ae) (fun y=>s.on y=false) t.cU s.b.ad s.b.ak t.b.ak:=by
     rw [hW.rev];exact r1.ev
    obtain⟨r2,r3⟩:=FM t i n s' c h gt r1.e (r1.bi.lH k1) r1.wy hi (by rw [k1.on];exact eX) (R2.lH k1) fun ee j' c' hjn OJ=>by
     rw [e1] at ee OJ;rw [dO.OG ee] at OJ;obtain⟨p1,p2,p3⟩:=Nu j' c' hjn OJ;have QS:=(eH.1 (List.mem_of_getElem? OJ)).1
     have e3:aH t.b.ak c'.eR=aH s.b.ak c'.eR:=by
      unfold aH
      rw [(dO.group ee).2 _ QS]
     rw [e3];refine⟨p1,?_,p3⟩
     rcases p2 with p | p | p
     ·
      exact .inl p
     ·
      grind [kc.on]
     exact .inr (.inr (k1.up _ p))
    exact⟨(r1.mono fun y hy=>.inl hy).trans (r2.mono fun y hy=>by rw [← k1.on];exact hy) (rn.2.1 _ _ _ _ _ h) k1.on,r3⟩
   rename_i Kl
   have Wr:=uD (s:=s) (k:=c0.read) (by simpa using Kl)
   split at h
   ·
    rename_i ee
    have OK:=hW.Wp hB hl hm ha BF ee;have I8:OH (valOf ab b0.ae) b0 (aN ab (i:Int)):=⟨qv,hW.zL abP,.inr (.inr (OK _ lL))⟩;simp only [Option.some.injEq,Prod.mk.injEq] at h;obtain⟨h,rfl⟩:=h
    cases tq:aA (aN ab (i:Int)) with
    | false=>
     rw [tq] at h;simp only [Bool.false_eq_true,if_false] at h;subst h;refine⟨.refl he hB hW,fun _=>⟨?_,abP,I8⟩⟩;rw [Bool.eq_false_iff]
     grind [cx]
    | true=>
     rw [tq] at h;simp only [if_true] at h;subst h
     have dO:∀N:Key→Prop,kJ (valOf ab b0.ae) N s.cU b0.ad s.b.ak (dT s.b (aB s.b.ak s.b.ad (aN ab (i:Int))) true).ak:=fun N=>by
      rw [← hW.rev];exact kJ.mark hl true (.inl tq)
     obtain⟨r,f1,f2,f3⟩:=hl
     have hfk:aC (dT s.b (aB s.b.ak s.b.ad (aN ab (i:Int))) true).ak (aN ab (i:Int))=some {r with bU:=true}:=by
      refine eS.trans ?_;rw [f1]
      show some (cO _ _ _ r)=_
      unfold cO
      rw [if_pos (by rw [(aX f1).2];exact lL)]
      rfl
     refine⟨⟨he,hB.bU fun m hm=>mj ⟨r,f1,f2,f3⟩ hm,dO _,hW.step rfl rfl (dO _) (fun _ h=>h) (fun y r' hf hd=>?_) hW.cU (fun _ h=>.inl h) (fun y hu I7=>by grind [GP]) hW.mF⟩,fun _=>⟨?_,mC hfk f3,I8⟩⟩
     ·
      have D2:(aC s.b.ak y).map (cO s.b.ad (aB s.b.ak s.b.ad (aN ab (i:Int))) true)=some r':=eS.symm.trans hf;obtain⟨q,hq,rfl⟩:=Option.map_eq_some_iff.1 D2
      by_cases hy:y∈aB s.b.ak s.b.ad (aN ab (i:Int))
      ·
       exact .inr (OK y hy)
      unfold cO at hd
      rw [if_neg (by rw [(aX hq).2];exact hy)] at hd;exact hW.QY y q hq hd
     rw [Bool.eq_false_iff]
     grind [cx]
   rename_i hle
   refine FM s i (n+1) s' c h hg he hB hW hi eX R2 fun _ j' c' hjn OJ=>?_
   rcases Nat.lt_or_ge j' n with ee | qk
   ·
    exact Nu j' c' ee OJ
   have:j'=n:=by omega
   subst this;rw [Nv] at OJ
   have:=Option.some.inj OJ
   subst this;refine⟨?_,Wr,by rw [← hW.changed hB c0.read];exact Int.not_lt.1 hle⟩;rw [bC g1] at hle ha ⊢;have h1:=hB.c.changed (aX g1).1 g3 ha (by rw [hW.aF];omega)
   grind [Wy.aF]
  intro s i n s' h hg he hB hW hi hn eX R2 hop mB I8 Kl
  have lC:i≤99:=by omega
  unfold ib at h
  rw [if_neg (by simp [he]),gR hi lC] at h
  rcases Nat.lt_or_ge n (dV ab i) with ee | qk
  ·
   obtain⟨a,h1,h2,h3⟩:=KI hR hi (ah:=(gh (dw ab (aN ab (i:Int))) (valOf ab b0.ae) n).2) (by grind [iD]);rw [h1] at h;simp only [Bool.false_eq_true,if_false] at h;obtain⟨t,ht,h⟩:=Option.bind_eq_some_iff.1 h;have pN:=h2.QR hR
   have r1:=LX s a t ht hg he hB hW pN fun m hm We j hj KU=>by
    obtain⟨h4,h5⟩:=h3 m hm We
    rcases R2 j hj KU with rfl | h6
    ·
     exact h4
    exact h5 _ h6
   obtain⟨k1,k2,_⟩:=kp.1 _ _ _ ht hg pN;have gt:=(gd.1 _ _ _ ht hg pN).1
   have Nw:fB t a=true:=by grind [Rs.e,OI]
   have Ws:dC (valOf ab b0.ae) t.b a=valOf ab b0.ae a:=by
    rw [← r1.wy.aF];refine r1.bi.answer pN ?_
    rcases uD Nw with h4 | h4 | h4
    ·
     exact .inl h4
    ·
     exact .inr (.inl h4.2)
    exact .inr (.inr h4)
   rw [if_pos r1.e,Ws] at h
   have sq:aC t.b.ak (aN ab (i:Int))=aC s.b.ak (aN ab (i:Int)):=by
    rcases r1.ev.pt (aN ab (i:Int)) with e | ⟨e0,r,e1,e2,e3,_⟩ | ⟨⟨_,e0⟩,_⟩
    ·
     exact e
    ·
     grind [cx]
    grind
   have r2:=Ie t i (n+1) s' (by grind [gh]) gt r1.e (r1.bi.lH k1) r1.wy hi ee (by rw [k1.on];exact eX) (R2.lH k1) (by grind [cI,aH]) (by
    rw [← mB]
    unfold aK aH
    rw [sq,r1.wy.rev,hW.rev]) I8 (fun x hx=>by
    simp only [gh] at hx;rw [h1] at hx
    rcases List.mem_append.1 hx with hx | hx
    ·
     exact k1.there (Kl x hx)
    grind)
   exact(r1.mono fun y hy=>.inl hy).trans (r2.mono fun y hy=>by rw [← k1.on];exact hy) (rn.2.2 _ _ _ _ _ h) k1.on
  have kW:n=dV ab i:=by omega
  subst kW;rw [jd hR hi] at h;simp only [if_true] at h;rw [if_neg (by have:=hB.len;simp;omega)] at h;simp only [Option.some.injEq] at h;subst h;have abQ:∀a∈eb ab b0.ae i,az a=true∨(s.on a=true∧aA a=true)∨aK s.b a=true:=fun a ha=>uD (Kl a ha);have BH:=hB.put hR hi (fun hc=>I6 ⟨eX,hc⟩) (by rw [hW.aF];exact fun a ha=>(abQ a ha).imp id (Or.imp (fun p=>⟨I6 p,p.2⟩) id));rw [hW.aF] at BH
  have dO:∀N:Key→Prop,N (aN ab (i:Int))→kJ (valOf ab b0.ae) N (s.cU++[aN ab (i:Int)]) b0.ad s.b.ak (fR s.b.ak (dK s.b (aN ab (i:Int)) (valOf ab b0.ae (aN ab (i:Int))) (eb ab b0.ae i))):=fun N hN=>by
   refine kJ.put hop (fun r hr=>?_) ⟨by simp [dK],hN⟩ hW.rev rfl rfl (fun r hr=>?_) fun hn=>?_
   ·
    have h1:=(hB.c.KP r (aX hr).1).1
    have h2:r.ax≠s.b.ad:=fun e=>by
     have:aK s.b (aN ab (i:Int))=true:=cL.2 ⟨r,hr,e⟩
     grind
    have:=hW.rev
    omega
   ·
    have jg:aC s.b.ak (aN ab (i:Int))=some r:=hr
    unfold dK
    simp only [jg,bC jg,hW.rev]
    grind
   grind [dK,Wy.rev]
  refine⟨he,by show Bi ab H s.FN ⟨s.b.ad,s.b.ae,_⟩;rw [hW.aF];exact BH,dO _ (.inr rfl),hW.step rfl rfl (dO _ trivial) (fun y hy=>by simp [hy]) (fun y r hf hd=>?_) (fun y hy=>?_) (fun y hy=>?_) (fun y hu I7=>?_) (CY hW.mF fun hr=>by have:=hW.Un _ hr;rw [mB] at this;cases this)⟩
  ·
   have D2:aC (fR s.b.ak (dK s.b (aN ab (i:Int)) (valOf ab b0.ae (aN ab (i:Int))) (eb ab b0.ae i))) y=some r:=hf;rw [gk] at D2
   split at D2
   ·
    have:=Option.some.inj D2
    subst this
    cases hd
   exact hW.QY y r D2 hd
  ·
   rcases List.mem_append.1 hy with hy | hy
   ·
    exact hW.cU y hy
   grind
  ·
   rcases List.mem_append.1 hy with hy | hy
   ·
    exact .inl hy
   rw [List.mem_singleton] at hy;rw [hy];exact .inr (tk (r:=dK s.b (aN ab (i:Int)) (valOf ab b0.ae (aN ab (i:Int))) (eb ab b0.ae i)) rfl)
  refine .inl ?_
  by_cases e:y=aN ab (i:Int)
  ·
   rw [e]
   simp
  obtain⟨r,hr,hv⟩:=cL.1 I7;have jg:aC (fR s.b.ak (dK s.b (aN ab (i:Int)) (valOf ab b0.ae (aN ab (i:Int))) (eb ab b0.ae i))) y=some r:=hr;rw [gk,if_neg (show ¬y=(dK s.b (aN ab (i:Int)) (valOf ab b0.ae (aN ab (i:Int))) (eb ab b0.ae i)).key from e)] at jg
  grind [cL]
theorem KW{val:Key→ByteArray}{f:Nat}:∀{l:List Key}{s s':ES},eD ab val f s l=some s'→∀y∈s.cU,y∈s'.cU
 | [],s,s',h,y,hy=>by grind [eD]
 | k::r,s,s',h,y,hy=>by
  simp only [eD] at h;obtain⟨t,h1,h2⟩:=Option.bind_eq_some_iff.1 h;exact KW h2 y ((zN f).1 _ _ _ h1 y hy)
theorem CZ(hR:aw ab) {f:Nat}:∀{l:List Key}{s s':ES},eD ab (valOf ab b0.ae) f s l=some s'→Good ab b0.ae s→s.e=0→Bi ab H s.FN s.b→Wy ab b0 s→(∀k∈l,gA ab k)→(∀k,s.on k=false)→Rs ab H b0 (fun _=>True) s s'∧(∀k,s'.on k=false)∧(∀k,aK s.b k=true→aK s'.b k=true)∧∀k∈l,az k=false→aK s'.b k=true
 | [],s,s',h,hg,he,hB,hW,_,ho=>by
  simp only [eD,Option.some.injEq] at h;subst h;exact⟨.refl he hB hW,ho,fun _ h=>h,fun k hk=>by cases hk⟩
 | k::r,s,s',h,hg,he,hB,hW,hk,ho=>by
  simp only [eD] at h;obtain⟨t,h1,h2⟩:=Option.bind_eq_some_iff.1 h;have sn:=hk k (by simp);have Ig:=((dm (val:=valOf ab b0.ae) hR f).1 _ _ _ h1 hg sn).1;obtain⟨kp,kt,_⟩:=(j5 (val:=valOf ab b0.ae) hR f).1 _ _ _ h1 hg sn
  have r1:=(D1 (H:=H) (b0:=b0) hR f).1 s k t h1 hg he hB hW sn fun i _ _ j _ KU=>by rw [ho] at KU;cases KU
  obtain⟨r2,o2,u2,g2⟩:=CZ hR h2 Ig r1.e (r1.bi.lH kp) r1.wy (fun k Ni=>hk k (by simp [Ni])) fun k=>by rw [kp.on];exact ho k
  have qa:=KW h2;refine⟨(r1.mono fun _ _=>trivial).trans r2 qa kp.on,o2,fun y hy=>u2 y (kp.up y hy),fun q hq QZ=>?_⟩
  rcases List.mem_cons.1 hq with rfl | hq
  ·
   refine u2 _ ?_
   rcases(kt r1.e).2 with h4 | h4
   ·
    rw [QZ] at h4
    cases h4
   rcases uD h4 with h5 | h5 | h5
   ·
    rw [QZ] at h5
    cases h5
   ·
    rw [kp.on,ho] at h5
    cases h5.1
   exact h5
  exact g2 q hq QZ
end
end Go.Rc

namespace Go.Rc
open Go
def Bh(ab:List aG) (b:dQ):Prop:=∃H:Int→List dB,Bi ab H (fun _=>false) b
section
variable {ab:List aG}{H:Int→List dB}{on:Key→Bool}{x y b:dQ}{k:Key}
theorem Bh.new(ab:List aG) (rev:Int) (aF:List dB):Bh ab ⟨rev,aF,[]⟩:=
 ⟨fun _=>aF,⟨⟨rfl,fun _ _ _ _ _=>rfl,fun r hr=>(by cases hr),fun r hr=>(by cases hr),fun r hr=>(by cases hr),fun r hr=>(by cases hr)⟩,List.Pairwise.nil,fun r hr=>(by cases hr),fun r hr=>(by cases hr)⟩⟩
theorem Bi.drop(h:Bi ab H on b) {rs:List Rec}(hs:rs.Sublist b.ak) (ho:∀r∈rs,on r.key=false):Bi ab H (fun _=>false) {b with ak:=rs}:=by
 have ahR:vK rs:=h.st.sublist hs
 have hf:∀a ra,aC rs a=some ra→aC b.ak a=some ra:=fun a ra kq=>by
  obtain⟨h1,h2⟩:=aX kq
  grind [lM,st]
 refine⟨⟨h.c.now,h.c.iB,fun r hr=>h.c.KP r (hs.subset hr),fun r hr=>h.c.vr r (hs.subset hr),fun r hr a ha hi ra kq=>?_,fun r hr hc a ha hi ra kq=>?_⟩,ahR,fun r hr=>h.kr r (hs.subset hr),fun r hr=>h.dv r (hs.subset hr)⟩
 ·
  rcases h.c.rr r (hs.subset hr) a ha hi ra (hf a ra kq) with⟨_,h1⟩ | h1
  ·
   obtain⟨h2,h3⟩:=aX kq
   grind
  exact .inr h1
 rcases h.c.rs r (hs.subset hr) hc a ha hi ra (hf a ra kq) with⟨_,h1⟩ | h1
 ·
  obtain⟨h2,h3⟩:=aX kq
  grind
 exact .inr h1
theorem Bh.drop(h:Bh ab b) {rs:List Rec}(hs:rs.Sublist b.ak):Bh ab {b with ak:=rs}:=by
 obtain⟨H,h⟩:=h;exact⟨H,h.drop hs fun _ _=>rfl⟩
theorem Bh.apply(h:Bh ab x) (hr:y.ak=x.ak) (hv:y.ad=x.ad+1) (hk:∀k,db y.ae k=db x.ae k∨(db y.ae k).changed=y.ad):Bh ab y:=by
 obtain⟨H,h⟩:=h;have hH:∀t,t≤x.ad→(if t≤x.ad then H t else y.ae)=H t:=fun t ht=>if_pos ht;refine⟨fun t=>if t≤x.ad then H t else y.ae,⟨⟨?_,fun k t hi h1 h2=>?_,fun r jg=>?_,fun r jg=>?_,fun r jg a ha hi ra kq=>?_,fun r jg hc a ha hi ra kq=>?_⟩,by rw [hr];exact h.st,by rw [hr];exact h.kr,fun r jg hd=>?_⟩⟩
 ·
  grind
 ·
  by_cases ht:t≤x.ad
  ·
   show cellOf (if t≤x.ad then H t else y.ae) k=_
   rw [if_pos ht]
   rcases hk k with e | e
   ·
    rw [e] at h1;rw [h.c.iB k t hi h1 ht]
    unfold cellOf
    rw [e]
   omega
  grind
 ·
  rw [hr] at jg
  have:=h.c.KP r jg
  omega
 ·
  rw [hr] at jg;have h1:=h.c.KP r jg;rw [hH _ h1.1];exact h.c.vr r jg
 ·
  rw [hr] at jg kq;have h1:=h.c.KP r jg;rw [hH _ h1.1]
  rcases h.c.rr r jg a ha hi ra kq with⟨_,h2⟩ | h2
  ·
   cases h2
  exact .inr h2
 ·
  rw [hr] at jg kq
  rcases h.c.rs r jg hc a ha hi ra kq with⟨_,h2⟩ | h2
  ·
   cases h2
  exact .inr h2
 rw [hr] at jg
 have:=h.dv r jg hd
 omega
theorem Wy.start(b:dQ):Wy ab b ⟨b,[],[],0⟩:=⟨rfl,rfl,.refl _,fun y r hf hd=>.inl (by rw [bC hf];exact hd),fun y hy=>(by cases hy),fun y hy=>(by cases hy),fun y h1 h2=>(by rw [h1] at h2;cases h2),List.nodup_nil⟩
theorem Bh.request(hR:aw ab) (h:Bh ab b) {f:Nat}{l:List Key}{s':ES}(hg:Good ab b.ae ⟨b,[],[],0⟩) (hk:∀k∈l,gA ab k) (hs:eD ab (valOf ab b.ae) f ⟨b,[],[],0⟩ l=some s') :
  s'.e=0∧Bh ab s'.b∧Wy ab b s'∧(∀k,aK b k=true→aK s'.b k=true)∧(∀k∈l,az k=false→aK s'.b k=true)∧∀r∈s'.b.ak,r.ax=s'.b.ad→r.value=valOf ab b.ae r.key:=by
 obtain⟨H,h⟩:=h;have hW:Wy ab b ⟨b,[],[],0⟩:=Wy.start b
 obtain⟨h1,h2,h3,h4⟩:=CZ (H:=H) (b0:=b) hR hs hg rfl (h.Um fun k hk=>by cases hk) hW hk fun k=>rfl
 have hB:Bi ab H (fun _=>false) s'.b:=h1.bi.Um fun k hk=>by grind [ES.FN,ES.on,bZ]
 refine⟨h1.e,⟨H,hB⟩,h1.wy,h3,h4,fun r hr hv=>?_⟩;rw [(hB.c.vr r hr).1,hv,hB.c.now,h1.wy.aF]
end
end Go.Rc

