/- Base of the proof: frames, memory, ownership, and the plain meaning of rule systems. Conditions: as each lemma says. -/
import Derived.Test.YtfamnpoplgkkcaaGreatDoorOBf
import Derived.Test.YtfamnpoplgkkcaaGreatDoorOBd
set_option linter.all false
namespace Go.Rc
open Go
theorem St.uJ{w w':World}{Z:Nat→Prop}{l:List As}{A B:As}(h:St w (mJ [B]) Z w' (B::A::l)):∀x,A.fp x→w.heap.size≤x:=fun x a=>by
 rcases h.mI A (by simp) x a with⟨C,c,hc⟩ | h1
 ·
  rw [List.mem_singleton] at c;subst c;exact absurd a ((List.pairwise_cons.1 h.rl).1 A (by simp) x hc)
 exact h1
theorem lQ.Jf{aa:List aG}{k:Key}(a:aq aa) (h:lQ aa k):eG aa k:=by
 have c:=a.len
 rcases h with⟨n,h0,d,rfl⟩ | ⟨i,hi,rfl⟩
 ·
  obtain⟨m,rfl⟩:∃m:Nat,n=m:=⟨n.toNat,by omega⟩;exact .cell (by omega)
 exact .eT hi (by omega)
theorem lQ.right{aa:List aG}{k:Key}(a:aq aa) (h:lQ aa k):gM aa k=true:=by
 have hk:=h.Jf a
 rcases h with⟨n,h0,c,rfl⟩ | ⟨i,hi,rfl⟩
 ·
  unfold gM
  rw [eG.valid hk]
  unfold cD
  rw [if_neg (by omega)]
  simp
 exact xH a hi
structure LB (aa:List aG) (x:cy):Prop where
 ok:BK aa x.ab x.ad x
 aD:jx x.ad x.ab
section
variable {aa:List aG}{x:cy}
theorem LB.apply(h:LB aa x) {y:cy}(hr:y.ah=x.ah) (h0:x.ad≤y.ad) (h1:y.ad≤1073741824) (c:jx y.ad y.ab) (d:y.ab.length≤64):LB aa y:=by
 have f:=h.ok.fR;have a:=h.ok.tN;have e:0≤y.ad:=Int.le_trans a.r0 h0;have hb:=c.gU e h1 d;exact⟨⟨⟨rfl,by show y.ah.length≤_;rw [hr];exact f.len,by grind [Good.key],by grind [Good.AD],.nil,fun k=>.inl rfl⟩,⟨by show pG y.ah;rw [hr];exact a.st,by show ∀r∈y.ah,_;rw [hr];exact fun r hm=>⟨(a.v r hm).1,Int.le_trans (a.v r hm).2 h0⟩,e,h1⟩,rfl,hb.1,d⟩,c⟩
theorem LB.sub(h:LB aa x) {rs:List Rec}(a:rs.Sublist x.ah):LB aa ⟨x.ad,x.ab,rs⟩:=⟨h.ok.sub a,h.aD⟩
theorem LB.of(h:LB aa x) {b:cy}(hb:BK aa x.ab x.ad b):LB aa b:=by
 have h1:b.ab=x.ab:=hb.fR.aD;have a:b.ad=x.ad:=hb.rv;refine⟨?_,?_⟩
 ·
  rw [h1,a];exact hb
 rw [h1,a];exact h.aD
theorem LB.task(h:LB aa x) {b:cy}(hb:BK aa x.ab x.ad b) {rs:List Rec}(a:rs.Sublist b.ah):LB aa ⟨b.ad,b.ab,rs⟩:=(h.of hb).sub a
theorem LB.req(a:aq aa) (h:LB aa x) {goals:List Key}(e:∀k∈goals,lQ aa k) (g:goals.length≤32):∃(f:Nat) (s':ES),gB aa x goals=0∧Good aa x.ab ⟨x,[],[],0⟩∧(∀k∈goals,eG aa k)∧dK aa (valOf aa x.ab) f ⟨x,[],[],0⟩ goals=some s'∧s'.bf.length≤1000000∧LB aa (s'.base x)∧(s'.base x).ad=x.ad:=by
 have i:=a.len;have c:=h.ok.fR;have hk:∀k∈goals,eG aa k:=fun k hm=>(e k hm).Jf a;obtain⟨f,s',hu⟩:=uH (val:=valOf aa x.ab) a goals ⟨x,[],[],0⟩ c hk;have h1:=o7 a hu c hk;have d:=BE a hu c h.ok.tN hk;have j:=xG a hu c hk;have m:gC aa ⟨x,[],[],0⟩≤aa.length:=OA _ _;refine⟨f,s',?_,c,hk,hu,?_,?_,?_⟩
 ·
  unfold gB
  rw [if_neg (fun h=>h a),if_neg (fun hn=>hn h.ok.gU),if_neg (by omega),if_pos (List.all_eq_true.2 fun k hm=>(e k hm).right a)]
 ·
  grind
 ·
  unfold ES.base
  split
  ·
   refine h.of ⟨⟨h1.1.aD,h1.1.len,h1.1.key,h1.1.AD,.nil,fun k=>.inl rfl⟩,⟨d.st,d.v,d.r0,d.r1⟩,h1.2.rev,h.ok.xL,h.ok.pc⟩
  exact h
 unfold ES.base
 split
 ·
  exact h1.2.rev
 rfl
theorem LB.start(h:LB aa x) {goals:List Key}(hk:∀k∈goals,eG aa k) (a:goals.length≤32):TR aa x.ab x.ad 0 ⟨aa,x,goals,[],[]⟩:=
 ⟨⟨rfl,h.ok,hk,fun f c=>(by cases c),fun k hk=>(by cases hk)⟩,Nat.le_refl _,Nat.le_refl _,a⟩
theorem LB.nil{aa:List aG}(y:cy) (hr:y.ah=[]) (h0:0≤y.ad) (h1:y.ad≤1073741824) (a:jx y.ad y.ab) (c:y.ab.length≤64):LB aa y:=by
 have hb:=a.gU h0 h1 c;exact⟨⟨⟨rfl,by grind,by grind,by grind,.nil,fun k=>.inl rfl⟩,⟨by show pG y.ah;rw [hr];exact .nil,by grind,h0,h1⟩,rfl,hb.1,c⟩,a⟩
end
end Go.Rc

namespace Go.Rc
open Go
def yS(l:List Key):Prop:=l.Pairwise fun a b=>bA a b<0
theorem yT{l l':List Key}(c:l'.Perm l) (hn:l.Nodup) (d:l'.Pairwise fun a b=>¬bA b a<0):yS l':=by
 have e:l'.Pairwise fun a b=>a≠b:=c.nodup_iff.2 hn
 refine(d.and e).imp fun {a b} h=>?_
 grind [je,lW]
section
variable {aa:List aG}{aD:List cv}{k:Key}
theorem nn{l:List Key}{q:Nat}{y z:Key}(a:l[q]?=some y) (c:z∈l.take (q+1)):z∈l.take q∨z=y:=by grind [List.take_succ_eq_append_getElem]
def lI(l:List Key):List (Key × Value):=l.map fun x=>(x,.bool true)
theorem BM(l:List Key) (y:Key):(bC (lI l) y).getD (.bool false)=.bool (decide (y∈l)):=by
 unfold lI
 induction l with
 | nil=>simp [bC]
 | cons x r a=>
  simp only [List.map_cons,bC]
  grind
theorem BN(l:List Key) {y:Key}(h:y∉l):cJ (lI l) y (.bool true)=lI (l++[y]):=by
 unfold lI
 induction l with
 | nil=>rfl
 | cons x r a=>
  rw [List.mem_cons,not_or] at h;simp only [List.map_cons,List.cons_append,cJ];rw [if_neg (Ne.symm h.1),a h.2]
end
end Go.Rc

namespace Go.Rc
open Go
structure LR {α:Type}(A:Nat→Prop) (w:World) (k:Nat) (R:α→List Value→Prop) (a:Option Addr) (n:Nat) (xs:List α):Prop where
 len:n=xs.length
 le:n≤140737488355328
 at_:∀{i:Nat}{x:α},xs[i]?=some x→∃b o r,a=some ⟨b,o,none⟩∧r.length=k∧R x r∧w.rangeAt b (o+i*k) r∧A b∧b<w.heap.size
theorem SR.Qc{α:Type}{w:World}{k b E:Nat}{R:α→List Value→Prop}{xs:List α}{rows:List (List Value)}(h:bQ w b E rows.flatten) (hl:xs.length=rows.length) (hk:∀r∈rows,r.length=k) (h1:∀u∈rows.flatten,u.oneCell'=true)
  (hle:rows.length≤140737488355328) (a:∀(i:Nat) (x:α) (r:List Value),xs[i]?=some x→rows[i]?=some r→R x r):SR (fun _=>True) w k R (some ⟨b,0,none⟩) rows.length rows.length xs:=by
 have hlen:rows.flatten.length=rows.length*k:=by
  clear h hl h1 hle a
  induction rows with
  | nil=>simp
  | cons r t d=>grind
 have c:=OL.blk (base:=0) (k:=k) h (Nat.zero_le _) hlen h1 hle;exact⟨hl.symm,rows,hl.symm,hk,c.sl (A:=fun _=>True) (fun _ _=>trivial) hle,a⟩
end Go.Rc

namespace Go.Rc
open Go
theorem LB.Gg{aa:List aG}{x:cy}(h:LB aa x):uF aa x:=
 ⟨h.ok.tN.r0,h.ok.tN.r1,⟨h.aD.1,h.aD.2.1⟩,h.aD.k99,h.ok.pc,fun r hr=>⟨h.ok.fR.key r hr,((fw _).1 (h.ok.tN.v r hr).1).2.2.1,(h.ok.fR.AD r hr).2,(h.ok.tN.v r hr).1⟩,h.ok.tN.st,h.ok.fR.len,fun r hr=>(h.ok.tN.v r hr).2⟩
theorem LB.small{aa:List aG}{x:cy}(a:aq aa) (h:LB aa x):∀k,(valOf aa x.ab k).size≤1000:=Eb a fun y c=>(h.aD.2.2 y c).2
theorem OR.VD{α:Type}{R:α→List Value→Prop}{base b E k:Nat}{w:World}{x y:α}{r s:List Value}(h:bQ w b E (r++s)) (hb:base≤b) (hr:r.length=k) (a:s.length=k) (h1:∀u∈r++s,u.oneCell'=true) (c:R x r) (d:R y s):OR base w E k R (some ⟨b,0,none⟩) 2 2 [x,y]:=
 ⟨rfl,[r,s],rfl,by simp [hr,a],by grind [OL.blk],BF c d⟩
def Jt:Ask:=⟨false,false,0,0⟩
end Go.Rc

namespace Go.Rc
open Go
section
variable {aa:List aG}{aD:List cv}
noncomputable def Hk(aa:List aG) (aD:List cv) (i q:Nat):List ByteArray:=(dW (cq aa (aM aa (i:Int))) (valOf aa aD) q).2
noncomputable def pd(aa:List aG) (aD:List cv) (i q:Nat):Key:=(cq aa (aM aa (i:Int)) (Hk aa aD i q)).ask
theorem qd(i q:Nat):(Hk aa aD i q).length=q:=(gx _ _ _).2
theorem jf{i q:Nat}(a:q<cN aa i):(cS aa aD i)[q]?=some (pd aa aD i q):=by
 unfold cS pd Hk
 generalize cN aa i=n at a ⊢
 induction n with
 | zero=>omega
 | succ n c=>
  have hl:=(gx (cq aa (aM aa (i:Int))) (valOf aa aD) n).1;simp only [dW]
  grind
theorem Gh(a:aq aa) {i q:Nat}(hi:i<aa.length) (c:q<cN aa i):cq aa (aM aa (i:Int)) (Hk aa aD i q)=⟨false,⟨#[]⟩,pd aa aD i q⟩:=by grind [eh,qd,pd]
theorem Gi(a:aq aa) {i:Nat}(hi:i<aa.length):cq aa (aM aa (i:Int)) (Hk aa aD i (cN aa i))=⟨true,valOf aa aD (aM aa (i:Int)),eU⟩:=fF a hi
theorem BO(a:aq aa) {i q:Nat}(hi:i<aa.length) (c:q<cN aa i):eG aa (pd aa aD i q):=
 (o8 a hi _ (List.mem_of_getElem? (jf (aD:=aD) c))).Jf a
theorem Hl(a:aq aa) {i:Nat}(hi:i<aa.length) (hr:aF aa i=true):cB (valOf aa aD (aM aa (i:Int)))=rv aa aD i:=by grind [gS,iq,fk,sB]
end
end Go.Rc

namespace Go.Rc
open Go
section
variable {aa:List aG}{aD:List cv}{k:Key}{L:List Key}
end
end Go.Rc

namespace Go.Rc
open Go
section
variable {aa:List aG}{aD:List cv}
theorem cV.trans{i j k:Nat}(h:cV aa i j) (a:cV aa j k):cV aa i k:=by
 induction a with
 | refl=>exact h
 | step _ c d=>exact .step d c
variable {lo n q v:Nat}{S:List Int}{r:aG}
end
end Go.Rc

namespace Go.Rc
open Go
section
variable {aa:List aG}{aD qe:List cv}
end
end Go.Rc
namespace Go.Rc
open Go
end Go.Rc

namespace Go.Rc
open Go
section
variable {aa:List aG}{aD qe:List cv}
theorem uK(c:aq aa) {i:Nat}(hi:i<aa.length) (h:∀a∈cS aa aD i,valOf aa aD a=valOf aa qe a):cS aa qe i=cS aa aD i∧valOf aa qe (aM aa (i:Int))=valOf aa aD (aM aa (i:Int)):=by
 have e:dW (cq aa (aM aa (i:Int))) (valOf aa aD) (cN aa i)=dW (cq aa (aM aa (i:Int))) (valOf aa qe) (cN aa i):=uv _ fun m hm=>h _ (List.mem_of_getElem? (jf hm))
 refine⟨?_,?_⟩
 ·
  unfold cS
  rw [e]
 have h1:=fF (aD:=aD) c hi;have d:=fF (aD:=qe) c hi
 grind
theorem sE(a:aq aa) {G:Nat→Prop}(c:∀j,G j→j<aa.length∧aF aa j=true) (h:∀j,G j→∀r x,aa[j]?=some r→x∈r.asks→(∀m,G m→bP aa x≠aM aa (m:Int))→valOf aa aD (bP aa x)=valOf aa qe (bP aa x)) {j:Nat}(p:G j) (b:Nat) (hb:(rv aa aD j).testBit b=true):(rv aa qe j).testBit b=true:=by
 obtain⟨g,i⟩:=c j p;obtain⟨n,hn,u⟩:=(eB a g i b).1 hb
 have key:∀n,cV aa j n→(G n∧cV aa j n)∨∃(m:Nat) (x:Ask) (r:aG) (q:Nat),G m∧cV aa j m∧aa[m]?=some r∧x∈r.asks∧bP aa x=aM aa (q:Int)∧¬G q∧fM aa m q∧cV aa q n:=by
  intro n hn
  induction hn with
  | refl=>exact .inl ⟨p,.refl⟩
  | @step m q hm d C=>
   rcases C with⟨g1,g2⟩ | ⟨m2,x,r,D,g1,g2,g3,g4,g5,g6,g7,g8⟩
   ·
    by_cases w:G q
    ·
     exact .inl ⟨w,.step g2 d⟩
    obtain⟨x,f,_,hk⟩:=oY (c m g1).1 d;exact .inr ⟨m,x,_,q,g1,g2,ak (c m g1).1,f,hk,w,d,.refl⟩
   exact .inr ⟨m2,x,r,D,g1,g2,g3,g4,g5,g6,g7,.step g8 d⟩
 rcases key n hn with⟨g1,g2⟩ | ⟨m,x,r,q,g1,g2,g3,g4,g5,g6,g7,g8⟩
 ·
  obtain⟨o,K⟩:=c n g1;refine(eB a g i b).2 ⟨n,g2,?_⟩
  rcases(fl o b).1 u with h1 | ⟨x,f,E,h1⟩
  ·
   grind [fl]
  refine(fl o b).2 (.inr ⟨x,f,E,?_⟩);rw [← h n g1 _ x (ak o) f fun m hm e=>?_]
  ·
   exact h1
  grind [ja,bE,aq.len]
 have A:=g7.lt.2.1;have B:=g7.lt.2.2.2;have h1:(rv aa aD q).testBit b=true:=(eB a A B b).2 ⟨n,g8,u⟩
 have M:=h m g1 r x g3 g4 fun m2 O e=>by grind [dX]
 have F:rv aa aD q=rv aa qe q:=by grind [Hl]
 rw [F] at h1;obtain⟨n2,I,J⟩:=(eB a A B b).1 h1;exact(eB a g i b).2 ⟨n2,(cV.step g2 g7).trans I,J⟩
theorem Eg(d:aq aa) {G:Nat→Prop}(c:∀j,G j→j<aa.length∧aF aa j=true) (h:∀j,G j→∀r x,aa[j]?=some r→x∈r.asks→(∀m,G m→bP aa x≠aM aa (m:Int))→valOf aa aD (bP aa x)=valOf aa qe (bP aa x)) {j:Nat}(a:G j):valOf aa aD (aM aa (j:Int))=valOf aa qe (aM aa (j:Int)):=by
 obtain⟨i,o⟩:=c j a
 have e:rv aa aD j=rv aa qe j:=by
  apply Nat.eq_of_testBit_eq
  intro b;rw [Bool.eq_iff_iff];exact⟨sE d c h a b,sE d c (fun j a r x h1 f g=>(h j a r x h1 f g).symm) a b⟩
 grind [gS,iq]
structure Cons (aa:List aG) (H:Int→List cv) (on:Key→Bool) (b:cy):Prop where
 now:H b.ad=b.ab
 eJ:∀k t,ay k=true→(bw b.ab k).changed≤t→t≤b.ad→cellOf (H t) k=cellOf b.ab k
 Eh:∀r∈b.ah,r.av≤b.ad∧r.changed≤r.av
 vr:∀r∈b.ah,r.value=valOf aa (H r.av) r.key∧r.reads=na aa (H r.av) r.key
 rr:∀r∈b.ah,∀a∈r.reads,ay a=false→∀ra,az b.ah a=some ra→(r.av=b.ad∧on a=true)∨(ra.changed≤r.av→valOf aa (H r.av) a=ra.value)
 rs:∀r∈b.ah,ax r.key=true→∀a∈r.reads,ax a=true→∀ra,az b.ah a=some ra→(r.av=b.ad∧on a=true)∨r.av≤ra.av
variable {H:Int→List cv}{on:Key→Bool}{b:cy}{k:Key}
theorem Cons.up(h:Cons aa H on b) (hu:aA b k=true):∃r,az b.ah k=some r∧r.av=b.ad∧r.value=valOf aa b.ab k:=by
 obtain⟨r,hr,a⟩:=aT.1 hu;obtain⟨h1,c⟩:=aK hr;refine⟨r,hr,a,?_⟩;rw [(h.vr r h1).1,a,h.now,c]
theorem Cons.changed(h:Cons aa H on b) {m:Rec}(hm:m∈b.ah) (i:m.av<b.ad) {a:Key}(f:a∈m.reads) (hc:aV (valOf aa b.ab) b a≤m.av):valOf aa (H m.av) a=valOf aa b.ab a:=by
 cases hi:ay a with
 | true=>
  unfold aV at hc
  rw [if_pos hi] at hc
  have:=h.eJ a m.av hi hc (by omega)
  unfold valOf
  grind
 | false=>
  unfold aV at hc
  rw [if_neg (by rw [hi];simp)] at hc
  split at hc
  ·
   rename_i h1
   rw [Bool.and_eq_true] at h1;obtain⟨ra,d⟩:=Option.isSome_iff_exists.1 h1.1
   have e:aC b.ah a=ra:=by unfold aC;rw [d];rfl
   rw [e] at h1 hc
   have g:valOf aa b.ab a=ra.value:=by
    rw [Bool.or_eq_true] at h1
    rcases h1.2 with c | c
    ·
     have c:=of_decide_eq_true c;obtain⟨g1,g2⟩:=aK d;rw [(h.vr ra g1).1,c,h.now,g2]
    exact of_decide_eq_true c
   rcases h.rr m hm a f hi ra d with⟨c,_⟩ | c
   ·
    omega
   rw [c hc,g]
  omega
end
end Go.Rc

namespace Go.Rc
open Go
/-! ### lists of keys in order -/
def Ml(l:List Key):Prop:=l.Pairwise fun a b=>bA a b<0
theorem pe{a b:Key}(h:bA a b<0) (c:bA b a<0):False:=by grind [ie,ir]
theorem Gj{k:Key}:∀{l:List Key},Ml l→Ml (mD k l)
 | [],_=>by simp [mD,Ml]
 | x::r,h=>by
  obtain⟨h1,a⟩:=List.pairwise_cons.1 h
  unfold mD
  split
  ·
   rename_i c
   refine List.pairwise_cons.2 ⟨fun y d=>?_,Gj a⟩
   grind [Bw]
  rename_i c
  split
  ·
   exact h
  rename_i e
  have f:bA k x<0:=by grind [je,lW]
  refine List.pairwise_cons.2 ⟨fun y d=>?_,h⟩
  grind [ie]
theorem Ju(l:List Key):Ml (kf l):=by
 have key:∀(l acc:List Key),Ml acc→Ml (l.foldl (fun out k=>mD k out) acc):=by
  intro l
  induction l with
  | nil=>intro acc h;exact h
  | cons x r a=>grind [Gj]
 exact key l [] List.Pairwise.nil
theorem yU:∀{a b:List Key},Ml a→Ml b→(∀x,x∈a↔x∈b)→a=b
 | [],[],_,_,_=>rfl
 | [],y::b,_,_,h=>by have:=(h y).2 (by simp);cases this
 | x::a,[],_,_,h=>by have:=(h x).1 (by simp);cases this
 | x::a,y::b,h1,c,h=>by
  obtain⟨i,d⟩:=List.pairwise_cons.1 h1;obtain⟨j,f⟩:=List.pairwise_cons.1 c
  have e:x=y:=by
   rcases List.mem_cons.1 ((h x).1 (by simp)) with e | e
   ·
    exact e
   rcases List.mem_cons.1 ((h y).2 (by simp)) with e2 | e2
   ·
    exact e2.symm
   grind [pe]
  subst e
  congr 1
  refine yU d f fun z=>⟨fun g=>?_,fun g=>?_⟩
  ·
   grind [pe]
  grind [pe]
/-! ### rings that belong together -/
section
variable {l l':List Rec}{rev:Int}{k x y z:Key}
theorem bS:bU l rev k=true↔∃r,az l k=some r∧ax k=true∧r.av<rev∧r.bu=false:=by
 unfold bU aC
 cases h:az l k with
 | none=>simp
 | some r=>simp
theorem bR.trans(h:bR l rev k x) (a:bR l rev x y):bR l rev k y:=by
 induction a with
 | one a=>exact .step h a
 | step _ c d=>exact .step d c
def xM(l:List Rec) (rev:Int) (x y:Key):Prop:=bR l rev x y∧bR l rev y x
theorem xM.symm(h:xM l rev x y):xM l rev y x:=⟨h.2,h.1⟩
theorem xM.trans(h:xM l rev x y) (a:xM l rev y z):xM l rev x z:=⟨h.1.trans a.1,a.2.trans h.2⟩
theorem xM.gC(h:xM l rev x y):bU l rev y=true:=h.1.gC
theorem Ei:y∈jc l rev k l↔y≠k∧xM l rev k y:=by
 unfold jc Bz
 rw [List.mem_map]
 constructor
 ·
  rintro⟨r,hr,rfl⟩;rw [List.mem_filter] at hr;simp only [Bool.and_eq_true,decide_eq_true_eq,kg] at hr;exact⟨hr.2.1,hr.2.2.1,hr.2.2.2⟩
 rintro⟨h1,a⟩;obtain⟨r,hr,rfl⟩:=List.mem_map.1 (nb a.gC);exact⟨r,List.mem_filter.2 ⟨hr,by simp only [Bool.and_eq_true,decide_eq_true_eq,kg];exact⟨h1,a.1,a.2⟩⟩,rfl⟩
theorem cL:y∈aB l rev k↔y=k∨(bU l rev k=true∧xM l rev k y):=by
 unfold aB
 split
 ·
  rename_i h
  rw [ru,List.mem_cons,Ei]
  grind
 grind
theorem fy:k∈aB l rev k:=cL.2 (.inl rfl)
theorem rD(l:List Rec) (rev:Int) (k:Key):Ml (aB l rev k):=by
 unfold aB
 split
 ·
  exact Ju _
 exact List.pairwise_singleton _ _
theorem iv(h:ax k=false):aB l rev k=[k]:=by
 unfold aB
 rw [if_neg]
 grind [bS]
theorem xN(hk:bU l rev k=true) (h:xM l rev k y) (z:Key):z∈aB l rev y↔z∈aB l rev k:=by
 rw [cL,cL]
 constructor
 ·
  rintro(rfl | ⟨_,h1⟩)
  ·
   exact .inr ⟨hk,h⟩
  exact .inr ⟨hk,h.trans h1⟩
 rintro(rfl | ⟨_,h1⟩)
 ·
  exact .inr ⟨h.gC,h.symm⟩
 exact .inr ⟨h.gC,h.symm.trans h1⟩
theorem dH{g:List Key}{c:od}:c∈bT l g↔c.dP∈g∧c.read∈(aC l c.dP).reads∧c.read∉g:=by
 unfold bT cY
 grind
theorem wA{g:List Key}(h:∀m∈g,aC l' m=aC l m):bT l' g=bT l g:=by
 unfold bT
 have key:∀s:List Key,(∀m∈s,aC l' m=aC l m)→(s.flatMap fun m=>cY g m (aC l' m).reads)=s.flatMap fun m=>cY g m (aC l m).reads:=by
  intro s
  induction s with
  | nil=>intro _;rfl
  | cons m r a=>grind
 exact key g h
end
/-! ### the change of records -/
def Pt(val:Key→ByteArray) (N:Key→Prop) (rev:Int) (bf:List Key) (y:Key) (o o':Option Rec):Prop:=
 o'=o∨((ax y=true∨N y)∧∃r,o=some r∧r.bu=false∧r.av<rev∧(o'=some {r with av:=rev}∨o'=some {r with bu:=true}))∨
 ((y∈bf∧N y)∧(∀r,o=some r→r.av<rev)∧∃r',o'=some r'∧r'.av=rev∧r'.bu=false∧r'.value=val y∧(∀r,o=some r→r'.changed=if r.value=r'.value then r.changed else rev)∧(o=none→r'.changed=rev))
structure iS (val:Key→ByteArray) (N:Key→Prop) (bf:List Key) (rev:Int) (l l':List Rec):Prop where
 pt:∀y,Pt val N rev bf y (az l y) (az l' y)
 scc:∀y z,xM l rev y z→bU l' rev y=true→bU l' rev z=true
def Live(l:List Rec) (rev:Int) (k:Key):Prop:=∃r,az l k=some r∧r.bu=false∧r.av<rev
theorem Live.yV{l:List Rec}{rev:Int}{k:Key}(h:bU l rev k=true):Live l rev k:=by
 obtain⟨r,h1,_,a,c⟩:=bS.1 h;exact⟨r,h1,c,a⟩
theorem Live.gC{l:List Rec}{rev:Int}{k:Key}(h:Live l rev k) (hc:ax k=true):bU l rev k=true:=by
 obtain⟨r,h1,a,c⟩:=h
 grind [bS]
section
variable {val:Key→ByteArray}{N N':Key→Prop}{bf VE:List Key}{rev:Int}{l l' l2:List Rec}{k x y z:Key}
theorem iS.refl(l:List Rec):iS val N bf rev l l:=⟨fun _=>.inl rfl,fun _ _ h _=>h.gC⟩
theorem iS.mono(h:iS val N bf rev l l') (hr:∀y∈bf,y∈VE) (c:∀y,N y→N' y):iS val N' VE rev l l':=
 ⟨fun y=>by
  rcases h.pt y with h | ⟨h1,a⟩ | ⟨⟨h1,a⟩,d⟩
  ·
   exact .inl h
  ·
   exact .inr (.inl ⟨h1.imp id (c y),a⟩)
  exact .inr (.inr ⟨⟨hr y h1,c y a⟩,d⟩),h.scc⟩
theorem iS.live(h:iS val N bf rev l l') (hl:Live l' rev y):az l' y=az l y:=by
 obtain⟨r,h1,a,c⟩:=hl
 rcases h.pt y with e | ⟨_,q,_,_,_,e | e⟩ | ⟨_,_,q,e,d,_⟩
 ·
  exact e
 ·
  grind
 ·
  grind
 grind
theorem iS.OC(h:iS val N bf rev l l') (hl:Live l' rev y):Live l rev y:=by
 obtain⟨r,h1,a,c⟩:=id hl;exact⟨r,by rw [← h.live hl];exact h1,a,c⟩
theorem iS.gC(h:iS val N bf rev l l') (a:bU l' rev y=true):az l' y=az l y:=h.live (.yV a)
theorem iS.Mm(h:iS val N bf rev l l') (a:bU l' rev y=true):bU l rev y=true:=by
 obtain⟨r,h1,c,d,e⟩:=bS.1 a;exact bS.2 ⟨r,by rw [← h.gC a];exact h1,c,d,e⟩
theorem iS.aC(h:iS val N bf rev l l') (a:bU l' rev y=true):aC l' y=Rc.aC l y:=by
 unfold Rc.aC
 rw [h.gC a]
theorem iS.leads(h:iS val N bf rev l l') (hk:bU l' rev k=true) (hl:bR l' rev k x):bR l rev k x:=by
 induction hl with
 | one h1=>exact .one ⟨by rw [← h.aC hk];exact h1.1,h.Mm h1.2⟩
 | step h1 a c=>exact .step c ⟨by rw [← h.aC h1.gC];exact a.1,h.Mm a.2⟩
theorem iS.back(h:iS val N bf rev l l') (hk:bU l' rev k=true) (hl:bR l rev k x):bR l rev x k→bR l' rev k x:=by
 induction hl with
 | one h1=>exact fun a=>.one ⟨by rw [h.aC hk];exact h1.1,h.scc k _ ⟨.one h1,a⟩ hk⟩
 | step h1 c d=>
  intro a;have g:=d ((bR.one c).trans a);exact .step g ⟨by rw [h.aC g.gC];exact c.1,h.scc k _ ⟨.step h1 c,a⟩ hk⟩
theorem iS.mut(h:iS val N bf rev l l') (hk:bU l' rev k=true):xM l' rev k y↔xM l rev k y:=
 ⟨fun m=>⟨h.leads hk m.1,h.leads m.gC m.2⟩,fun m=>⟨h.back hk m.1 m.2,h.back (h.scc k y m hk) m.2 m.1⟩⟩
theorem iS.group(h:iS val N bf rev l l') (hk:Live l' rev k):aB l' rev k=aB l rev k∧∀m∈aB l rev k,az l' m=az l m:=by
 cases hc:ax k with
 | false=>
  rw [iv hc,iv hc];refine⟨rfl,fun m hm=>?_⟩;rw [List.mem_singleton.1 hm];exact h.live hk
 | true=>
  have a:=hk.gC hc;refine⟨yU (rD _ _ _) (rD _ _ _) fun y=>?_,fun m hm=>?_⟩
  ·
   rw [cL,cL,h.mut a,a,h.Mm a]
  rcases cL.1 hm with rfl | ⟨_,m2⟩
  ·
   exact h.live hk
  exact h.gC (h.scc _ _ m2 a)
theorem iS.Jv(h:iS val N bf rev l l') (hk:Live l' rev k):bT l' (aB l' rev k)=bT l (aB l rev k):=by
 obtain⟨h1,a⟩:=h.group hk;rw [h1];refine wA fun m hm=>?_
 unfold Rc.aC
 rw [a m hm]
theorem iS.trans(h:iS val N bf rev l l') (a:iS val N bf rev l' l2):iS val N bf rev l l2:=by
 refine⟨fun y=>?_,fun y z m c=>?_⟩
 ·
  have g2:=a.pt y
  rcases h.pt y with e | ⟨e0,r,e1,e2,e3,e4 | e4⟩ | ⟨e1,e2,r',e3,e4,e5,e6,d,e8⟩
  ·
   rw [e] at g2;exact g2
  ·
   rcases g2 with g | ⟨_,q,g1,g2,g3,_⟩ | ⟨_,g1,_⟩
   ·
    exact .inr (.inl ⟨e0,r,e1,e2,e3,.inl (g.trans e4)⟩)
   ·
    grind
   grind
  ·
   rcases g2 with g | ⟨_,q,g1,g2,g3,_⟩ | ⟨g1,g2,q,g3,g4,g5,g6,g7,g8⟩
   ·
    exact .inr (.inl ⟨e0,r,e1,e2,e3,.inr (g.trans e4)⟩)
   ·
    grind
   refine .inr (.inr ⟨g1,fun r2 f=>?_,q,g3,g4,g5,g6,fun r2 f=>?_,fun hn=>?_⟩)
   ·
    grind
   ·
    grind
   grind
  rcases g2 with g | ⟨_,q,g1,g2,g3,_⟩ | ⟨_,g1,_⟩
  ·
   exact .inr (.inr ⟨e1,e2,r',g.trans e3,e4,e5,e6,d,e8⟩)
  ·
   grind
  have:=g1 _ e3
  omega
 have i:=a.Mm c;exact a.scc y z ((h.mut i).2 m) c
theorem bZ{g:List Key}{d:Bool}:az (l.map (a7 rev g d)) y=(az l y).map (a7 rev g d):=rA _ (fun r=>(cQ rev g d r).1) y l
theorem iS.mark(hl:Live l rev k) (d:Bool) (i:ax k=true∨N k):iS val N bf rev l (l.map (a7 rev (aB l rev k) d)):=by
 have eJ:∀y∈aB l rev k,Live l rev y:=fun y a=>by
  rcases cL.1 a with rfl | ⟨_,m⟩
  ·
   exact hl
  exact .yV m.gC
 have j:∀y,y∉aB l rev k→az (l.map (a7 rev (aB l rev k) d)) y=az l y:=fun y a=>by
  rw [bZ]
  cases o:az l y with
  | none=>rfl
  | some r=>
   have e:=(aK o).2
   show some (a7 rev (aB l rev k) d r)=some r
   unfold a7
   rw [if_neg (by rw [e];exact a)]
 have p:∀y∈aB l rev k,∃r,az l y=some r∧r.bu=false∧r.av<rev∧az (l.map (a7 rev (aB l rev k) d)) y=some (if d then {r with bu:=true} else {r with av:=rev}):=fun y a=>by
  obtain⟨r,h1,c,f⟩:=eJ y a;refine⟨r,h1,c,f,?_⟩;rw [bZ,h1]
  show some (a7 rev (aB l rev k) d r)=_
  unfold a7
  rw [if_pos (by rw [(aK h1).2];exact a)]
 refine⟨fun y=>?_,fun y z m w=>?_⟩
 ·
  by_cases a:y∈aB l rev k
  ·
   obtain⟨r,h1,c,f,u⟩:=p y a;refine .inr (.inl ⟨?_,r,h1,c,f,?_⟩)
   ·
    rcases cL.1 a with rfl | ⟨_,m⟩
    ·
     exact i
    obtain⟨_,_,g,_⟩:=bS.1 m.gC;exact .inl g
   grind
  exact .inl (j y a)
 have a:y∉aB l rev k:=fun a=>by grind [bS]
 have h:z∉aB l rev k:=fun h=>a (by
  rcases cL.1 h with rfl | ⟨h1,c⟩
  ·
   grind [cL,xM.gC,xM.symm]
  exact cL.2 (.inr ⟨h1,c.trans m.symm⟩))
 obtain⟨r,h1,c,f,u⟩:=bS.1 m.gC
 grind [bS]
theorem iS.put{r':Rec}(hk:bU l rev r'.key=false) (a:∀r,az l r'.key=some r→r.av<rev) (c:r'.key∈bf∧N r'.key) (d:r'.av=rev) (f:r'.bu=false) (g:r'.value=val r'.key)
  (hc:∀r,az l r'.key=some r→r'.changed=if r.value=r'.value then r.changed else rev) (hn:az l r'.key=none→r'.changed=rev):iS val N bf rev l (ey l r'):=by
 refine⟨fun y=>?_,fun y z m p=>?_⟩
 ·
  rw [cT]
  by_cases e:y=r'.key
  ·
   rw [if_pos e,e];exact .inr (.inr ⟨c,a,r',rfl,d,f,g,hc,hn⟩)
  rw [if_neg e];exact .inl rfl
 have h:z≠r'.key:=fun e=>by grind [xM.gC]
 obtain⟨r,h1,i,j,o⟩:=bS.1 m.gC;exact bS.2 ⟨r,by rw [cT,if_neg h];exact h1,i,j,o⟩
end
end Go.Rc

namespace Go.Rc
open Go
theorem aQ{l:List Rec}{k:Key}{r:Rec}(h:az l k=some r):aC l k=r:=by
 unfold aC
 rw [h]
 rfl
theorem hJ:∀{l:List Rec},pG l→∀{r:Rec},r∈l→az l r.key=some r
 | [],_,r,hr=>by cases hr
 | x::xs,h,r,hr=>by
  obtain⟨h1,a⟩:=List.pairwise_cons.1 h
  unfold az
  rw [List.find?_cons]
  rcases List.mem_cons.1 hr with rfl | hr
  ·
   simp
  have c:=h1 r hr
  have d:x.key≠r.key:=fun e=>by rw [e,ir] at c;omega
  have:(x.key == r.key)=false:=by simpa using d
  rw [this];exact hJ a hr
structure Bi (aa:List aG) (H:Int→List cv) (on:Key→Bool) (b:cy):Prop where
 c:Cons aa H on b
 st:pG b.ah
 kr:∀r∈b.ah,∃i:Nat,i<aa.length∧r.key=aM aa (i:Int)
 dv:∀r∈b.ah,r.bu=true→r.av<b.ad
section
variable {aa:List aG}{H:Int→List cv}{on on':Key→Bool}{b:cy}{k:Key}
theorem Bi.Mn(h:Bi aa H on b) (f:∀k,on k=true→on' k=true):Bi aa H on' b:=
 ⟨{h.c with
   rr:=fun r hr a d hi ra e=>(h.c.rr r hr a d hi ra e).imp (fun⟨x,y⟩=>⟨x,f _ y⟩) id
   rs:=fun r hr hc a d hi ra e=>(h.c.rs r hr hc a d hi ra e).imp (fun⟨x,y⟩=>⟨x,f _ y⟩) id},h.st,h.kr,h.dv⟩
theorem Bi.off(h:Bi aa H on b) (hu:aA b k=true) (g:∀y,on y=true→y=k∨on' y=true):Bi aa H on' b:=by
 obtain⟨q,f,j,i⟩:=h.c.up hu;refine⟨{h.c with rr:=fun r hr a e hi ra d=>?_,rs:=fun r hr hc a e hi ra d=>?_},h.st,h.kr,h.dv⟩
 ·
  rcases h.c.rr r hr a e hi ra d with⟨x,y⟩ | z
  ·
   rcases g a y with rfl | y
   ·
    rw [d] at f
    have:=Option.some.inj f
    subst this;refine .inr fun _=>?_;rw [x,h.c.now];exact i.symm
   exact .inl ⟨x,y⟩
  exact .inr z
 rcases h.c.rs r hr hc a e hi ra d with⟨x,y⟩ | z
 ·
  grind
 exact .inr z
theorem Hm(d:aq aa) {aD:List cv}{i:Nat}(hi:i<aa.length) (hr:aF aa i=true) {x:Ask}(a:x∈aa[i].asks):bP aa x∈cS aa aD i:=by
 obtain⟨q,e⟩:=List.mem_iff_getElem?.1 a
 have c:q<cN aa i:=by grind [cN]
 have h1:=jf (aD:=aD) c
 grind [eh,qd,pd]
theorem Cons.lead(h:Cons aa H on b) {x y:Key}(a:bU b.ah b.ad x=true) (hl:bR b.ah b.ad x y):(aC b.ah x).av≤(aC b.ah y).av:=by
 have step:∀x y,bU b.ah b.ad x=true→Ld b.ah b.ad x y→(aC b.ah x).av≤(aC b.ah y).av:=by
  intro x y a c;obtain⟨r,h1,d,g,i⟩:=bS.1 a;obtain⟨q,g1,g2,g3,g4⟩:=bS.1 c.2;have f:=c.1;rw [aQ h1] at f;rw [aQ h1,aQ g1]
  rcases h.rs r (aK h1).1 (by rw [(aK h1).2];exact d) y f g2 q g1 with⟨e,_⟩ | e
  ·
   omega
  exact e
 induction hl with
 | one h1=>exact step _ _ a h1
 | step h1 d j=>grind [bR.gC]
theorem Bi.key(h:Bi aa H on b) (hl:Live b.ah b.ad k):∃i:Nat,i<aa.length∧k=aM aa (i:Int):=by
 obtain⟨r,h1,_⟩:=hl;obtain⟨a,c⟩:=aK h1;obtain⟨i,hi,e⟩:=h.kr r a
 grind
theorem jW{l:List Rec}{rev:Int}{y:Key}(hl:Live l rev k) (a:y∈aB l rev k):Live l rev y:=by
 rcases cL.1 a with rfl | ⟨_,m⟩
 ·
  exact hl
 exact .yV m.gC
theorem Bi.fixed(g:aq aa) (h:Bi aa H on b) (hl:Live b.ah b.ad k)
  (p:∀m∈aB b.ah b.ad k,∀a∈(aC b.ah m).reads,a∉aB b.ah b.ad k→valOf aa (H (aC b.ah m).av) a=valOf aa b.ab a) :
  ∀m∈aB b.ah b.ad k,valOf aa b.ab m=valOf aa (H (aC b.ah m).av) m∧na aa b.ab m=na aa (H (aC b.ah m).av) m:=by
 have E:=g.len
 have f:∀m∈aB b.ah b.ad k,∃i:Nat,i<aa.length∧m=aM aa (i:Int)∧(aC b.ah m).reads=cS aa (H (aC b.ah m).av) i:=fun m hm=>by
  have u:=jW hl hm;obtain⟨i,hi,e⟩:=h.key u;obtain⟨r,h1,_⟩:=u;refine⟨i,hi,e,?_⟩;have w:=(h.c.vr r (aK h1).1).2;rw [aQ h1,w,(aK h1).2,e,gj g hi]
 cases hc:ax k with
 | false=>
  rw [iv hc] at p f ⊢;intro m hm;rw [List.mem_singleton] at hm;subst hm;obtain⟨i,hi,e,f⟩:=f m (by simp)
  have A:=uK g hi (aD:=H (aC b.ah m).av) (qe:=b.ab) fun a o=>by
   refine p m (by simp) a (by rw [f];exact o) fun hm=>?_;rw [List.mem_singleton] at hm;rw [e] at hm;rw [e,bE hi (by omega)] at hc
   rcases o8 g hi a o with⟨n,hn,rfl⟩ | ⟨j,d,rfl,_,F,_⟩
   ·
    grind [bB,dr]
   grind [dX]
  grind [gj]
 | true=>
  have B:=hl.gC hc
  have ht:∀m∈aB b.ah b.ad k,(aC b.ah m).av=(aC b.ah k).av:=fun m hm=>by
   rcases cL.1 hm with rfl | ⟨_,m1,m2⟩
   ·
    rfl
   have a1:=h.c.lead B m1;have a2:=h.c.lead m1.gC m2
   omega
  have C:∀j:Nat,j<aa.length→aM aa (j:Int)∈aB b.ah b.ad k→aF aa j=true:=fun j d hm=>by
   have h1:bU b.ah b.ad (aM aa (j:Int))=true:=by grind [cL,xM.gC]
   grind [bS,bE]
  have D:∀j:Nat,j<aa.length→aM aa (j:Int)∈aB b.ah b.ad k→valOf aa (H (aC b.ah k).av) (aM aa (j:Int))=valOf aa b.ab (aM aa (j:Int)):=fun j d hm=>by
   refine Eg g (G:=fun j=>j<aa.length∧aM aa (j:Int)∈aB b.ah b.ad k) (fun j d=>⟨d.1,C j d.1 d.2⟩) (fun j d r x hr I J=>?_) ⟨d,hm⟩
   grind [dX,Hm]
  intro m hm;obtain⟨i,hi,e,f⟩:=f m hm;have h1:=D i hi (e ▸ hm);rw [ht m hm] at f ⊢;refine⟨by rw [e];exact h1.symm,?_⟩
  have A:=uK g hi (aD:=H (aC b.ah k).av) (qe:=b.ab) fun a o=>by grind
  grind [gj]
theorem iw(rev:Int) (g:List Key) (d:Bool) (r:Rec):(a7 rev g d r).value=r.value∧(a7 rev g d r).changed=r.changed:=by
 unfold a7
 grind
theorem Bi.mark(F:aq aa) (h:Bi aa H on b) (hl:Live b.ah b.ad k)
  (A:∀m∈aB b.ah b.ad k,∀a∈(aC b.ah m).reads,a∉aB b.ah b.ad k→valOf aa (H (aC b.ah m).av) a=valOf aa b.ab a∧(ay a=true∨(on a=true∧ax a=true)∨aA b a=true)) :
  Bi aa H on (cH b (aB b.ah b.ad k) false):=by
 have C:=h.fixed F hl fun m hm a d I=>(A m hm a d I).1
 generalize J:aB b.ah b.ad k=G at C A
 have K:∀a ra,a∈G→az b.ah a=some ra→ra.value=valOf aa b.ab a:=fun a ra d f=>by
  have h1:=(h.c.vr ra (aK f).1).1;have o:=(C a d).1;rw [aQ f] at o;rw [h1,(aK f).2,o]
 have B:∀r:Rec,r.key∈G→(a7 b.ad G false r).av=b.ad:=fun r hr=>by
  unfold a7
  rw [if_pos hr]
  rfl
 have p:∀r:Rec,r.key∉G→a7 b.ad G false r=r:=fun r hr=>by
  unfold a7
  rw [if_neg hr]
 refine⟨⟨h.c.now,h.c.eJ,fun r' g=>?_,fun r' g=>?_,fun r' g a d hi M u=>?_,fun r' g hc a d hi M u=>?_⟩,h.st.map fun r=>(cQ _ _ _ r).1,fun r' g=>?_,fun r' g D=>?_⟩
 ·
  obtain⟨r,hr,rfl⟩:=List.mem_map.1 g;have h1:=h.c.Eh r hr
  by_cases e:r.key∈G
  ·
   rw [B r e,(iw _ _ _ r).2];exact⟨Int.le_refl _,by omega⟩
  rw [p r e];exact h1
 ·
  obtain⟨r,hr,rfl⟩:=List.mem_map.1 g;have h1:=h.c.vr r hr
  by_cases e:r.key∈G
  ·
   have i:=hJ h.st hr;have o:=C r.key e;rw [aQ i] at o;rw [B r e,(iw _ _ _ r).1,(cQ _ _ _ r).1,(cQ _ _ _ r).2,h.c.now,o.1,o.2];exact h1
  rw [p r e];exact h1
 ·
  obtain⟨r,hr,rfl⟩:=List.mem_map.1 g;rw [show(cH b G false).ah=b.ah.map (a7 b.ad G false) from rfl,bZ] at u;obtain⟨ra,f,rfl⟩:=Option.map_eq_some_iff.1 u;have i:=hJ h.st hr;rw [(cQ _ _ _ r).2] at d;rw [(iw _ _ _ ra).1,(iw _ _ _ ra).2]
  show((a7 b.ad G false r).av=b.ad∧_)∨_
  by_cases e:r.key∈G
  ·
   rw [B r e]
   by_cases w:a∈G
   ·
    refine .inr fun _=>?_;rw [h.c.now];exact(K a ra w f).symm
   rcases(A r.key e a (by rw [aQ i];exact d) w).2 with h1 | h1 | h1
   ·
    rw [hi] at h1
    cases h1
   ·
    exact .inl ⟨rfl,h1.1⟩
   refine .inr fun _=>?_;obtain⟨q,E,_,O⟩:=h.c.up h1;rw [f] at E
   have:=Option.some.inj E
   subst this;rw [h.c.now];exact O.symm
  rw [p r e];exact h.c.rr r hr a d hi ra f
 ·
  obtain⟨r,hr,rfl⟩:=List.mem_map.1 g;rw [show(cH b G false).ah=b.ah.map (a7 b.ad G false) from rfl,bZ] at u;obtain⟨ra,f,rfl⟩:=Option.map_eq_some_iff.1 u;have i:=hJ h.st hr;rw [(cQ _ _ _ r).2] at d;rw [(cQ _ _ _ r).1] at hc
  show((a7 b.ad G false r).av=b.ad∧_)∨_
  have P:=(aK f).2;have hle:=(h.c.Eh r hr).1
  by_cases e:r.key∈G
  ·
   rw [B r e]
   by_cases w:a∈G
   ·
    grind
   rcases(A r.key e a (by rw [aQ i];exact d) w).2 with h1 | h1 | h1
   ·
    obtain⟨j,Q,R⟩:=h.kr ra (aK f).1
    grind [aq.len,dr]
   ·
    exact .inl ⟨rfl,h1.1⟩
   obtain⟨q,E,T⟩:=aT.1 h1
   grind
  rw [p r e]
  rcases h.c.rs r hr hc a d hi ra f with h1 | h1
  ·
   exact .inl h1
  refine .inr ?_
  by_cases w:ra.key∈G
  ·
   grind
  grind
 ·
  obtain⟨r,hr,rfl⟩:=List.mem_map.1 g;rw [(cQ _ _ _ r).1];exact h.kr r hr
 obtain⟨r,hr,rfl⟩:=List.mem_map.1 g
 by_cases e:r.key∈G
 ·
  have i:=hJ h.st hr;obtain⟨q,g1,g2,_⟩:=jW hl (y:=r.key) (by rw [J];exact e);rw [i] at g1
  have:=Option.some.inj g1
  subst this
  unfold a7 at D
  grind
 rw [p r e] at D ⊢;exact h.dv r hr D
theorem Bi.bu(h:Bi aa H on b) {G:List Key}(o:∀m∈G,Live b.ah b.ad m):Bi aa H on (cH b G true):=by
 have hm:∀r:Rec,(a7 b.ad G true r).av=r.av:=fun r=>by
  unfold a7
  grind
 refine⟨⟨h.c.now,h.c.eJ,fun r' d=>?_,fun r' d=>?_,fun r' d a f hi p g=>?_,fun r' d hc a f hi p g=>?_⟩,h.st.map fun r=>(cQ _ _ _ r).1,fun r' d=>?_,fun r' d i=>?_⟩
 ·
  obtain⟨r,hr,rfl⟩:=List.mem_map.1 d;rw [hm,(iw _ _ _ r).2];exact h.c.Eh r hr
 ·
  obtain⟨r,hr,rfl⟩:=List.mem_map.1 d;rw [hm,(iw _ _ _ r).1,(cQ _ _ _ r).1,(cQ _ _ _ r).2];exact h.c.vr r hr
 ·
  obtain⟨r,hr,rfl⟩:=List.mem_map.1 d;rw [show(cH b G true).ah=b.ah.map (a7 b.ad G true) from rfl,bZ] at g;obtain⟨ra,j,rfl⟩:=Option.map_eq_some_iff.1 g;rw [(cQ _ _ _ r).2] at f;rw [hm,(iw _ _ _ ra).1,(iw _ _ _ ra).2];exact h.c.rr r hr a f hi ra j
 ·
  obtain⟨r,hr,rfl⟩:=List.mem_map.1 d;rw [show(cH b G true).ah=b.ah.map (a7 b.ad G true) from rfl,bZ] at g;obtain⟨ra,j,rfl⟩:=Option.map_eq_some_iff.1 g;rw [(cQ _ _ _ r).2] at f;rw [(cQ _ _ _ r).1] at hc;rw [hm,hm];exact h.c.rs r hr hc a f hi ra j
 ·
  obtain⟨r,hr,rfl⟩:=List.mem_map.1 d;rw [(cQ _ _ _ r).1];exact h.kr r hr
 obtain⟨r,hr,rfl⟩:=List.mem_map.1 d;rw [hm]
 by_cases e:r.key∈G
 ·
  obtain⟨q,g1,_,g2⟩:=o _ e;rw [hJ h.st hr] at g1
  have:=Option.some.inj g1
  subst this;exact g2
 unfold a7 at i
 rw [if_neg e] at i;exact h.dv r hr i
theorem Bi.put(A:aq aa) (h:Bi aa H on b) {i:Nat}(hi:i<aa.length) (G:ax (aM aa (i:Int))=true→on (aM aa (i:Int))=true)
  (C:∀a∈cS aa b.ab i,ay a=true∨(on a=true∧ax a=true)∨aA b a=true) :
  Bi aa H on {b with ah:=ey b.ah (bJ b (aM aa (i:Int)) (valOf aa b.ab (aM aa (i:Int))) (cS aa b.ab i))}:=by
 have M:=A.len
 generalize g:bJ b (aM aa (i:Int)) (valOf aa b.ab (aM aa (i:Int))) (cS aa b.ab i)=q
 have q1:q.key=aM aa (i:Int):=by rw [← g];rfl
 have m:q.av=b.ad:=by rw [← g];rfl
 have D:q.value=valOf aa b.ab (aM aa (i:Int)):=by rw [← g];rfl
 have w:q.reads=cS aa b.ab i:=by rw [← g];rfl
 have E:(∃r,az b.ah q.key=some r∧r.value=q.value∧q.changed=r.changed)∨q.changed=b.ad:=by
  rw [← g]
  unfold bJ
  simp only
  split
  ·
   rename_i hc
   simp only [Bool.and_eq_true,decide_eq_true_eq] at hc;obtain⟨r,hr⟩:=Option.isSome_iff_exists.1 hc.1;rw [aQ hr] at hc ⊢;exact .inl ⟨r,hr,hc.2,rfl⟩
  exact .inr rfl
 refine⟨⟨h.c.now,h.c.eJ,fun r hr=>?_,fun r hr=>?_,fun r hr a f u ra d=>?_,fun r hr hc a f u ra d=>?_⟩,pG.put h.st,fun r hr=>?_,fun r hr B=>?_⟩
 ·
  rcases gA _ _ _ _ hr with rfl | hr
  ·
   refine⟨by rw [m];exact Int.le_refl _,?_⟩
   rcases E with⟨p,o,_,e⟩ | e
   ·
    have:=h.c.Eh p (aK o).1
    omega
   omega
  exact h.c.Eh r hr
 ·
  rcases gA _ _ _ _ hr with rfl | hr
  ·
   rw [q1,m,D,w,h.c.now,gj A hi];exact⟨rfl,rfl⟩
  exact h.c.vr r hr
 ·
  rw [show({b with ah:=ey b.ah q}:cy).ah=ey b.ah q from rfl,cT] at d
  show(r.av=b.ad∧_)∨_
  rcases gA _ _ _ _ hr with rfl | hr
  ·
   by_cases e:a=r.key
   ·
    refine .inl ⟨m,?_⟩;rw [e,q1];refine G ?_;rw [w] at f;rw [bE hi (by omega)]
    cases O:aF aa i with
    | true=>rfl
    | false=>
     rcases o8 A hi a f with⟨n,hn,h1⟩ | ⟨j,F,h1,_,P,_⟩
     ·
      grind [bB]
     grind [dX]
   rw [if_neg e] at d
   rcases C a (by rw [← w];exact f) with h1 | h1 | h1
   ·
    rw [u] at h1
    cases h1
   ·
    exact .inl ⟨m,h1.1⟩
   refine .inr fun _=>?_;obtain⟨p,o,_,I⟩:=h.c.up h1;rw [d] at o
   have:=Option.some.inj o
   subst this;rw [m,h.c.now];exact I.symm
  by_cases e:a=q.key
  ·
   rw [if_pos e] at d
   have:=Option.some.inj d
   subst this
   rcases E with⟨p,o,e2,e3⟩ | e2
   ·
    rcases h.c.rr r hr a f u p (by rw [e];exact o) with h1 | h1
    ·
     exact .inl h1
    grind
   refine .inr fun hc=>?_;have h1:=(h.c.Eh r hr).1
   have J:r.av=b.ad:=by omega
   rw [J,h.c.now,D,e,q1]
  rw [if_neg e] at d;exact h.c.rr r hr a f u ra d
 ·
  rw [show({b with ah:=ey b.ah q}:cy).ah=ey b.ah q from rfl,cT] at d
  show(r.av=b.ad∧_)∨_
  rcases gA _ _ _ _ hr with rfl | hr
  ·
   by_cases e:a=r.key
   ·
    grind
   rw [if_neg e] at d
   rcases C a (by rw [← w];exact f) with h1 | h1 | h1
   ·
    obtain⟨j,F,K⟩:=h.kr ra (aK d).1;rw [← (aK d).2,K,dr F (by omega)] at h1
    cases h1
   ·
    exact .inl ⟨m,h1.1⟩
   grind [aT]
  by_cases e:a=q.key
  ·
   rw [if_pos e] at d
   have:=Option.some.inj d
   subst this
   have:=(h.c.Eh r hr).1
   exact .inr (by omega)
  rw [if_neg e] at d;exact h.c.rs r hr hc a f u ra d
 ·
  rcases gA _ _ _ _ hr with rfl | hr
  ·
   exact⟨i,hi,q1⟩
  exact h.kr r hr
 rcases gA _ _ _ _ hr with rfl | hr
 ·
  have:r.bu=false:=by rw [← g];rfl
  rw [this] at B
  cases B
 exact h.dv r hr B
end
end Go.Rc

namespace Go.Rc
open Go
def Mo(val:Key→ByteArray) (b:cy) (y:Key):Prop:=∃m a,m∈aB b.ah b.ad y∧a∈(aC b.ah m).reads∧a∉aB b.ah b.ad y∧(aC b.ah m).av<aV val b a
def Hn(val:Key→ByteArray) (b:cy) (y:Key):Prop:=ay y=false∧aA b y=false∧(az b.ah y=none∨(aC b.ah y).bu=true∨Mo val b y)
section
variable {aa:List aG}{H:Int→List cv}{on:Key→Bool}{b b0:cy}{k:Key}{s t:ES}
def ES.AF(s:ES) (k:Key):Bool:=s.on k && ax k
theorem Ej(h:s.on k=true∧ax k=true):s.AF k=true:=by grind [ES.AF]
structure Wy (aa:List aG) (b0:cy) (s:ES):Prop where
 rev:s.b.ad=b0.ad
 aD:s.b.ab=b0.ab
 ev:iS (valOf aa b0.ab) (fun _=>True) s.bf b0.ad b0.ah s.b.ah
 Lm:∀y r,az s.b.ah y=some r→r.bu=true→(aC b0.ah y).bu=true∨Mo (valOf aa b0.ab) b0 y
 bf:∀y∈s.bf,Hn (valOf aa b0.ab) b0 y
 Jw:∀y∈s.bf,aA s.b y=true
 mrk:∀y,aA b0 y=false→aA s.b y=true→y∈s.bf∨¬Mo (valOf aa b0.ab) b0 y
 j0:s.bf.Nodup
theorem oA{val:Key→ByteArray}(hi:ay k=false) (h:az b.ah k=none):aV val b k=b.ad:=by grind [aV]
theorem eQ{val:Key→ByteArray}(hi:ay k=false) {r:Rec}(h:az b.ah k=some r):aV val b k=if r.av=b.ad∨val k=r.value then r.changed else b.ad:=by
 unfold aV
 rw [hi,aQ h,h]
 grind
theorem Wy.changed(i:Bi aa H on s.b) (h:Wy aa b0 s) (a:Key):aV (valOf aa b0.ab) s.b a=aV (valOf aa b0.ab) b0 a:=by
 cases hi:ay a with
 | true=>
  unfold aV
  rw [hi,if_pos rfl,if_pos rfl,h.aD]
 | false=>
  rcases h.ev.pt a with e | ⟨_,r,e1,e2,e3,e4 | e4⟩ | ⟨_,e2,r',e3,e4,e5,e6,j,e8⟩
  ·
   cases d:az b0.ah a with
   | none=>grind [oA,rev]
   | some r=>rw [eQ hi (e.trans d),eQ hi d,h.rev]
  ·
   have hu:aA s.b a=true:=aT.2 ⟨_,e4,h.rev.symm⟩;obtain⟨q,f,_,g⟩:=i.c.up hu;rw [e4] at f
   have:=Option.some.inj f
   subst this;rw [h.aD] at g;rw [eQ hi e4,eQ hi e1,if_pos (.inl h.rev.symm),if_pos (.inr g.symm)]
  ·
   rw [eQ hi e4,eQ hi e1,h.rev]
  rw [eQ hi e3,if_pos (.inl (e4.trans h.rev.symm))]
  cases d:az b0.ah a with
  | none=>rw [oA hi d,e8 d]
  | some r=>
   rw [eQ hi d,j r d,e6]
   grind
theorem Wy.QO(j:Bi aa H on s.b) (h:Wy aa b0 s) (hl:Live s.b.ah s.b.ad k) {m a:Key}(hm:m∈aB s.b.ah s.b.ad k) (g:a∈(aC s.b.ah m).reads) (c:a∉aB s.b.ah s.b.ad k)
  (hc:(aC s.b.ah m).av<aV (valOf aa b0.ab) s.b a):∀y∈aB s.b.ah s.b.ad k,Mo (valOf aa b0.ab) b0 y:=by
 intro y d;rw [h.rev] at hl hm c d;obtain⟨h1,o⟩:=h.ev.group hl;rw [h1] at hm c d;have u:=h.ev.OC hl
 have e:aC s.b.ah m=aC b0.ah m:=by
  unfold aC
  rw [o m hm]
 rw [e] at g hc
 have i:∀z,z∈aB b0.ah b0.ad y↔z∈aB b0.ah b0.ad k:=fun z=>by
  rcases cL.1 d with rfl | ⟨f,p⟩
  ·
   exact Iff.rfl
  exact xN f p z
 exact⟨m,a,(i m).2 hm,g,fun f=>c ((i a).1 f),by rw [← h.changed j a];exact hc⟩
theorem Wy.OD(h:Wy aa b0 s) (hl:Live s.b.ah s.b.ad k) (d:∀m∈aB s.b.ah s.b.ad k,∀a∈(aC s.b.ah m).reads,a∉aB s.b.ah s.b.ad k→aV (valOf aa b0.ab) b0 a≤(aC s.b.ah m).av):∀y∈aB s.b.ah s.b.ad k,¬Mo (valOf aa b0.ab) b0 y:=by
 rintro y c ⟨m,a,hm,i,j,hc⟩;rw [h.rev] at hl d c;obtain⟨h1,o⟩:=h.ev.group hl;rw [h1] at d c
 have p:∀z,z∈aB b0.ah b0.ad y↔z∈aB b0.ah b0.ad k:=fun z=>by
  rcases cL.1 c with rfl | ⟨f,g⟩
  ·
   exact Iff.rfl
  exact xN f g z
 have e:aC s.b.ah m=aC b0.ah m:=by grind [aC]
 grind
theorem Wy.none(h:Wy aa b0 s) (a:az s.b.ah k=none):az b0.ah k=none:=by
 rcases h.ev.pt k with e | ⟨_,r,e1,e2,e3,e4 | e4⟩ | ⟨_,e2,r',e3,_⟩
 ·
  exact e.symm.trans a
 ·
  rw [a] at e4;cases e4
 ·
  rw [a] at e4;cases e4
 rw [a] at e3;cases e3
theorem iS.aA{val:Key→ByteArray}{N:Key→Prop}{bf:List Key}{b b':cy}(h:iS val N bf b.ad b.ah b'.ah) (hr:b'.ad=b.ad) (hu:Rc.aA b k=true):Rc.aA b' k=true:=by
 obtain⟨r,h1,a⟩:=aT.1 hu
 rcases h.pt k with e | ⟨_,q,e1,e2,e3,_⟩ | ⟨_,e2,_⟩
 ·
  exact aT.2 ⟨r,e.trans h1,a.trans hr.symm⟩
 ·
  grind
 have:=e2 r h1
 omega
theorem Gk{G:List Key}(hu:Rc.aA b k=false) (c:Rc.aA (cH b G false) k=true):k∈G:=by
 obtain⟨r',h1,a⟩:=aT.1 c;have d:(az b.ah k).map (a7 b.ad G false)=some r':=bZ.symm.trans h1;obtain⟨r,hr,rfl⟩:=Option.map_eq_some_iff.1 d;have e:=(aK hr).2;refine Classical.byContradiction fun hk=>?_
 unfold a7 at a
 rw [if_neg (by rw [e];exact hk)] at a
 have:=aT.2 ⟨r,hr,a⟩
 rw [hu] at this
 cases this
theorem nq{G:List Key}:Rc.aA (cH b G true) k=Rc.aA b k:=by
 have e:az (cH b G true).ah k=(az b.ah k).map (a7 b.ad G true):=bZ
 have hm:∀r:Rec,(a7 b.ad G true r).av=r.av:=fun r=>by
  unfold a7
  grind
 rw [Bool.eq_iff_iff,aT,aT,e]
 constructor
 ·
  rintro⟨r',h1,a⟩;obtain⟨r,hr,rfl⟩:=Option.map_eq_some_iff.1 h1;rw [hm] at a;exact⟨r,hr,a⟩
 rintro⟨r,h1,a⟩;exact⟨_,by rw [h1];rfl,by rw [hm];exact a⟩
theorem xO{l:List Key}(h:l.Nodup) (hk:k∉l):(l++[k]).Nodup:=by grind
theorem Wy.step{s':ES}(h:Wy aa b0 s) (h1:s'.b.ad=s.b.ad) (e:s'.b.ab=s.b.ab) (c:iS (valOf aa b0.ab) (fun _=>True) s'.bf b0.ad s.b.ah s'.b.ah) (hr:∀y∈s.bf,y∈s'.bf)
  (f:∀y r,az s'.b.ah y=some r→r.bu=true→(aC b0.ah y).bu=true∨Mo (valOf aa b0.ab) b0 y) (hw:∀y∈s'.bf,Hn (valOf aa b0.ab) b0 y) (hn:∀y∈s'.bf,y∈s.bf∨Rc.aA s'.b y=true)
  (hm:∀y,Rc.aA s.b y=false→Rc.aA s'.b y=true→y∈s'.bf∨¬Mo (valOf aa b0.ab) b0 y) (g:s'.bf.Nodup):Wy aa b0 s':=by
 have i:iS (valOf aa b0.ab) (fun _=>True) s'.bf s.b.ad s.b.ah s'.b.ah:=by rw [h.rev];exact c
 refine⟨h1.trans h.rev,e.trans h.aD,(h.ev.mono hr fun _ h=>h).trans c,f,hw,fun y j=>?_,fun y hu m=>?_,g⟩
 ·
  rcases hn y j with a | a
  ·
   exact i.aA h1 (h.Jw y a)
  exact a
 cases d:Rc.aA s.b y with
 | true=>exact(h.mrk y hu d).imp (hr y) id
 | false=>exact hm y d m
theorem Wy.uL(h:Wy aa b0 s) (hu:aA s.b k=false):aA b0 k=false:=by
 cases hb:aA b0 k with
 | false=>rfl
 | true=>
  have:=h.ev.aA h.rev hb
  rw [hu] at this
  cases this
theorem uM(h:az b.ah k=none):aA b k=false:=by
 unfold aA
 rw [h]
 rfl
theorem jg{r:Rec}(h:az b.ah k=some r) (a:r.av<b.ad):aA b k=false:=by grind [aT]
theorem Bi.answer(a:Bi aa H on b) (hk:eG aa k) (ht:ay k=true∨ax k=true∨aA b k=true):bO (valOf aa b.ab) b k=valOf aa b.ab k:=by
 unfold bO
 by_cases hc:ax k=true
 ·
  rw [if_pos hc]
 rw [if_neg hc]
 unfold im
 by_cases hi:ay k=true
 ·
  rw [if_pos hi]
  unfold valOf cellOf
  rw [if_pos hi]
 rw [if_neg hi]
 have hu:aA b k=true:=by grind
 obtain⟨r,d,g,e⟩:=a.c.up hu
 have f:eL b k=true:=by grind [eL,aQ]
 rw [if_pos f,aQ d,e]
theorem qf(h:ei s k=true):ay k=true∨(s.on k=true∧ax k=true)∨aA s.b k=true:=by
 unfold ei at h
 grind
theorem Jx(h:ay k=true∨(s.on k=true∧ax k=true)∨aA s.b k=true):ei s k=true:=by
 unfold ei
 grind
theorem Bi.len(a:Bi aa H on b):b.ah.length≤aa.length:=by
 have h1:(b.ah.map (·.key)).Nodup:=by
  refine List.pairwise_map.2 (a.st.imp fun {x y} h e=>?_);rw [e,ir] at h
  omega
 have c:=eP (S:=(List.range aa.length).map fun i:Nat=>aM aa (i:Int)) h1 fun x d=>by
  obtain⟨r,hr,rfl⟩:=List.mem_map.1 d;obtain⟨i,hi,e⟩:=a.kr r hr
  grind
 simpa using c
/-! ### the order of what is asked -/
theorem rE(c:aq aa) {aD:List cv}{i:Nat}(hi:i<aa.length) {a:Key}(d:a∈cS aa aD i):eW aa i a∧∀m:Nat,m<aa.length→a=aM aa (m:Int)→Lw aa m (nj aa i)∧∀b,Lw aa i b→Lw aa m b:=by grind [List.mem_iff_getElem?,uC,jf,Gd,qd,pd]
theorem Ho(c:aq aa) {aD:List cv}{i:Nat}(hi:i<aa.length) (hr:aF aa i=true) {a:Key}(d:a∈cS aa aD i) (hc:ax a=true):∃j:Nat,j<aa.length∧a=aM aa (j:Int)∧fM aa i j:=by grind [List.mem_iff_getElem?,uC,jf,eh,qd,pd,ja,ib]
theorem sF(f:aq aa) (h:Bi aa H on b) {i:Nat}(hi:i<aa.length) (o:bU b.ah b.ad (aM aa (i:Int))=true) {x:Key}(hl:bR b.ah b.ad (aM aa (i:Int)) x):∃j:Nat,j<aa.length∧x=aM aa (j:Int)∧cV aa i j:=by
 have D:=f.len
 have step:∀(m:Nat) y,m<aa.length→bU b.ah b.ad (aM aa (m:Int))=true→Ld b.ah b.ad (aM aa (m:Int)) y→∃j:Nat,j<aa.length∧y=aM aa (j:Int)∧fM aa m j:=by
  intro m y hm p g;obtain⟨r,h1,a,d,e⟩:=bS.1 p;obtain⟨q,g1,g2,_⟩:=bS.1 g.2;have u:=g.1;rw [aQ h1,(h.c.vr r (aK h1).1).2,(aK h1).2,gj f hm] at u
  grind [bE,Ho]
 induction hl with
 | one h1=>
  obtain⟨j,a,d,e⟩:=step i _ hi o h1;exact⟨j,a,d,.step .refl e⟩
 | step h1 a w=>
  obtain⟨j,d,rfl,e⟩:=w;obtain⟨q,A,B,C⟩:=step j _ d h1.gC a;exact⟨q,A,B,.step e C⟩
theorem Gl(a:aq aa) (d:Bi aa H on b) {i j:Nat}(hi:i<aa.length) (c:j<aa.length) (hl:Live b.ah b.ad (aM aa (i:Int))) (hm:aM aa (j:Int)∈aB b.ah b.ad (aM aa (i:Int))):nj aa j=nj aa i∧∀b,Lw aa i b→Lw aa j b:=by
 have u:=a.len
 rcases cL.1 hm with e | ⟨f,m1,m2⟩
 ·
  have:=dX a c hi e
  grind
 obtain⟨q,g,eq,h1⟩:=sF a d hi f m1
 have:=dX a c g eq
 subst this;obtain⟨p,h,m,o⟩:=sF a d c m1.gC m2
 have:=dX a hi h m
 subst this;have w:=kc a h1;have A:=kc a o;obtain⟨_,_,c1,_⟩:=bS.1 f;obtain⟨_,_,c2,_⟩:=bS.1 m1.gC;rw [bE hi (by omega)] at c1;rw [bE c (by omega)] at c2
 unfold nj Lw
 grind
end
/-! ### a request -/
section
variable {aa:List aG}{H:Int→List cv}{b0:cy}
structure Rs (aa:List aG) (H:Int→List cv) (b0:cy) (N:Key→Prop) (s s':ES):Prop where
 e:s'.e=0
 bi:Bi aa H s.AF s'.b
 ev:iS (valOf aa b0.ab) N s'.bf b0.ad s.b.ah s'.b.ah
 wy:Wy aa b0 s'
theorem Rs.refl{N:Key→Prop}{s:ES}(he:s.e=0) (a:Bi aa H s.AF s.b) (c:Wy aa b0 s):Rs aa H b0 N s s:=⟨he,a,.refl _,c⟩
theorem Rs.trans{N:Key→Prop}{s t u:ES}(h:Rs aa H b0 N s t) (a:Rs aa H b0 N t u) (hr:∀y∈t.bf,y∈u.bf) (c:∀k,t.on k=s.on k):Rs aa H b0 N s u:=
 ⟨a.e,a.bi.Mn fun k hk=>by grind [ES.AF],(h.ev.mono hr fun _ h=>h).trans a.ev,a.wy⟩
def Ps(aa:List aG) (H:Int→List cv) (b0:cy) (s:ES) (k:Key) (n:Nat):Prop:=
 Live s.b.ah s.b.ad k→∀j c,j<n→(bT s.b.ah (aB s.b.ah s.b.ad k))[j]?=some c→
  valOf aa (H (aC s.b.ah c.dP).av) c.read=valOf aa b0.ab c.read∧(ay c.read=true∨(s.on c.read=true∧ax c.read=true)∨aA s.b c.read=true)∧aV (valOf aa b0.ab) b0 c.read≤(aC s.b.ah c.dP).av
theorem uN{val:Key→ByteArray}:∀f,(∀s k s',kU aa val f s k=some s'→∀y∈s.bf,y∈s'.bf)∧(∀s k n s' b,cO aa val f s k n=some (s',b)→∀y∈s.bf,y∈s'.bf)∧(∀s k r a s',gO aa val f s k r a=some s'→∀y∈s.bf,y∈s'.bf):=by
 intro f
 induction f with
 | zero=>grind [kU,cO,gO]
 | succ f d=>
  obtain⟨i,e,j⟩:=d;refine⟨?_,?_,?_⟩
  ·
   intro s k s' h y c
   unfold kU at h
   split at h
   ·
    cases h;exact c
   split at h
   ·
    cases h;exact c
   split at h
   ·
    grind
   obtain⟨p,g,h⟩:=Option.bind_eq_some_iff.1 h;obtain⟨t,ht,h⟩:=Option.bind_eq_some_iff.1 h
   cases h
   have h1:=e _ _ _ p.1 p.2 g y c
   grind
  ·
   grind [cO,Option.bind_eq_some_iff]
  grind [gO,Option.bind_eq_some_iff]
def UpR(aa:List aG) (H:Int→List cv) (b0:cy) (f:Nat):Prop:=∀s k s',kU aa (valOf aa b0.ab) f s k=some s'→Good aa b0.ab s→s.e=0→Bi aa H s.AF s.b→Wy aa b0 s→eG aa k→(∀i:Nat,i<aa.length→k=aM aa (i:Int)→ack aa s i)→Rs aa H b0 (fun y=>s.on y=false) s s'
def ChR(aa:List aG) (H:Int→List cv) (b0:cy) (f:Nat):Prop:=∀s (i n:Nat) s' c,cO aa (valOf aa b0.ab) f s (aM aa (i:Int)) n=some (s',c)→Good aa b0.ab s→s.e=0→Bi aa H s.AF s.b→Wy aa b0 s→i<aa.length→s.on (aM aa (i:Int))=true→Uu aa s i→Ps aa H b0 s (aM aa (i:Int)) n→
 Rs aa H b0 (fun y=>s.on y=false∨y=aM aa (i:Int)) s s'∧(c=true→bU s'.b.ah b0.ad (aM aa (i:Int))=false∧aA s'.b (aM aa (i:Int))=false∧Hn (valOf aa b0.ab) b0 (aM aa (i:Int)))
def RuR(aa:List aG) (H:Int→List cv) (b0:cy) (f:Nat):Prop:=∀s (i n:Nat) s',gO aa (valOf aa b0.ab) f s (aM aa (i:Int)) (dW (cq aa (aM aa (i:Int))) (valOf aa b0.ab) n).1 (dW (cq aa (aM aa (i:Int))) (valOf aa b0.ab) n).2=some s'→Good aa b0.ab s→s.e=0→Bi aa H s.AF s.b→Wy aa b0 s→i<aa.length→n≤cN aa i→s.on (aM aa (i:Int))=true→Uu aa s i→
 bU s.b.ah b0.ad (aM aa (i:Int))=false→aA s.b (aM aa (i:Int))=false→Hn (valOf aa b0.ab) b0 (aM aa (i:Int))→(∀a∈(dW (cq aa (aM aa (i:Int))) (valOf aa b0.ab) n).1,ei s a=true)→
 Rs aa H b0 (fun y=>s.on y=false∨y=aM aa (i:Int)) s s'
theorem Bi.jt{s t:ES}(h:Bi aa H s.AF t.b) (hk:iD s t):Bi aa H t.AF t.b:=h.Mn fun k a=>by grind [ES.AF,iD.on]
theorem Uu.jt{s t:ES}{i:Nat}(h:Uu aa s i) (hk:iD s t):Uu aa t i:=fun j a c=>h j a (by rw [← hk.on];exact c)
theorem Rs.mono{N N':Key→Prop}{s s':ES}(h:Rs aa H b0 N s s') (a:∀y,N y→N' y):Rs aa H b0 N' s s':=⟨h.e,h.bi,h.ev.mono (fun _ h=>h) a,h.wy⟩
theorem sG(rev:Int) (G:List Key) (r:Rec):(a7 rev G false r).bu=r.bu:=by
 unfold a7
 grind
theorem yW(B:aq aa):∀f,UpR aa H b0 f∧ChR aa H b0 f∧RuR aa H b0 f:=by
 have Ik:=B.len;intro f
 induction f with
 | zero=>exact⟨fun s k s' h=>by simp [kU] at h,fun s i n s' c h=>by simp [cO] at h,fun s i n s' h=>by simp [gO] at h⟩
 | succ f ih=>
  obtain⟨ihu,ihc,ihr⟩:=ih;have gd:=ct (val:=valOf aa b0.ab) (aD:=b0.ab) B f;have kp:=iu (val:=valOf aa b0.ab) (aD:=b0.ab) B f;have rn:=uN (aa:=aa) (val:=valOf aa b0.ab) f;refine⟨?_,?_,?_⟩
  ·
   intro s k s' h D he o d hk Il
   unfold kU at h
   split at h
   ·
    cases h;exact .refl he o d
   rename_i he2
   have P:ay k=false:=by simp at he2;exact he2.2
   split at h
   ·
    cases h;exact .refl he o d
   rename_i hu
   obtain⟨i,hi,rfl,_⟩:=hk.gF P
   split at h
   ·
    rename_i ho
    split at h
    ·
     cases h;exact .refl he o d
    rename_i hc
    have h1:=Il i hi rfl i hi ho
    grind [bE,Lw,nj]
   rename_i ho
   have Lj:s.on (aM aa (i:Int))=false:=by simpa using ho
   obtain⟨⟨s2,c2⟩,J,h⟩:=Option.bind_eq_some_iff.1 h;obtain⟨s3,ht,h⟩:=Option.bind_eq_some_iff.1 h;simp only [Option.some.injEq] at h;subst h;have QP:∀y,ES.on {s with busy:=cJ s.busy (aM aa (i:Int)) (.bool true)} y=(decide (aM aa (i:Int)=y) || s.on y):=fun y=>nc s _ y;have Im:=D.on (aM aa (i:Int))
   generalize mi:({s with busy:=cJ s.busy (aM aa (i:Int)) (.bool true)}:ES)=s1 at J QP Im
   have e1:s1.b=s.b:=by rw [← mi]
   have e2:s1.bf=s.bf:=by rw [← mi]
   have e3:s1.e=0:=by rw [← mi];exact he
   have VF:s1.on (aM aa (i:Int))=true:=by rw [QP];simp
   have hB1:Bi aa H s1.AF s1.b:=by
    rw [e1];refine o.Mn fun y g=>?_
    unfold ES.AF at g ⊢
    grind
   have hW1:Wy aa b0 s1:=⟨by rw [e1];exact d.rev,by rw [e1];exact d.aD,by rw [e1,e2];exact d.ev,by rw [e1];exact d.Lm,by rw [e2];exact d.bf,by rw [e1,e2];exact d.Jw,by rw [e1,e2];exact d.mrk,by rw [e2];exact d.j0⟩
   have OE:Uu aa s1 i:=fun j w F=>by
    rw [QP] at F;simp only [Bool.or_eq_true,decide_eq_true_eq] at F
    rcases F with F | F
    ·
     exact .inl (dX B w hi F.symm)
    exact .inr (Il i hi rfl j w F)
   obtain⟨c1,c3⟩:=ihc s1 i 0 s2 c2 J Im e3 hB1 hW1 hi VF OE fun _ j c w=>by omega
   obtain⟨k1,k2,_⟩:=kp.2.1 _ _ _ _ _ J Im;have hg2:=(gd.2.1 _ _ _ _ _ J Im).1
   have key:Rs aa H b0 (fun y=>s1.on y=false∨y=aM aa (i:Int)) s1 s3∧aA s3.b (aM aa (i:Int))=true:=by
    cases c2 with
    | false=>
     simp only [Bool.false_eq_true,if_false,Option.some.injEq] at ht;subst ht;exact⟨c1,(k2 c1.e).2 rfl⟩
    | true=>
     simp only [if_true] at ht;obtain⟨d1,d2,d3⟩:=c3 rfl
     have r2:=ihr s2 i 0 s3 ht hg2 c1.e (c1.bi.jt k1) c1.wy hi (Nat.zero_le _) (by rw [k1.on];exact VF) (OE.jt k1) d1 d2 d3 fun a A=>by simp [dW] at A
     refine⟨c1.trans (r2.mono fun y g=>by rw [← k1.on];exact g) (rn.2.2 _ _ _ _ _ ht) k1.on,?_⟩;exact((kp.2.2 _ _ _ _ _ ht hg2 (hk.gF P)).2.1 r2.e).2
   obtain⟨r3,hu3⟩:=key;refine⟨r3.e,?_,?_,⟨r3.wy.rev,r3.wy.aD,r3.wy.ev,r3.wy.Lm,r3.wy.bf,r3.wy.Jw,r3.wy.mrk,r3.wy.j0⟩⟩
   ·
    refine r3.bi.off hu3 fun y g=>?_
    unfold ES.AF at g ⊢
    grind
   have:=r3.ev
   rw [e1] at this;refine this.mono (fun _ h=>h) fun y g=>?_
   grind
  ·
   intro s i n s' c h D he o d hi V Q R;have P:ay (aM aa (i:Int))=false:=dr hi (by omega)
   unfold cO at h
   rw [if_neg (by simp [he])] at h
   split at h
   ·
    rename_i hc
    simp only [Option.some.injEq,Prod.mk.injEq] at h;obtain⟨rfl,rfl⟩:=h;refine⟨.refl he o d,fun _=>?_⟩
    cases u:az s.b.ah (aM aa (i:Int)) with
    | none=>
     refine⟨?_,uM u,P,d.uL (uM u),.inl (d.none u)⟩;rw [Bool.eq_false_iff]
     grind [bS]
    | some r=>
     rw [u,aQ u] at hc
     have C:r.bu=true:=by simpa using hc
     have W:=o.dv r (aK u).1 C;refine⟨?_,jg u W,P,d.uL (jg u W),.inr (d.Lm _ r u C)⟩;rw [Bool.eq_false_iff]
     grind [bS]
   rename_i hc
   split at h
   ·
    simp only [Option.some.injEq,Prod.mk.injEq] at h;obtain⟨rfl,rfl⟩:=h;exact⟨.refl he o d,fun e=>by cases e⟩
   rename_i W
   have hl:Live s.b.ah s.b.ad (aM aa (i:Int)):=by
    cases u:az s.b.ah (aM aa (i:Int)) with
    | none=>rw [u] at hc;simp at hc
    | some r=>
     rw [u,aQ u] at hc;rw [aQ u] at W;have h1:=(o.c.Eh r (aK u).1).1;exact⟨r,u,by simpa using hc,by omega⟩
   have R:=R hl
   have VG:aA s.b (aM aa (i:Int))=false:=by
    obtain⟨r,h1,_,T⟩:=hl;exact jg h1 T
   split at h
   ·
    rename_i hn
    simp only [Option.some.injEq,Prod.mk.injEq] at h;obtain⟨rfl,rfl⟩:=h
    have J:∀m∈aB s.b.ah s.b.ad (aM aa (i:Int)),∀a∈(aC s.b.ah m).reads,a∉aB s.b.ah s.b.ad (aM aa (i:Int))→valOf aa (H (aC s.b.ah m).av) a=valOf aa s.b.ab a∧(ay a=true∨(s.AF a=true∧ax a=true)∨aA s.b a=true):=fun m hm a A X=>by
     have oQ:(⟨m,a⟩:od)∈bT s.b.ah (aB s.b.ah s.b.ad (aM aa (i:Int))):=dH.2 ⟨hm,A,X⟩;obtain⟨j,w⟩:=List.mem_iff_getElem?.1 oQ;have h1:=(List.getElem?_eq_some_iff.1 w).1;have T:=List.getElem?_eq_none_iff.1 hn;have h3:=R j ⟨m,a⟩ (by omega) w;rw [d.aD];exact⟨h3.1,h3.2.1.imp id (Or.imp (fun p=>⟨Ej p,p.2⟩) id)⟩
    have yB:=d.OD hl fun m hm a A X=>by
     have oQ:(⟨m,a⟩:od)∈bT s.b.ah (aB s.b.ah s.b.ad (aM aa (i:Int))):=dH.2 ⟨hm,A,X⟩;obtain⟨j,w⟩:=List.mem_iff_getElem?.1 oQ;have h1:=(List.getElem?_eq_some_iff.1 w).1;have T:=List.getElem?_eq_none_iff.1 hn;exact(R j ⟨m,a⟩ (by omega) w).2.2
    have E:∀N:Key→Prop,N (aM aa (i:Int))→iS (valOf aa b0.ab) N s.bf b0.ad s.b.ah (cH s.b (aB s.b.ah s.b.ad (aM aa (i:Int))) false).ah:=fun N hN=>by
     rw [← d.rev];exact iS.mark hl false (.inr hN)
    refine⟨⟨he,o.mark B hl J,E _ (.inr rfl),d.step rfl rfl (E _ trivial) (fun _ h=>h) (fun y r' u C=>?_) d.bf (fun _ h=>.inl h) (fun y hu Jy=>.inr (yB y (Gk hu Jy))) d.j0⟩,fun e=>by cases e⟩;have K:(az s.b.ah y).map (a7 s.b.ad (aB s.b.ah s.b.ad (aM aa (i:Int))) false)=some r':=bZ.symm.trans u;obtain⟨r,hr,rfl⟩:=Option.map_eq_some_iff.1 K;rw [sG] at C;exact d.Lm y r hr C
   rename_i c0 Uv
   obtain⟨hm,A,X⟩:=dH.1 (List.mem_of_getElem? Uv);obtain⟨j,w,ej⟩:=o.key (jW hl hm);obtain⟨rm,g1,g2,g3⟩:=jW hl hm;have M:eG aa c0.read:=fP D Uv
   split at h
   ·
    obtain⟨t,ht,h⟩:=Option.bind_eq_some_iff.1 h
    have BP:=rE B (aD:=H rm.av) w (a:=c0.read) (by
     have h1:=(o.c.vr rm (aK g1).1).2;rw [(aK g1).2,ej,gj B w] at h1
     grind [aQ])
    have r1:=ihu s c0.read t ht D he o d M fun q hq eq p J hpo=>by
     obtain⟨G,h5⟩:=BP.2 q hq eq;obtain⟨g4,g5⟩:=Gl B o hi w hl (ej ▸ hm)
     rcases Q p J hpo with rfl | h6
     ·
      rw [← g4];exact G
     exact h5 _ (g5 _ h6)
    obtain⟨k1,_,_⟩:=kp.1 _ _ _ ht D M;have gt:=(gd.1 _ _ _ ht D M).1;have e1:t.b.ad=s.b.ad:=r1.wy.rev.trans d.rev.symm
    have E:iS (valOf aa b0.ab) (fun y=>s.on y=false) t.bf s.b.ad s.b.ah t.b.ah:=by
     rw [d.rev];exact r1.ev
    obtain⟨r2,r3⟩:=ihc t i n s' c h gt r1.e (r1.bi.jt k1) r1.wy hi (by rw [k1.on];exact V) (Q.jt k1) fun I Y Z hjn O=>by
     rw [e1] at I O;rw [E.Jv I] at O;obtain⟨p1,p2,p3⟩:=R Y Z hjn O;have hm':=(dH.1 (List.mem_of_getElem? O)).1
     have e3:aC t.b.ah Z.dP=aC s.b.ah Z.dP:=by
      unfold aC
      rw [(E.group I).2 _ hm']
     rw [e3];refine⟨p1,?_,p3⟩
     rcases p2 with p | p | p
     ·
      exact .inl p
     ·
      grind [iD.on]
     exact .inr (.inr (k1.up _ p))
    exact⟨(r1.mono fun y g=>.inl g).trans (r2.mono fun y g=>by rw [← k1.on];exact g) (rn.2.1 _ _ _ _ _ h) k1.on,r3⟩
   rename_i Mc
   have QQ:=qf (s:=s) (k:=c0.read) (by simpa using Mc)
   split at h
   ·
    rename_i I
    have Jz:=d.QO o hl hm A X I;have Ek:Hn (valOf aa b0.ab) b0 (aM aa (i:Int)):=⟨P,d.uL VG,.inr (.inr (Jz _ fy))⟩;simp only [Option.some.injEq,Prod.mk.injEq] at h;obtain⟨h,rfl⟩:=h
    cases Ln:ax (aM aa (i:Int)) with
    | false=>
     rw [Ln] at h;simp only [Bool.false_eq_true,if_false] at h;subst h;refine⟨.refl he o d,fun _=>⟨?_,VG,Ek⟩⟩;rw [Bool.eq_false_iff]
     grind [bS]
    | true=>
     rw [Ln] at h;simp only [if_true] at h;subst h
     have E:∀N:Key→Prop,iS (valOf aa b0.ab) N s.bf b0.ad s.b.ah (cH s.b (aB s.b.ah s.b.ad (aM aa (i:Int))) true).ah:=fun N=>by
      rw [← d.rev];exact iS.mark hl true (.inl Ln)
     obtain⟨r,f1,f2,f3⟩:=hl
     have hfk:az (cH s.b (aB s.b.ah s.b.ad (aM aa (i:Int))) true).ah (aM aa (i:Int))=some {r with bu:=true}:=by
      refine bZ.trans ?_;rw [f1]
      show some (a7 _ _ _ r)=_
      unfold a7
      rw [if_pos (by rw [(aK f1).2];exact fy)]
      rfl
     refine⟨⟨he,o.bu fun m hm=>jW ⟨r,f1,f2,f3⟩ hm,E _,d.step rfl rfl (E _) (fun _ h=>h) (fun y r' u C=>?_) d.bf (fun _ h=>.inl h) (fun y hu Jy=>by grind [nq]) d.j0⟩,fun _=>⟨?_,jg hfk f3,Ek⟩⟩
     ·
      have K:(az s.b.ah y).map (a7 s.b.ad (aB s.b.ah s.b.ad (aM aa (i:Int))) true)=some r':=bZ.symm.trans u;obtain⟨q,hq,rfl⟩:=Option.map_eq_some_iff.1 K
      by_cases g:y∈aB s.b.ah s.b.ad (aM aa (i:Int))
      ·
       exact .inr (Jz y g)
      unfold a7 at C
      rw [if_neg (by rw [(aK hq).2];exact g)] at C;exact d.Lm y q hq C
     rw [Bool.eq_false_iff]
     grind [bS]
   rename_i hle
   refine ihc s i (n+1) s' c h D he o d hi V Q fun _ Y Z hjn O=>?_
   rcases Nat.lt_or_ge Y n with I | Io
   ·
    exact R Y Z I O
   have:Y=n:=by omega
   subst this;rw [Uv] at O
   have:=Option.some.inj O
   subst this;refine⟨?_,QQ,by rw [← d.changed o c0.read];exact Int.not_lt.1 hle⟩;rw [aQ g1] at hle A ⊢;have h1:=o.c.changed (aK g1).1 g3 A (by rw [d.aD];omega)
   grind [Wy.aD]
  intro s i n s' h D he o d hi hn V Q VH El Ek Mc
  have jl:i≤99:=by omega
  unfold gO at h
  rw [if_neg (by simp [he]),eY hi jl] at h
  rcases Nat.lt_or_ge n (cN aa i) with I | Io
  ·
   obtain⟨a,h1,T,h3⟩:=Gd B hi (ae:=(dW (cq aa (aM aa (i:Int))) (valOf aa b0.ab) n).2) (by grind [gx]);rw [h1] at h;simp only [Bool.false_eq_true,if_false] at h;obtain⟨t,ht,h⟩:=Option.bind_eq_some_iff.1 h;have M:=T.Jf B
   have r1:=ihu s a t ht D he o d M fun m hm ham j w F=>by
    obtain⟨G,h5⟩:=h3 m hm ham
    rcases Q j w F with rfl | h6
    ·
     exact G
    exact h5 _ h6
   obtain⟨k1,k2,_⟩:=kp.1 _ _ _ ht D M;have gt:=(gd.1 _ _ _ ht D M).1
   have Ip:ei t a=true:=by grind [Rs.e,Jx]
   have QR:bO (valOf aa b0.ab) t.b a=valOf aa b0.ab a:=by
    rw [← r1.wy.aD];refine r1.bi.answer M ?_
    rcases qf Ip with G | G | G
    ·
     exact .inl G
    ·
     exact .inr (.inl G.2)
    exact .inr (.inr G)
   rw [if_pos r1.e,QR] at h
   have uO:az t.b.ah (aM aa (i:Int))=az s.b.ah (aM aa (i:Int)):=by
    rcases r1.ev.pt (aM aa (i:Int)) with e | ⟨e0,r,e1,e2,e3,_⟩ | ⟨⟨_,e0⟩,_⟩
    ·
     exact e
    ·
     grind [bS]
    grind
   have r2:=ihr t i (n+1) s' (by grind [dW]) gt r1.e (r1.bi.jt k1) r1.wy hi I (by rw [k1.on];exact V) (Q.jt k1) (by grind [bU,aC]) (by
    rw [← El]
    unfold aA aC
    rw [uO,r1.wy.rev,d.rev]) Ek (fun x U=>by
    simp only [dW] at U;rw [h1] at U
    rcases List.mem_append.1 U with U | U
    ·
     exact k1.there (Mc x U)
    grind)
   exact(r1.mono fun y g=>.inl g).trans (r2.mono fun y g=>by rw [← k1.on];exact g) (rn.2.2 _ _ _ _ _ h) k1.on
  have Dr:n=cN aa i:=by omega
  subst Dr;rw [fF B hi] at h;simp only [if_true] at h;rw [if_neg (by have:=o.len;simp;omega)] at h;simp only [Option.some.injEq] at h;subst h;have VI:∀a∈cS aa b0.ab i,ay a=true∨(s.on a=true∧ax a=true)∨aA s.b a=true:=fun a A=>qf (Mc a A);have OG:=o.put B hi (fun hc=>Ej ⟨V,hc⟩) (by rw [d.aD];exact fun a A=>(VI a A).imp id (Or.imp (fun p=>⟨Ej p,p.2⟩) id));rw [d.aD] at OG
  have E:∀N:Key→Prop,N (aM aa (i:Int))→iS (valOf aa b0.ab) N (s.bf++[aM aa (i:Int)]) b0.ad s.b.ah (ey s.b.ah (bJ s.b (aM aa (i:Int)) (valOf aa b0.ab (aM aa (i:Int))) (cS aa b0.ab i))):=fun N hN=>by
   refine iS.put VH (fun r hr=>?_) ⟨by simp [bJ],hN⟩ d.rev rfl rfl (fun r hr=>?_) fun hn=>?_
   ·
    have h1:=(o.c.Eh r (aK hr).1).1
    have T:r.av≠s.b.ad:=fun e=>by
     have:aA s.b (aM aa (i:Int))=true:=aT.2 ⟨r,hr,e⟩
     grind
    have:=d.rev
    omega
   ·
    have Mp:az s.b.ah (aM aa (i:Int))=some r:=hr
    unfold bJ
    simp only [Mp,aQ Mp,d.rev]
    grind
   grind [bJ,Wy.rev]
  refine⟨he,by show Bi aa H s.AF ⟨s.b.ad,s.b.ab,_⟩;rw [d.aD];exact OG,E _ (.inr rfl),d.step rfl rfl (E _ trivial) (fun y g=>by simp [g]) (fun y r u C=>?_) (fun y g=>?_) (fun y g=>?_) (fun y hu Jy=>?_) (xO d.j0 fun hr=>by have:=d.Jw _ hr;rw [El] at this;cases this)⟩
  ·
   have K:az (ey s.b.ah (bJ s.b (aM aa (i:Int)) (valOf aa b0.ab (aM aa (i:Int))) (cS aa b0.ab i))) y=some r:=u;rw [cT] at K
   split at K
   ·
    have:=Option.some.inj K
    subst this
    cases C
   exact d.Lm y r K C
  ·
   rcases List.mem_append.1 g with g | g
   ·
    exact d.bf y g
   grind
  ·
   rcases List.mem_append.1 g with g | g
   ·
    exact .inl g
   rw [List.mem_singleton] at g;rw [g];exact .inr (jd (r:=bJ s.b (aM aa (i:Int)) (valOf aa b0.ab (aM aa (i:Int))) (cS aa b0.ab i)) rfl)
  refine .inl ?_
  by_cases e:y=aM aa (i:Int)
  ·
   rw [e]
   simp
  obtain⟨r,hr,W⟩:=aT.1 Jy;have Mp:az (ey s.b.ah (bJ s.b (aM aa (i:Int)) (valOf aa b0.ab (aM aa (i:Int))) (cS aa b0.ab i))) y=some r:=hr;rw [cT,if_neg (show ¬y=(bJ s.b (aM aa (i:Int)) (valOf aa b0.ab (aM aa (i:Int))) (cS aa b0.ab i)).key from e)] at Mp
  grind [aT]
theorem Gm{val:Key→ByteArray}{f:Nat}:∀{l:List Key}{s s':ES},dK aa val f s l=some s'→∀y∈s.bf,y∈s'.bf
 | [],s,s',h,y,a=>by grind [dK]
 | k::r,s,s',h,y,a=>by
  simp only [dK] at h;obtain⟨t,h1,c⟩:=Option.bind_eq_some_iff.1 h;exact Gm c y ((uN f).1 _ _ _ h1 y a)
theorem xP(g:aq aa) {f:Nat}:∀{l:List Key}{s s':ES},dK aa (valOf aa b0.ab) f s l=some s'→Good aa b0.ab s→s.e=0→Bi aa H s.AF s.b→Wy aa b0 s→(∀k∈l,eG aa k)→(∀k,s.on k=false)→Rs aa H b0 (fun _=>True) s s'∧(∀k,s'.on k=false)∧(∀k,aA s.b k=true→aA s'.b k=true)∧∀k∈l,ay k=false→aA s'.b k=true
 | [],s,s',h,m,he,p,u,_,c=>by
  simp only [dK,Option.some.injEq] at h;subst h;exact⟨.refl he p u,c,fun _ h=>h,fun k hk=>by cases hk⟩
 | k::r,s,s',h,m,he,p,u,hk,c=>by
  simp only [dK] at h;obtain⟨t,h1,C⟩:=Option.bind_eq_some_iff.1 h;have w:=hk k (by simp);have F:=((ct (val:=valOf aa b0.ab) g f).1 _ _ _ h1 m w).1;obtain⟨d,kt,_⟩:=(iu (val:=valOf aa b0.ab) g f).1 _ _ _ h1 m w
  have r1:=(yW (H:=H) (b0:=b0) g f).1 s k t h1 m he p u w fun i _ _ j _ D=>by rw [c] at D;cases D
  obtain⟨r2,G,E,g2⟩:=xP g C F r1.e (r1.bi.jt d) r1.wy (fun k I=>hk k (by simp [I])) fun k=>by rw [d.on];exact c k
  have J:=Gm C;refine⟨(r1.mono fun _ _=>trivial).trans r2 J d.on,G,fun y K=>E y (d.up y K),fun q A B=>?_⟩
  rcases List.mem_cons.1 A with rfl | A
  ·
   refine E _ ?_
   rcases(kt r1.e).2 with o | o
   ·
    rw [B] at o
    cases o
   rcases qf o with a | a | a
   ·
    rw [B] at a
    cases a
   ·
    rw [d.on,c] at a
    cases a.1
   exact a
  exact g2 q A B
end
end Go.Rc

namespace Go.Rc
open Go
def Bh(aa:List aG) (b:cy):Prop:=∃H:Int→List cv,Bi aa H (fun _=>false) b
section
variable {aa:List aG}{H:Int→List cv}{on:Key→Bool}{x y b:cy}{k:Key}
theorem Bh.new(aa:List aG) (rev:Int) (aD:List cv):Bh aa ⟨rev,aD,[]⟩:=
 ⟨fun _=>aD,⟨⟨rfl,fun _ _ _ _ _=>rfl,fun r hr=>(by cases hr),fun r hr=>(by cases hr),fun r hr=>(by cases hr),fun r hr=>(by cases hr)⟩,List.Pairwise.nil,fun r hr=>(by cases hr),fun r hr=>(by cases hr)⟩⟩
theorem Bi.drop(h:Bi aa H on b) {rs:List Rec}(d:rs.Sublist b.ah) (o:∀r∈rs,on r.key=false):Bi aa H (fun _=>false) {b with ah:=rs}:=by
 have j:pG rs:=h.st.sublist d
 have g:∀a ra,az rs a=some ra→az b.ah a=some ra:=fun a ra e=>by
  obtain⟨h1,i⟩:=aK e
  grind [hJ,st]
 refine⟨⟨h.c.now,h.c.eJ,fun r hr=>h.c.Eh r (d.subset hr),fun r hr=>h.c.vr r (d.subset hr),fun r hr a f hi ra e=>?_,fun r hr hc a f hi ra e=>?_⟩,j,fun r hr=>h.kr r (d.subset hr),fun r hr=>h.dv r (d.subset hr)⟩
 ·
  rcases h.c.rr r (d.subset hr) a f hi ra (g a ra e) with⟨_,h1⟩ | h1
  ·
   obtain⟨i,m⟩:=aK e
   grind
  exact .inr h1
 rcases h.c.rs r (d.subset hr) hc a f hi ra (g a ra e) with⟨_,h1⟩ | h1
 ·
  obtain⟨i,m⟩:=aK e
  grind
 exact .inr h1
theorem Bh.drop(h:Bh aa b) {rs:List Rec}(a:rs.Sublist b.ah):Bh aa {b with ah:=rs}:=by
 obtain⟨H,h⟩:=h;exact⟨H,h.drop a fun _ _=>rfl⟩
theorem Bh.apply(h:Bh aa x) (hr:y.ah=x.ah) (m:y.ad=x.ad+1) (hk:∀k,bw y.ab k=bw x.ab k∨(bw y.ab k).changed=y.ad):Bh aa y:=by
 obtain⟨H,h⟩:=h;have hH:∀t,t≤x.ad→(if t≤x.ad then H t else y.ab)=H t:=fun t ht=>if_pos ht;refine⟨fun t=>if t≤x.ad then H t else y.ab,⟨⟨?_,fun k t hi h1 f=>?_,fun r d=>?_,fun r d=>?_,fun r d a i hi ra g=>?_,fun r d hc a i hi ra g=>?_⟩,by rw [hr];exact h.st,by rw [hr];exact h.kr,fun r d j=>?_⟩⟩
 ·
  grind
 ·
  by_cases ht:t≤x.ad
  ·
   show cellOf (if t≤x.ad then H t else y.ab) k=_
   rw [if_pos ht]
   rcases hk k with e | e
   ·
    rw [e] at h1;rw [h.c.eJ k t hi h1 ht]
    unfold cellOf
    rw [e]
   omega
  grind
 ·
  rw [hr] at d
  have:=h.c.Eh r d
  omega
 ·
  rw [hr] at d;have h1:=h.c.Eh r d;rw [hH _ h1.1];exact h.c.vr r d
 ·
  rw [hr] at d g;have h1:=h.c.Eh r d;rw [hH _ h1.1]
  rcases h.c.rr r d a i hi ra g with⟨_,f⟩ | f
  ·
   cases f
  exact .inr f
 ·
  rw [hr] at d g
  rcases h.c.rs r d hc a i hi ra g with⟨_,f⟩ | f
  ·
   cases f
  exact .inr f
 rw [hr] at d
 have:=h.dv r d j
 omega
theorem Wy.start(b:cy):Wy aa b ⟨b,[],[],0⟩:=⟨rfl,rfl,.refl _,fun y r d e=>.inl (by rw [aQ d];exact e),fun y a=>(by cases a),fun y a=>(by cases a),fun y h1 c=>(by rw [h1] at c;cases c),List.nodup_nil⟩
theorem Bh.request(d:aq aa) (h:Bh aa b) {f:Nat}{l:List Key}{s':ES}(g:Good aa b.ab ⟨b,[],[],0⟩) (hk:∀k∈l,eG aa k) (i:dK aa (valOf aa b.ab) f ⟨b,[],[],0⟩ l=some s') :
  s'.e=0∧Bh aa s'.b∧Wy aa b s'∧(∀k,aA b k=true→aA s'.b k=true)∧(∀k∈l,ay k=false→aA s'.b k=true)∧∀r∈s'.b.ah,r.av=s'.b.ad→r.value=valOf aa b.ab r.key:=by
 obtain⟨H,h⟩:=h;have j:Wy aa b ⟨b,[],[],0⟩:=Wy.start b
 obtain⟨h1,u,m,o⟩:=xP (H:=H) (b0:=b) d i g rfl (h.Mn fun k hk=>by cases hk) j hk fun k=>rfl
 have a:Bi aa H (fun _=>false) s'.b:=h1.bi.Mn fun k hk=>by grind [ES.AF,ES.on,bC]
 refine⟨h1.e,⟨H,a⟩,h1.wy,m,o,fun r hr p=>?_⟩;rw [(a.c.vr r hr).1,p,a.c.now,h1.wy.aD]
end
end Go.Rc

