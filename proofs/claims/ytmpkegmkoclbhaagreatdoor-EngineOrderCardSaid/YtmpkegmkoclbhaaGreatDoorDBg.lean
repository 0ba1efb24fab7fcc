/- Base of the proof: frames, memory, ownership, and the plain meaning of rule systems. Conditions: as each lemma says. -/
import Derived.Test.YtmpkegmkoclbhaaGreatDoorDBf
import Derived.Test.YtmpkegmkoclbhaaGreatDoorDBd
set_option linter.all false
namespace Go.Rc
open Go
theorem St.uF{w w':World}{Z:Nat→Prop}{l:List As}{A B:As}(h:St w (mR [B]) Z w' (B::A::l)):∀x,A.fp x→w.heap.size≤x:=fun x a=>by
 rcases h.mQ A (by simp) x a with⟨C,c,hc⟩ | h1
 ·
  rw [List.mem_singleton] at c;subst c;exact absurd a ((List.pairwise_cons.1 h.rh).1 A (by simp) x hc)
 exact h1
theorem lU.Jt{aa:List aH}{k:Key}(a:aq aa) (h:lU aa k):ep aa k:=by
 have c:=a.len
 rcases h with⟨n,h0,d,rfl⟩ | ⟨i,hi,rfl⟩
 ·
  obtain⟨m,rfl⟩:∃m:Nat,n=m:=⟨n.toNat,by omega⟩;exact .cell (by omega)
 exact .fb hi (by omega)
theorem lU.right{aa:List aH}{k:Key}(a:aq aa) (h:lU aa k):iN aa k=true:=by
 have hk:=h.Jt a
 rcases h with⟨n,h0,c,rfl⟩ | ⟨i,hi,rfl⟩
 ·
  unfold iN
  rw [ep.valid hk]
  unfold cF
  rw [if_neg (by omega)]
  simp
 exact Hw a hi
structure LB (aa:List aH) (x:bZ):Prop where
 ok:BK aa x.ab x.ad x
 aD:jC x.ad x.ab
section
variable {aa:List aH}{x:bZ}
theorem LB.apply(h:LB aa x) {y:bZ}(hr:y.ah=x.ah) (h0:x.ad≤y.ad) (h1:y.ad≤1073741824) (c:jC y.ad y.ab) (d:y.ab.length≤64):LB aa y:=by
 have f:=h.ok.fT;have a:=h.ok.tN;have e:0≤y.ad:=Int.le_trans a.r0 h0;have hb:=c.jB e h1 d;exact⟨⟨⟨rfl,by show y.ah.length≤_;rw [hr];exact f.len,by grind [Good.key],by grind [Good.AG],.nil,fun k=>.inl rfl⟩,⟨by show pf y.ah;rw [hr];exact a.st,by show ∀r∈y.ah,_;rw [hr];exact fun r hm=>⟨(a.v r hm).1,Int.le_trans (a.v r hm).2 h0⟩,e,h1⟩,rfl,hb.1,d⟩,c⟩
theorem LB.sub(h:LB aa x) {rs:List Rec}(a:rs.Sublist x.ah):LB aa ⟨x.ad,x.ab,rs⟩:=⟨h.ok.sub a,h.aD⟩
theorem LB.of(h:LB aa x) {b:bZ}(hb:BK aa x.ab x.ad b):LB aa b:=by
 have h1:b.ab=x.ab:=hb.fT.aD;have a:b.ad=x.ad:=hb.rv;refine⟨?_,?_⟩
 ·
  rw [h1,a];exact hb
 rw [h1,a];exact h.aD
theorem LB.task(h:LB aa x) {b:bZ}(hb:BK aa x.ab x.ad b) {rs:List Rec}(a:rs.Sublist b.ah):LB aa ⟨b.ad,b.ab,rs⟩:=(h.of hb).sub a
theorem LB.req(a:aq aa) (h:LB aa x) {goals:List Key}(e:∀k∈goals,lU aa k) (g:goals.length≤32):∃(f:Nat) (s':ES),gJ aa x goals=0∧Good aa x.ab ⟨x,[],[],0⟩∧(∀k∈goals,ep aa k)∧dM aa (valOf aa x.ab) f ⟨x,[],[],0⟩ goals=some s'∧s'.a8.length≤1000000∧LB aa (s'.base x)∧(s'.base x).ad=x.ad:=by
 have i:=a.len;have c:=h.ok.fT;have hk:∀k∈goals,ep aa k:=fun k hm=>(e k hm).Jt a;obtain⟨f,s',hu⟩:=uD (val:=valOf aa x.ab) a goals ⟨x,[],[],0⟩ c hk;have h1:=pe a hu c hk;have d:=BL a hu c h.ok.tN hk;have j:=xK a hu c hk;have m:gz aa ⟨x,[],[],0⟩≤aa.length:=OK _ _;refine⟨f,s',?_,c,hk,hu,?_,?_,?_⟩
 ·
  unfold gJ
  rw [if_neg (fun h=>h a),if_neg (fun hn=>hn h.ok.jB),if_neg (by omega),if_pos (List.all_eq_true.2 fun k hm=>(e k hm).right a)]
 ·
  grind
 ·
  unfold ES.base
  split
  ·
   refine h.of ⟨⟨h1.1.aD,h1.1.len,h1.1.key,h1.1.AG,.nil,fun k=>.inl rfl⟩,⟨d.st,d.v,d.r0,d.r1⟩,h1.2.rev,h.ok.xO,h.ok.po⟩
  exact h
 unfold ES.base
 split
 ·
  exact h1.2.rev
 rfl
theorem LB.start(h:LB aa x) {goals:List Key}(hk:∀k∈goals,ep aa k) (a:goals.length≤32):TR aa x.ab x.ad 0 ⟨aa,x,goals,[],[]⟩:=
 ⟨⟨rfl,h.ok,hk,fun f c=>(by cases c),fun k hk=>(by cases hk)⟩,Nat.le_refl _,Nat.le_refl _,a⟩
theorem LB.nil{aa:List aH}(y:bZ) (hr:y.ah=[]) (h0:0≤y.ad) (h1:y.ad≤1073741824) (a:jC y.ad y.ab) (c:y.ab.length≤64):LB aa y:=by
 have hb:=a.jB h0 h1 c;exact⟨⟨⟨rfl,by grind,by grind,by grind,.nil,fun k=>.inl rfl⟩,⟨by show pf y.ah;rw [hr];exact .nil,by grind,h0,h1⟩,rfl,hb.1,c⟩,a⟩
end
end Go.Rc

namespace Go.Rc
open Go
def wE(l:List Key):Prop:=l.Pairwise fun a b=>bC a b<0
theorem yS{l l':List Key}(c:l'.Perm l) (hn:l.Nodup) (d:l'.Pairwise fun a b=>¬bC b a<0):wE l':=by
 have e:l'.Pairwise fun a b=>a≠b:=c.nodup_iff.2 hn
 refine(d.and e).imp fun {a b} h=>?_
 grind [ji,l4]
section
variable {aa:List aH}{aD:List ct}{k:Key}
theorem nA{l:List Key}{q:Nat}{y z:Key}(hy:l[q]?=some y) (a:z∈l.take (q+1)):z∈l.take q∨z=y:=by grind [List.take_succ_eq_append_getElem]
def lK(l:List Key):List (Key × Value):=l.map fun x=>(x,.bool true)
theorem BU(l:List Key) (y:Key):(bF (lK l) y).getD (.bool false)=.bool (decide (y∈l)):=by
 unfold lK
 induction l with
 | nil=>simp [bF]
 | cons x r a=>
  simp only [List.map_cons,bF]
  grind
theorem BV(l:List Key) {y:Key}(h:y∉l):cM (lK l) y (.bool true)=lK (l++[y]):=by
 unfold lK
 induction l with
 | nil=>rfl
 | cons x r a=>
  rw [List.mem_cons,not_or] at h;simp only [List.map_cons,List.cons_append,cM];rw [if_neg (Ne.symm h.1),a h.2]
end
end Go.Rc

namespace Go.Rc
open Go
structure LR {α:Type}(A:Nat→Prop) (w:World) (k:Nat) (R:α→List Value→Prop) (a:Option Addr) (n:Nat) (xs:List α):Prop where
 len:n=xs.length
 le:n≤140737488355328
 at_:∀{i:Nat}{x:α},xs[i]?=some x→∃b o r,a=some ⟨b,o,none⟩∧r.length=k∧R x r∧w.rangeAt b (o+i*k) r∧A b∧b<w.heap.size
theorem SR.Qi{α:Type}{w:World}{k b E:Nat}{R:α→List Value→Prop}{xs:List α}{rows:List (List Value)}(h:bU w b E rows.flatten) (hl:xs.length=rows.length) (hk:∀r∈rows,r.length=k) (h1:∀u∈rows.flatten,u.oneCell'=true)
  (hle:rows.length≤140737488355328) (a:∀(i:Nat) (x:α) (r:List Value),xs[i]?=some x→rows[i]?=some r→R x r):SR (fun _=>True) w k R (some ⟨b,0,none⟩) rows.length rows.length xs:=by
 have hlen:rows.flatten.length=rows.length*k:=by
  clear h hl h1 hle a
  induction rows with
  | nil=>simp
  | cons r t d=>grind
 have c:=OL.blk (base:=0) (k:=k) h (Nat.zero_le _) hlen h1 hle;exact⟨hl.symm,rows,hl.symm,hk,c.sl (A:=fun _=>True) (fun _ _=>trivial) hle,a⟩
end Go.Rc

namespace Go.Rc
open Go
theorem LB.BW{aa:List aH}{x:bZ}(h:LB aa x):uB aa x:=
 ⟨h.ok.tN.r0,h.ok.tN.r1,⟨h.aD.1,h.aD.2.1⟩,h.aD.k99,h.ok.po,fun r hr=>⟨h.ok.fT.key r hr,((ft _).1 (h.ok.tN.v r hr).1).2.2.1,(h.ok.fT.AG r hr).2,(h.ok.tN.v r hr).1⟩,h.ok.tN.st,h.ok.fT.len,fun r hr=>(h.ok.tN.v r hr).2⟩
theorem LB.small{aa:List aH}{x:bZ}(a:aq aa) (h:LB aa x):∀k,(valOf aa x.ab k).size≤1000:=Ek a fun y hy=>(h.aD.2.2 y hy).2
theorem OR.VV{α:Type}{R:α→List Value→Prop}{base b E k:Nat}{w:World}{x y:α}{r s:List Value}(h:bU w b E (r++s)) (hb:base≤b) (hr:r.length=k) (a:s.length=k) (h1:∀u∈r++s,u.oneCell'=true) (c:R x r) (hy:R y s):OR base w E k R (some ⟨b,0,none⟩) 2 2 [x,y]:=
 ⟨rfl,[r,s],rfl,by simp [hr,a],by grind [OL.blk],BM c hy⟩
def JI:Ask:=⟨false,false,0,0⟩
end Go.Rc

namespace Go.Rc
open Go
section
variable {aa:List aH}{aD:List ct}
noncomputable def tr(aa:List aH) (aD:List ct) (i q:Nat):List ByteArray:=(dW (cx aa (aM aa (i:Int))) (valOf aa aD) q).2
noncomputable def kq(aa:List aH) (aD:List ct) (i q:Nat):Key:=(cx aa (aM aa (i:Int)) (tr aa aD i q)).ask
theorem nB(i q:Nat):(tr aa aD i q).length=q:=(gC _ _ _).2
theorem Hz(i q:Nat):tr aa aD i (q+1)=tr aa aD i q++[valOf aa aD (kq aa aD i q)]:=rfl
theorem fG{i q:Nat}(a:q<cL aa i):(cH aa aD i)[q]?=some (kq aa aD i q):=by
 unfold cH kq tr
 generalize cL aa i=n at a ⊢
 induction n with
 | zero=>omega
 | succ n c=>
  have hl:=(gC (cx aa (aM aa (i:Int))) (valOf aa aD) n).1;simp only [dW]
  grind
theorem Gy(a:aq aa) {i q:Nat}(hi:i<aa.length) (c:q<cL aa i):cx aa (aM aa (i:Int)) (tr aa aD i q)=⟨false,⟨#[]⟩,kq aa aD i q⟩:=by grind [et,nB,kq]
theorem Gz(a:aq aa) {i:Nat}(hi:i<aa.length):cx aa (aM aa (i:Int)) (tr aa aD i (cL aa i))=⟨true,valOf aa aD (aM aa (i:Int)),eS⟩:=fE a hi
theorem BX(a:aq aa) {i q:Nat}(hi:i<aa.length) (c:q<cL aa i):ep aa (kq aa aD i q):=
 (ph a hi _ (List.mem_of_getElem? (fG (aD:=aD) c))).Jt a
theorem HA(a:aq aa) {i:Nat}(hi:i<aa.length) (hr:aF aa i=true):cD (valOf aa aD (aM aa (i:Int)))=rv aa aD i:=by grind [gW,iw,fj,sA]
end
end Go.Rc

namespace Go.Rc
open Go
section
variable {aa:List aH}{aD:List ct}{k:Key}{L:List Key}
theorem yT{x:Key}(h:aw x=true):iO aa aD x=[]:=if_pos h
end
end Go.Rc

namespace Go.Rc
open Go
section
variable {aa:List aH}{aD:List ct}
theorem cU.trans{i j k:Nat}(h:cU aa i j) (a:cU aa j k):cU aa i k:=by
 induction a with
 | refl=>exact h
 | step _ c d=>exact .step d c
variable {lo n q v:Nat}{S:List Int}{r:aH}
end
end Go.Rc

namespace Go.Rc
open Go
section
variable {aa:List aH}{aD mM:List ct}
end
end Go.Rc
namespace Go.Rc
open Go
end Go.Rc

namespace Go.Rc
open Go
section
variable {aa:List aH}{aD mM:List ct}
theorem uG(c:aq aa) {i:Nat}(hi:i<aa.length) (h:∀a∈cH aa aD i,valOf aa aD a=valOf aa mM a):cH aa mM i=cH aa aD i∧valOf aa mM (aM aa (i:Int))=valOf aa aD (aM aa (i:Int)):=by
 have e:dW (cx aa (aM aa (i:Int))) (valOf aa aD) (cL aa i)=dW (cx aa (aM aa (i:Int))) (valOf aa mM) (cL aa i):=uq _ fun m hm=>h _ (List.mem_of_getElem? (fG hm))
 refine⟨?_,?_⟩
 ·
  unfold cH
  rw [e]
 have h1:=fE (aD:=aD) c hi;have d:=fE (aD:=mM) c hi
 grind
theorem sD(a:aq aa) {G:Nat→Prop}(c:∀j,G j→j<aa.length∧aF aa j=true) (h:∀j,G j→∀r x,aa[j]?=some r→x∈r.asks→(∀m,G m→bQ aa x≠aM aa (m:Int))→valOf aa aD (bQ aa x)=valOf aa mM (bQ aa x)) {j:Nat}(p:G j) (b:Nat) (hb:(rv aa aD j).testBit b=true):(rv aa mM j).testBit b=true:=by
 obtain⟨g,i⟩:=c j p;obtain⟨n,hn,u⟩:=(eC a g i b).1 hb
 have key:∀n,cU aa j n→(G n∧cU aa j n)∨∃(m:Nat) (x:Ask) (r:aH) (q:Nat),G m∧cU aa j m∧aa[m]?=some r∧x∈r.asks∧bQ aa x=aM aa (q:Int)∧¬G q∧fN aa m q∧cU aa q n:=by
  intro n hn
  induction hn with
  | refl=>exact .inl ⟨p,.refl⟩
  | @step m q hm d C=>
   rcases C with⟨g1,g2⟩ | ⟨m2,x,r,D,g1,g2,g3,g4,g5,g6,g7,g8⟩
   ·
    by_cases w:G q
    ·
     exact .inl ⟨w,.step g2 d⟩
    obtain⟨x,f,_,hk⟩:=pa (c m g1).1 d;exact .inr ⟨m,x,_,q,g1,g2,ak (c m g1).1,f,hk,w,d,.refl⟩
   exact .inr ⟨m2,x,r,D,g1,g2,g3,g4,g5,g6,g7,.step g8 d⟩
 rcases key n hn with⟨g1,g2⟩ | ⟨m,x,r,q,g1,g2,g3,g4,g5,g6,g7,g8⟩
 ·
  obtain⟨o,K⟩:=c n g1;refine(eC a g i b).2 ⟨n,g2,?_⟩
  rcases(fk o b).1 u with h1 | ⟨x,f,E,h1⟩
  ·
   grind [fk]
  refine(fk o b).2 (.inr ⟨x,f,E,?_⟩);rw [← h n g1 _ x (ak o) f fun m hm e=>?_]
  ·
   exact h1
  grind [je,bf,aq.len]
 have A:=g7.lt.2.1;have B:=g7.lt.2.2.2;have h1:(rv aa aD q).testBit b=true:=(eC a A B b).2 ⟨n,g8,u⟩
 have M:=h m g1 r x g3 g4 fun m2 O e=>by grind [eb]
 have F:rv aa aD q=rv aa mM q:=by grind [HA]
 rw [F] at h1;obtain⟨n2,I,J⟩:=(eC a A B b).1 h1;exact(eC a g i b).2 ⟨n2,(cU.step g2 g7).trans I,J⟩
theorem Ep(d:aq aa) {G:Nat→Prop}(c:∀j,G j→j<aa.length∧aF aa j=true) (h:∀j,G j→∀r x,aa[j]?=some r→x∈r.asks→(∀m,G m→bQ aa x≠aM aa (m:Int))→valOf aa aD (bQ aa x)=valOf aa mM (bQ aa x)) {j:Nat}(a:G j):valOf aa aD (aM aa (j:Int))=valOf aa mM (aM aa (j:Int)):=by
 obtain⟨i,o⟩:=c j a
 have e:rv aa aD j=rv aa mM j:=by
  apply Nat.eq_of_testBit_eq
  intro b;rw [Bool.eq_iff_iff];exact⟨sD d c h a b,sD d c (fun j a r x h1 f g=>(h j a r x h1 f g).symm) a b⟩
 grind [gW,iw]
structure Cons (aa:List aH) (H:Int→List ct) (on:Key→Bool) (b:bZ):Prop where
 now:H b.ad=b.ab
 eK:∀k t,aw k=true→(bA b.ab k).changed≤t→t≤b.ad→cellOf (H t) k=cellOf b.ab k
 Er:∀r∈b.ah,r.av≤b.ad∧r.changed≤r.av
 vr:∀r∈b.ah,r.value=valOf aa (H r.av) r.key∧r.reads=iO aa (H r.av) r.key
 rr:∀r∈b.ah,∀a∈r.reads,aw a=false→∀ra,aA b.ah a=some ra→(r.av=b.ad∧on a=true)∨(ra.changed≤r.av→valOf aa (H r.av) a=ra.value)
 rs:∀r∈b.ah,az r.key=true→∀a∈r.reads,az a=true→∀ra,aA b.ah a=some ra→(r.av=b.ad∧on a=true)∨r.av≤ra.av
variable {H:Int→List ct}{on:Key→Bool}{b:bZ}{k:Key}
theorem Cons.up(h:Cons aa H on b) (hu:ay b k=true):∃r,aA b.ah k=some r∧r.av=b.ad∧r.value=valOf aa b.ab k:=by
 obtain⟨r,hr,a⟩:=aL.1 hu;obtain⟨h1,c⟩:=aI hr;refine⟨r,hr,a,?_⟩;rw [(h.vr r h1).1,a,h.now,c]
theorem Cons.changed(h:Cons aa H on b) {m:Rec}(hm:m∈b.ah) (i:m.av<b.ad) {a:Key}(f:a∈m.reads) (hc:aV (valOf aa b.ab) b a≤m.av):valOf aa (H m.av) a=valOf aa b.ab a:=by
 cases hi:aw a with
 | true=>
  unfold aV at hc
  rw [if_pos hi] at hc
  have:=h.eK a m.av hi hc (by omega)
  unfold valOf
  grind
 | false=>
  unfold aV at hc
  rw [if_neg (by rw [hi];simp)] at hc
  split at hc
  ·
   rename_i h1
   rw [Bool.and_eq_true] at h1;obtain⟨ra,d⟩:=Option.isSome_iff_exists.1 h1.1
   have e:aC b.ah a=ra:=by unfold aC;rw [d];rfl
   rw [e] at h1 hc
   have g:valOf aa b.ab a=ra.value:=by
    rw [Bool.or_eq_true] at h1
    rcases h1.2 with c | c
    ·
     have c:=of_decide_eq_true c;obtain⟨g1,g2⟩:=aI d;rw [(h.vr ra g1).1,c,h.now,g2]
    exact of_decide_eq_true c
   rcases h.rr m hm a f hi ra d with⟨c,_⟩ | c
   ·
    omega
   rw [c hc,g]
  omega
end
end Go.Rc

namespace Go.Rc
open Go
/-! ### lists of keys in order -/
def HB(l:List Key):Prop:=l.Pairwise fun a b=>bC a b<0
theorem pq{a b:Key}(h:bC a b<0) (c:bC b a<0):False:=by grind [il,iy]
theorem GA{k:Key}:∀{l:List Key},HB l→HB (mL k l)
 | [],_=>by simp [mL,HB]
 | x::r,h=>by
  obtain⟨h1,a⟩:=List.pairwise_cons.1 h
  unfold mL
  split
  ·
   rename_i c
   refine List.pairwise_cons.2 ⟨fun y hy=>?_,GA a⟩
   grind [BD]
  rename_i c
  split
  ·
   exact h
  rename_i e
  have d:bC k x<0:=by grind [ji,l4]
  refine List.pairwise_cons.2 ⟨fun y hy=>?_,h⟩
  grind [il]
theorem BZ(l:List Key):HB (jR l):=by
 have key:∀(l acc:List Key),HB acc→HB (l.foldl (fun out k=>mL k out) acc):=by
  intro l
  induction l with
  | nil=>intro acc h;exact h
  | cons x r a=>grind [GA]
 exact key l [] List.Pairwise.nil
theorem rC:∀{a b:List Key},HB a→HB b→(∀x,x∈a↔x∈b)→a=b
 | [],[],_,_,_=>rfl
 | [],y::b,_,_,h=>by have:=(h y).2 (by simp);cases this
 | x::a,[],_,_,h=>by have:=(h x).1 (by simp);cases this
 | x::a,y::b,h1,c,h=>by
  obtain⟨i,d⟩:=List.pairwise_cons.1 h1;obtain⟨j,f⟩:=List.pairwise_cons.1 c
  have e:x=y:=by
   rcases List.mem_cons.1 ((h x).1 (by simp)) with e | e
   ·
    exact e
   rcases List.mem_cons.1 ((h y).2 (by simp)) with e2 | e2
   ·
    exact e2.symm
   grind [pq]
  subst e
  congr 1
  refine rC d f fun z=>⟨fun g=>?_,fun g=>?_⟩
  ·
   grind [pq]
  grind [pq]
/-! ### rings that belong together -/
section
variable {l l':List Rec}{rev:Int}{k x y z:Key}
theorem bE:bT l rev k=true↔∃r,aA l k=some r∧az k=true∧r.av<rev∧r.bq=false:=by
 unfold bT aC
 cases h:aA l k with
 | none=>simp
 | some r=>simp
theorem bM.trans(h:bM l rev k x) (a:bM l rev x y):bM l rev k y:=by
 induction a with
 | one a=>exact .step h a
 | step _ c d=>exact .step d c
def xP(l:List Rec) (rev:Int) (x y:Key):Prop:=bM l rev x y∧bM l rev y x
theorem xP.symm(h:xP l rev x y):xP l rev y x:=⟨h.2,h.1⟩
theorem xP.trans(h:xP l rev x y) (a:xP l rev y z):xP l rev x z:=⟨h.1.trans a.1,a.2.trans h.2⟩
theorem xP.gz(h:xP l rev x y):bT l rev y=true:=h.1.gz
theorem Es:y∈jg l rev k l↔y≠k∧xP l rev k y:=by
 unfold jg BF
 rw [List.mem_map]
 constructor
 ·
  rintro⟨r,hr,rfl⟩;rw [List.mem_filter] at hr;simp only [Bool.and_eq_true,decide_eq_true_eq,kl] at hr;exact⟨hr.2.1,hr.2.2.1,hr.2.2.2⟩
 rintro⟨h1,a⟩;obtain⟨r,hr,rfl⟩:=List.mem_map.1 (nq a.gz);exact⟨r,List.mem_filter.2 ⟨hr,by simp only [Bool.and_eq_true,decide_eq_true_eq,kl];exact⟨h1,a.1,a.2⟩⟩,rfl⟩
theorem cm:y∈aB l rev k↔y=k∨(bT l rev k=true∧xP l rev k y):=by
 unfold aB
 split
 ·
  rename_i h
  rw [od,List.mem_cons,Es]
  grind
 grind
theorem fx:k∈aB l rev k:=cm.2 (.inl rfl)
theorem rD(l:List Rec) (rev:Int) (k:Key):HB (aB l rev k):=by
 unfold aB
 split
 ·
  exact BZ _
 exact List.pairwise_singleton _ _
theorem gR(h:az k=false):aB l rev k=[k]:=by
 unfold aB
 rw [if_neg]
 grind [bE]
theorem xQ(hk:bT l rev k=true) (h:xP l rev k y) (z:Key):z∈aB l rev y↔z∈aB l rev k:=by
 rw [cm,cm]
 constructor
 ·
  rintro(rfl | ⟨_,h1⟩)
  ·
   exact .inr ⟨hk,h⟩
  exact .inr ⟨hk,h.trans h1⟩
 rintro(rfl | ⟨_,h1⟩)
 ·
  exact .inr ⟨h.gz,h.symm⟩
 exact .inr ⟨h.gz,h.symm.trans h1⟩
theorem dr{g:List Key}{c:oa}:c∈bR l g↔c.dC∈g∧c.read∈(aC l c.dC).reads∧c.read∉g:=by
 unfold bR cT
 grind
theorem wF{g:List Key}(h:∀m∈g,aC l' m=aC l m):bR l' g=bR l g:=by
 unfold bR
 have key:∀s:List Key,(∀m∈s,aC l' m=aC l m)→(s.flatMap fun m=>cT g m (aC l' m).reads)=s.flatMap fun m=>cT g m (aC l m).reads:=by
  intro s
  induction s with
  | nil=>intro _;rfl
  | cons m r a=>grind
 exact key g h
end
/-! ### the change of records -/
def Pt(val:Key→ByteArray) (N:Key→Prop) (rev:Int) (a8:List Key) (y:Key) (o o':Option Rec):Prop:=
 o'=o∨((az y=true∨N y)∧∃r,o=some r∧r.bq=false∧r.av<rev∧(o'=some {r with av:=rev}∨o'=some {r with bq:=true}))∨
 ((y∈a8∧N y)∧(∀r,o=some r→r.av<rev)∧∃r',o'=some r'∧r'.av=rev∧r'.bq=false∧r'.value=val y∧(∀r,o=some r→r'.changed=if r.value=r'.value then r.changed else rev)∧(o=none→r'.changed=rev))
structure iV (val:Key→ByteArray) (N:Key→Prop) (a8:List Key) (rev:Int) (l l':List Rec):Prop where
 pt:∀y,Pt val N rev a8 y (aA l y) (aA l' y)
 scc:∀y z,xP l rev y z→bT l' rev y=true→bT l' rev z=true
def Live(l:List Rec) (rev:Int) (k:Key):Prop:=∃r,aA l k=some r∧r.bq=false∧r.av<rev
theorem Live.yU{l:List Rec}{rev:Int}{k:Key}(h:bT l rev k=true):Live l rev k:=by
 obtain⟨r,h1,_,a,c⟩:=bE.1 h;exact⟨r,h1,c,a⟩
theorem Live.gz{l:List Rec}{rev:Int}{k:Key}(h:Live l rev k) (hc:az k=true):bT l rev k=true:=by
 obtain⟨r,h1,a,c⟩:=h
 grind [bE]
section
variable {val:Key→ByteArray}{N N':Key→Prop}{a8 JJ:List Key}{rev:Int}{l l' l2:List Rec}{k x y z:Key}
theorem iV.refl(l:List Rec):iV val N a8 rev l l:=⟨fun _=>.inl rfl,fun _ _ h _=>h.gz⟩
theorem iV.mono(h:iV val N a8 rev l l') (hr:∀y∈a8,y∈JJ) (c:∀y,N y→N' y):iV val N' JJ rev l l':=
 ⟨fun y=>by
  rcases h.pt y with h | ⟨h1,a⟩ | ⟨⟨h1,a⟩,d⟩
  ·
   exact .inl h
  ·
   exact .inr (.inl ⟨h1.imp id (c y),a⟩)
  exact .inr (.inr ⟨⟨hr y h1,c y a⟩,d⟩),h.scc⟩
theorem iV.live(h:iV val N a8 rev l l') (hl:Live l' rev y):aA l' y=aA l y:=by
 obtain⟨r,h1,a,c⟩:=hl
 rcases h.pt y with e | ⟨_,q,_,_,_,e | e⟩ | ⟨_,_,q,e,d,_⟩
 ·
  exact e
 ·
  grind
 ·
  grind
 grind
theorem iV.OO(h:iV val N a8 rev l l') (hl:Live l' rev y):Live l rev y:=by
 obtain⟨r,h1,a,c⟩:=id hl;exact⟨r,by rw [← h.live hl];exact h1,a,c⟩
theorem iV.gz(h:iV val N a8 rev l l') (a:bT l' rev y=true):aA l' y=aA l y:=h.live (.yU a)
theorem iV.MA(h:iV val N a8 rev l l') (a:bT l' rev y=true):bT l rev y=true:=by
 obtain⟨r,h1,c,d,e⟩:=bE.1 a;exact bE.2 ⟨r,by rw [← h.gz a];exact h1,c,d,e⟩
theorem iV.aC(h:iV val N a8 rev l l') (a:bT l' rev y=true):aC l' y=Rc.aC l y:=by
 unfold Rc.aC
 rw [h.gz a]
theorem iV.leads(h:iV val N a8 rev l l') (hk:bT l' rev k=true) (hl:bM l' rev k x):bM l rev k x:=by
 induction hl with
 | one h1=>exact .one ⟨by rw [← h.aC hk];exact h1.1,h.MA h1.2⟩
 | step h1 a c=>exact .step c ⟨by rw [← h.aC h1.gz];exact a.1,h.MA a.2⟩
theorem iV.back(h:iV val N a8 rev l l') (hk:bT l' rev k=true) (hl:bM l rev k x):bM l rev x k→bM l' rev k x:=by
 induction hl with
 | one h1=>exact fun a=>.one ⟨by rw [h.aC hk];exact h1.1,h.scc k _ ⟨.one h1,a⟩ hk⟩
 | step h1 c d=>
  intro a;have g:=d ((bM.one c).trans a);exact .step g ⟨by rw [h.aC g.gz];exact c.1,h.scc k _ ⟨.step h1 c,a⟩ hk⟩
theorem iV.mut(h:iV val N a8 rev l l') (hk:bT l' rev k=true):xP l' rev k y↔xP l rev k y:=
 ⟨fun m=>⟨h.leads hk m.1,h.leads m.gz m.2⟩,fun m=>⟨h.back hk m.1 m.2,h.back (h.scc k y m hk) m.2 m.1⟩⟩
theorem iV.group(h:iV val N a8 rev l l') (hk:Live l' rev k):aB l' rev k=aB l rev k∧∀m∈aB l rev k,aA l' m=aA l m:=by
 cases hc:az k with
 | false=>
  rw [gR hc,gR hc];refine⟨rfl,fun m hm=>?_⟩;rw [List.mem_singleton.1 hm];exact h.live hk
 | true=>
  have a:=hk.gz hc;refine⟨rC (rD _ _ _) (rD _ _ _) fun y=>?_,fun m hm=>?_⟩
  ·
   rw [cm,cm,h.mut a,a,h.MA a]
  rcases cm.1 hm with rfl | ⟨_,m2⟩
  ·
   exact h.live hk
  exact h.gz (h.scc _ _ m2 a)
theorem iV.JK(h:iV val N a8 rev l l') (hk:Live l' rev k):bR l' (aB l' rev k)=bR l (aB l rev k):=by
 obtain⟨h1,a⟩:=h.group hk;rw [h1];refine wF fun m hm=>?_
 unfold Rc.aC
 rw [a m hm]
theorem iV.trans(h:iV val N a8 rev l l') (a:iV val N a8 rev l' l2):iV val N a8 rev l l2:=by
 refine⟨fun y=>?_,fun y z m c=>?_⟩
 ·
  have g2:=a.pt y
  rcases h.pt y with e | ⟨e0,r,e1,e2,e3,e4 | e4⟩ | ⟨e1,e2,r',e3,e4,e5,e6,d,e8⟩
  ·
   rw [e] at g2;exact g2
  ·
   rcases g2 with g | ⟨_,q,g1,g2,g3,_⟩ | ⟨_,g1,_⟩
   ·
    exact .inr (.inl ⟨e0,r,e1,e2,e3,.inl (g.trans e4)⟩)
   ·
    grind
   grind
  ·
   rcases g2 with g | ⟨_,q,g1,g2,g3,_⟩ | ⟨g1,g2,q,g3,g4,g5,g6,g7,g8⟩
   ·
    exact .inr (.inl ⟨e0,r,e1,e2,e3,.inr (g.trans e4)⟩)
   ·
    grind
   refine .inr (.inr ⟨g1,fun r2 f=>?_,q,g3,g4,g5,g6,fun r2 f=>?_,fun hn=>?_⟩)
   ·
    grind
   ·
    grind
   grind
  rcases g2 with g | ⟨_,q,g1,g2,g3,_⟩ | ⟨_,g1,_⟩
  ·
   exact .inr (.inr ⟨e1,e2,r',g.trans e3,e4,e5,e6,d,e8⟩)
  ·
   grind
  have:=g1 _ e3
  omega
 have i:=a.MA c;exact a.scc y z ((h.mut i).2 m) c
theorem bV{g:List Key}{d:Bool}:aA (l.map (aX rev g d)) y=(aA l y).map (aX rev g d):=rz _ (fun r=>(cR rev g d r).1) y l
theorem iV.mark(hl:Live l rev k) (d:Bool) (h:az k=true∨N k):iV val N a8 rev l (l.map (aX rev (aB l rev k) d)):=by
 have eK:∀y∈aB l rev k,Live l rev y:=fun y hy=>by
  rcases cm.1 hy with rfl | ⟨_,m⟩
  ·
   exact hl
  exact .yU m.gz
 have i:∀y,y∉aB l rev k→aA (l.map (aX rev (aB l rev k) d)) y=aA l y:=fun y hy=>by
  rw [bV]
  cases j:aA l y with
  | none=>rfl
  | some r=>
   have e:=(aI j).2
   show some (aX rev (aB l rev k) d r)=some r
   unfold aX
   rw [if_neg (by rw [e];exact hy)]
 have o:∀y∈aB l rev k,∃r,aA l y=some r∧r.bq=false∧r.av<rev∧aA (l.map (aX rev (aB l rev k) d)) y=some (if d then {r with bq:=true} else {r with av:=rev}):=fun y hy=>by
  obtain⟨r,h1,a,c⟩:=eK y hy;refine⟨r,h1,a,c,?_⟩;rw [bV,h1]
  show some (aX rev (aB l rev k) d r)=_
  unfold aX
  rw [if_pos (by rw [(aI h1).2];exact hy)]
 refine⟨fun y=>?_,fun y z m u=>?_⟩
 ·
  by_cases hy:y∈aB l rev k
  ·
   obtain⟨r,h1,a,c,p⟩:=o y hy;refine .inr (.inl ⟨?_,r,h1,a,c,?_⟩)
   ·
    rcases cm.1 hy with rfl | ⟨_,m⟩
    ·
     exact h
    obtain⟨_,_,g,_⟩:=bE.1 m.gz;exact .inl g
   grind
  exact .inl (i y hy)
 have hy:y∉aB l rev k:=fun hy=>by grind [bE]
 have f:z∉aB l rev k:=fun f=>hy (by
  rcases cm.1 f with rfl | ⟨h1,a⟩
  ·
   grind [cm,xP.gz,xP.symm]
  exact cm.2 (.inr ⟨h1,a.trans m.symm⟩))
 obtain⟨r,h1,a,c,p⟩:=bE.1 m.gz
 grind [bE]
theorem iV.put{r':Rec}(hk:bT l rev r'.key=false) (a:∀r,aA l r'.key=some r→r.av<rev) (c:r'.key∈a8∧N r'.key) (d:r'.av=rev) (f:r'.bq=false) (g:r'.value=val r'.key)
  (hc:∀r,aA l r'.key=some r→r'.changed=if r.value=r'.value then r.changed else rev) (hn:aA l r'.key=none→r'.changed=rev):iV val N a8 rev l (dK l r'):=by
 refine⟨fun y=>?_,fun y z m p=>?_⟩
 ·
  rw [ck]
  by_cases e:y=r'.key
  ·
   rw [if_pos e,e];exact .inr (.inr ⟨c,a,r',rfl,d,f,g,hc,hn⟩)
  rw [if_neg e];exact .inl rfl
 have h:z≠r'.key:=fun e=>by grind [xP.gz]
 obtain⟨r,h1,i,j,o⟩:=bE.1 m.gz;exact bE.2 ⟨r,by rw [ck,if_neg h];exact h1,i,j,o⟩
end
end Go.Rc

namespace Go.Rc
open Go
theorem aN{l:List Rec}{k:Key}{r:Rec}(h:aA l k=some r):aC l k=r:=by
 unfold aC
 rw [h]
 rfl
theorem fU:∀{l:List Rec},pf l→∀{r:Rec},r∈l→aA l r.key=some r
 | [],_,r,hr=>by cases hr
 | x::xs,h,r,hr=>by
  obtain⟨h1,a⟩:=List.pairwise_cons.1 h
  unfold aA
  rw [List.find?_cons]
  rcases List.mem_cons.1 hr with rfl | hr
  ·
   simp
  have c:=h1 r hr
  have d:x.key≠r.key:=fun e=>by rw [e,iy] at c;omega
  have:(x.key == r.key)=false:=by simpa using d
  rw [this];exact fU a hr
structure Bi (aa:List aH) (H:Int→List ct) (on:Key→Bool) (b:bZ):Prop where
 c:Cons aa H on b
 st:pf b.ah
 kr:∀r∈b.ah,∃i:Nat,i<aa.length∧r.key=aM aa (i:Int)
 dv:∀r∈b.ah,r.bq=true→r.av<b.ad
section
variable {aa:List aH}{H:Int→List ct}{on on':Key→Bool}{b:bZ}{k:Key}
theorem Bi.MB(h:Bi aa H on b) (f:∀k,on k=true→on' k=true):Bi aa H on' b:=
 ⟨{h.c with
   rr:=fun r hr a d hi ra e=>(h.c.rr r hr a d hi ra e).imp (fun⟨x,y⟩=>⟨x,f _ y⟩) id
   rs:=fun r hr hc a d hi ra e=>(h.c.rs r hr hc a d hi ra e).imp (fun⟨x,y⟩=>⟨x,f _ y⟩) id},h.st,h.kr,h.dv⟩
theorem Bi.off(h:Bi aa H on b) (hu:ay b k=true) (g:∀y,on y=true→y=k∨on' y=true):Bi aa H on' b:=by
 obtain⟨q,f,j,i⟩:=h.c.up hu;refine⟨{h.c with rr:=fun r hr a e hi ra d=>?_,rs:=fun r hr hc a e hi ra d=>?_},h.st,h.kr,h.dv⟩
 ·
  rcases h.c.rr r hr a e hi ra d with⟨x,y⟩ | z
  ·
   rcases g a y with rfl | y
   ·
    rw [d] at f
    have:=Option.some.inj f
    subst this;refine .inr fun _=>?_;rw [x,h.c.now];exact i.symm
   exact .inl ⟨x,y⟩
  exact .inr z
 rcases h.c.rs r hr hc a e hi ra d with⟨x,y⟩ | z
 ·
  grind
 exact .inr z
theorem HC(d:aq aa) {aD:List ct}{i:Nat}(hi:i<aa.length) (hr:aF aa i=true) {x:Ask}(a:x∈aa[i].asks):bQ aa x∈cH aa aD i:=by
 obtain⟨q,e⟩:=List.mem_iff_getElem?.1 a
 have c:q<cL aa i:=by grind [cL]
 have h1:=fG (aD:=aD) c
 grind [et,nB,kq]
theorem Cons.lead(h:Cons aa H on b) {x y:Key}(a:bT b.ah b.ad x=true) (hl:bM b.ah b.ad x y):(aC b.ah x).av≤(aC b.ah y).av:=by
 have step:∀x y,bT b.ah b.ad x=true→Ld b.ah b.ad x y→(aC b.ah x).av≤(aC b.ah y).av:=by
  intro x y a hy;obtain⟨r,h1,c,f,g⟩:=bE.1 a;obtain⟨q,g1,g2,g3,g4⟩:=bE.1 hy.2;have d:=hy.1;rw [aN h1] at d;rw [aN h1,aN g1]
  rcases h.rs r (aI h1).1 (by rw [(aI h1).2];exact c) y d g2 q g1 with⟨e,_⟩ | e
  ·
   omega
  exact e
 induction hl with
 | one h1=>exact step _ _ a h1
 | step h1 c i=>grind [bM.gz]
theorem Bi.key(h:Bi aa H on b) (hl:Live b.ah b.ad k):∃i:Nat,i<aa.length∧k=aM aa (i:Int):=by
 obtain⟨r,h1,_⟩:=hl;obtain⟨a,c⟩:=aI h1;obtain⟨i,hi,e⟩:=h.kr r a
 grind
theorem jZ{l:List Rec}{rev:Int}{y:Key}(hl:Live l rev k) (hy:y∈aB l rev k):Live l rev y:=by
 rcases cm.1 hy with rfl | ⟨_,m⟩
 ·
  exact hl
 exact .yU m.gz
theorem Bi.fixed(g:aq aa) (h:Bi aa H on b) (hl:Live b.ah b.ad k)
  (p:∀m∈aB b.ah b.ad k,∀a∈(aC b.ah m).reads,a∉aB b.ah b.ad k→valOf aa (H (aC b.ah m).av) a=valOf aa b.ab a) :
  ∀m∈aB b.ah b.ad k,valOf aa b.ab m=valOf aa (H (aC b.ah m).av) m∧iO aa b.ab m=iO aa (H (aC b.ah m).av) m:=by
 have E:=g.len
 have f:∀m∈aB b.ah b.ad k,∃i:Nat,i<aa.length∧m=aM aa (i:Int)∧(aC b.ah m).reads=cH aa (H (aC b.ah m).av) i:=fun m hm=>by
  have u:=jZ hl hm;obtain⟨i,hi,e⟩:=h.key u;obtain⟨r,h1,_⟩:=u;refine⟨i,hi,e,?_⟩;have w:=(h.c.vr r (aI h1).1).2;rw [aN h1,w,(aI h1).2,e,fF g hi]
 cases hc:az k with
 | false=>
  rw [gR hc] at p f ⊢;intro m hm;rw [List.mem_singleton] at hm;subst hm;obtain⟨i,hi,e,f⟩:=f m (by simp)
  have A:=uG g hi (aD:=H (aC b.ah m).av) (mM:=b.ab) fun a o=>by
   refine p m (by simp) a (by rw [f];exact o) fun hm=>?_;rw [List.mem_singleton] at hm;rw [e] at hm;rw [e,bf hi (by omega)] at hc
   rcases ph g hi a o with⟨n,hn,rfl⟩ | ⟨j,d,rfl,_,F,_⟩
   ·
    grind [bD,di]
   grind [eb]
  grind [fF]
 | true=>
  have B:=hl.gz hc
  have ht:∀m∈aB b.ah b.ad k,(aC b.ah m).av=(aC b.ah k).av:=fun m hm=>by
   rcases cm.1 hm with rfl | ⟨_,m1,m2⟩
   ·
    rfl
   have a1:=h.c.lead B m1;have a2:=h.c.lead m1.gz m2
   omega
  have C:∀j:Nat,j<aa.length→aM aa (j:Int)∈aB b.ah b.ad k→aF aa j=true:=fun j d hm=>by
   have h1:bT b.ah b.ad (aM aa (j:Int))=true:=by grind [cm,xP.gz]
   grind [bE,bf]
  have D:∀j:Nat,j<aa.length→aM aa (j:Int)∈aB b.ah b.ad k→valOf aa (H (aC b.ah k).av) (aM aa (j:Int))=valOf aa b.ab (aM aa (j:Int)):=fun j d hm=>by
   refine Ep g (G:=fun j=>j<aa.length∧aM aa (j:Int)∈aB b.ah b.ad k) (fun j d=>⟨d.1,C j d.1 d.2⟩) (fun j d r x hr I J=>?_) ⟨d,hm⟩
   grind [eb,HC]
  intro m hm;obtain⟨i,hi,e,f⟩:=f m hm;have h1:=D i hi (e ▸ hm);rw [ht m hm] at f ⊢;refine⟨by rw [e];exact h1.symm,?_⟩
  have A:=uG g hi (aD:=H (aC b.ah k).av) (mM:=b.ab) fun a o=>by grind
  grind [fF]
theorem iC(rev:Int) (g:List Key) (d:Bool) (r:Rec):(aX rev g d r).value=r.value∧(aX rev g d r).changed=r.changed:=by
 unfold aX
 grind
theorem Bi.mark(F:aq aa) (h:Bi aa H on b) (hl:Live b.ah b.ad k)
  (A:∀m∈aB b.ah b.ad k,∀a∈(aC b.ah m).reads,a∉aB b.ah b.ad k→valOf aa (H (aC b.ah m).av) a=valOf aa b.ab a∧(aw a=true∨(on a=true∧az a=true)∨ay b a=true)) :
  Bi aa H on (cI b (aB b.ah b.ad k) false):=by
 have C:=h.fixed F hl fun m hm a d I=>(A m hm a d I).1
 generalize J:aB b.ah b.ad k=G at C A
 have K:∀a ra,a∈G→aA b.ah a=some ra→ra.value=valOf aa b.ab a:=fun a ra d f=>by
  have h1:=(h.c.vr ra (aI f).1).1;have o:=(C a d).1;rw [aN f] at o;rw [h1,(aI f).2,o]
 have B:∀r:Rec,r.key∈G→(aX b.ad G false r).av=b.ad:=fun r hr=>by
  unfold aX
  rw [if_pos hr]
  rfl
 have p:∀r:Rec,r.key∉G→aX b.ad G false r=r:=fun r hr=>by
  unfold aX
  rw [if_neg hr]
 refine⟨⟨h.c.now,h.c.eK,fun r' g=>?_,fun r' g=>?_,fun r' g a d hi M u=>?_,fun r' g hc a d hi M u=>?_⟩,h.st.map fun r=>(cR _ _ _ r).1,fun r' g=>?_,fun r' g D=>?_⟩
 ·
  obtain⟨r,hr,rfl⟩:=List.mem_map.1 g;have h1:=h.c.Er r hr
  by_cases e:r.key∈G
  ·
   rw [B r e,(iC _ _ _ r).2];exact⟨Int.le_refl _,by omega⟩
  rw [p r e];exact h1
 ·
  obtain⟨r,hr,rfl⟩:=List.mem_map.1 g;have h1:=h.c.vr r hr
  by_cases e:r.key∈G
  ·
   have i:=fU h.st hr;have o:=C r.key e;rw [aN i] at o;rw [B r e,(iC _ _ _ r).1,(cR _ _ _ r).1,(cR _ _ _ r).2,h.c.now,o.1,o.2];exact h1
  rw [p r e];exact h1
 ·
  obtain⟨r,hr,rfl⟩:=List.mem_map.1 g;rw [show(cI b G false).ah=b.ah.map (aX b.ad G false) from rfl,bV] at u;obtain⟨ra,f,rfl⟩:=Option.map_eq_some_iff.1 u;have i:=fU h.st hr;rw [(cR _ _ _ r).2] at d;rw [(iC _ _ _ ra).1,(iC _ _ _ ra).2]
  show((aX b.ad G false r).av=b.ad∧_)∨_
  by_cases e:r.key∈G
  ·
   rw [B r e]
   by_cases w:a∈G
   ·
    refine .inr fun _=>?_;rw [h.c.now];exact(K a ra w f).symm
   rcases(A r.key e a (by rw [aN i];exact d) w).2 with h1 | h1 | h1
   ·
    rw [hi] at h1
    cases h1
   ·
    exact .inl ⟨rfl,h1.1⟩
   refine .inr fun _=>?_;obtain⟨q,E,_,O⟩:=h.c.up h1;rw [f] at E
   have:=Option.some.inj E
   subst this;rw [h.c.now];exact O.symm
  rw [p r e];exact h.c.rr r hr a d hi ra f
 ·
  obtain⟨r,hr,rfl⟩:=List.mem_map.1 g;rw [show(cI b G false).ah=b.ah.map (aX b.ad G false) from rfl,bV] at u;obtain⟨ra,f,rfl⟩:=Option.map_eq_some_iff.1 u;have i:=fU h.st hr;rw [(cR _ _ _ r).2] at d;rw [(cR _ _ _ r).1] at hc
  show((aX b.ad G false r).av=b.ad∧_)∨_
  have P:=(aI f).2;have hle:=(h.c.Er r hr).1
  by_cases e:r.key∈G
  ·
   rw [B r e]
   by_cases w:a∈G
   ·
    grind
   rcases(A r.key e a (by rw [aN i];exact d) w).2 with h1 | h1 | h1
   ·
    obtain⟨j,Q,R⟩:=h.kr ra (aI f).1
    grind [aq.len,di]
   ·
    exact .inl ⟨rfl,h1.1⟩
   obtain⟨q,E,T⟩:=aL.1 h1
   grind
  rw [p r e]
  rcases h.c.rs r hr hc a d hi ra f with h1 | h1
  ·
   exact .inl h1
  refine .inr ?_
  by_cases w:ra.key∈G
  ·
   grind
  grind
 ·
  obtain⟨r,hr,rfl⟩:=List.mem_map.1 g;rw [(cR _ _ _ r).1];exact h.kr r hr
 obtain⟨r,hr,rfl⟩:=List.mem_map.1 g
 by_cases e:r.key∈G
 ·
  have i:=fU h.st hr;obtain⟨q,g1,g2,_⟩:=jZ hl (y:=r.key) (by rw [J];exact e);rw [i] at g1
  have:=Option.some.inj g1
  subst this
  unfold aX at D
  grind
 rw [p r e] at D ⊢;exact h.dv r hr D
theorem Bi.bq(h:Bi aa H on b) {G:List Key}(o:∀m∈G,Live b.ah b.ad m):Bi aa H on (cI b G true):=by
 have hm:∀r:Rec,(aX b.ad G true r).av=r.av:=fun r=>by
  unfold aX
  grind
 refine⟨⟨h.c.now,h.c.eK,fun r' d=>?_,fun r' d=>?_,fun r' d a f hi p g=>?_,fun r' d hc a f hi p g=>?_⟩,h.st.map fun r=>(cR _ _ _ r).1,fun r' d=>?_,fun r' d i=>?_⟩
 ·
  obtain⟨r,hr,rfl⟩:=List.mem_map.1 d;rw [hm,(iC _ _ _ r).2];exact h.c.Er r hr
 ·
  obtain⟨r,hr,rfl⟩:=List.mem_map.1 d;rw [hm,(iC _ _ _ r).1,(cR _ _ _ r).1,(cR _ _ _ r).2];exact h.c.vr r hr
 ·
  obtain⟨r,hr,rfl⟩:=List.mem_map.1 d;rw [show(cI b G true).ah=b.ah.map (aX b.ad G true) from rfl,bV] at g;obtain⟨ra,j,rfl⟩:=Option.map_eq_some_iff.1 g;rw [(cR _ _ _ r).2] at f;rw [hm,(iC _ _ _ ra).1,(iC _ _ _ ra).2];exact h.c.rr r hr a f hi ra j
 ·
  obtain⟨r,hr,rfl⟩:=List.mem_map.1 d;rw [show(cI b G true).ah=b.ah.map (aX b.ad G true) from rfl,bV] at g;obtain⟨ra,j,rfl⟩:=Option.map_eq_some_iff.1 g;rw [(cR _ _ _ r).2] at f;rw [(cR _ _ _ r).1] at hc;rw [hm,hm];exact h.c.rs r hr hc a f hi ra j
 ·
  obtain⟨r,hr,rfl⟩:=List.mem_map.1 d;rw [(cR _ _ _ r).1];exact h.kr r hr
 obtain⟨r,hr,rfl⟩:=List.mem_map.1 d;rw [hm]
 by_cases e:r.key∈G
 ·
  obtain⟨q,g1,_,g2⟩:=o _ e;rw [fU h.st hr] at g1
  have:=Option.some.inj g1
  subst this;exact g2
 unfold aX at i
 rw [if_neg e] at i;exact h.dv r hr i
theorem Bi.put(A:aq aa) (h:Bi aa H on b) {i:Nat}(hi:i<aa.length) (G:az (aM aa (i:Int))=true→on (aM aa (i:Int))=true)
  (C:∀a∈cH aa b.ab i,aw a=true∨(on a=true∧az a=true)∨ay b a=true) :
  Bi aa H on {b with ah:=dK b.ah (bs b (aM aa (i:Int)) (valOf aa b.ab (aM aa (i:Int))) (cH aa b.ab i))}:=by
 have M:=A.len
 generalize g:bs b (aM aa (i:Int)) (valOf aa b.ab (aM aa (i:Int))) (cH aa b.ab i)=q
 have q1:q.key=aM aa (i:Int):=by rw [← g];rfl
 have m:q.av=b.ad:=by rw [← g];rfl
 have D:q.value=valOf aa b.ab (aM aa (i:Int)):=by rw [← g];rfl
 have w:q.reads=cH aa b.ab i:=by rw [← g];rfl
 have E:(∃r,aA b.ah q.key=some r∧r.value=q.value∧q.changed=r.changed)∨q.changed=b.ad:=by
  rw [← g]
  unfold bs
  simp only
  split
  ·
   rename_i hc
   simp only [Bool.and_eq_true,decide_eq_true_eq] at hc;obtain⟨r,hr⟩:=Option.isSome_iff_exists.1 hc.1;rw [aN hr] at hc ⊢;exact .inl ⟨r,hr,hc.2,rfl⟩
  exact .inr rfl
 refine⟨⟨h.c.now,h.c.eK,fun r hr=>?_,fun r hr=>?_,fun r hr a f u ra d=>?_,fun r hr hc a f u ra d=>?_⟩,pf.put h.st,fun r hr=>?_,fun r hr B=>?_⟩
 ·
  rcases gI _ _ _ _ hr with rfl | hr
  ·
   refine⟨by rw [m];exact Int.le_refl _,?_⟩
   rcases E with⟨p,o,_,e⟩ | e
   ·
    have:=h.c.Er p (aI o).1
    omega
   omega
  exact h.c.Er r hr
 ·
  rcases gI _ _ _ _ hr with rfl | hr
  ·
   rw [q1,m,D,w,h.c.now,fF A hi];exact⟨rfl,rfl⟩
  exact h.c.vr r hr
 ·
  rw [show({b with ah:=dK b.ah q}:bZ).ah=dK b.ah q from rfl,ck] at d
  show(r.av=b.ad∧_)∨_
  rcases gI _ _ _ _ hr with rfl | hr
  ·
   by_cases e:a=r.key
   ·
    refine .inl ⟨m,?_⟩;rw [e,q1];refine G ?_;rw [w] at f;rw [bf hi (by omega)]
    cases O:aF aa i with
    | true=>rfl
    | false=>
     rcases ph A hi a f with⟨n,hn,h1⟩ | ⟨j,F,h1,_,P,_⟩
     ·
      grind [bD]
     grind [eb]
   rw [if_neg e] at d
   rcases C a (by rw [← w];exact f) with h1 | h1 | h1
   ·
    rw [u] at h1
    cases h1
   ·
    exact .inl ⟨m,h1.1⟩
   refine .inr fun _=>?_;obtain⟨p,o,_,I⟩:=h.c.up h1;rw [d] at o
   have:=Option.some.inj o
   subst this;rw [m,h.c.now];exact I.symm
  by_cases e:a=q.key
  ·
   rw [if_pos e] at d
   have:=Option.some.inj d
   subst this
   rcases E with⟨p,o,e2,e3⟩ | e2
   ·
    rcases h.c.rr r hr a f u p (by rw [e];exact o) with h1 | h1
    ·
     exact .inl h1
    grind
   refine .inr fun hc=>?_;have h1:=(h.c.Er r hr).1
   have J:r.av=b.ad:=by omega
   rw [J,h.c.now,D,e,q1]
  rw [if_neg e] at d;exact h.c.rr r hr a f u ra d
 ·
  rw [show({b with ah:=dK b.ah q}:bZ).ah=dK b.ah q from rfl,ck] at d
  show(r.av=b.ad∧_)∨_
  rcases gI _ _ _ _ hr with rfl | hr
  ·
   by_cases e:a=r.key
   ·
    grind
   rw [if_neg e] at d
   rcases C a (by rw [← w];exact f) with h1 | h1 | h1
   ·
    obtain⟨j,F,K⟩:=h.kr ra (aI d).1;rw [← (aI d).2,K,di F (by omega)] at h1
    cases h1
   ·
    exact .inl ⟨m,h1.1⟩
   grind [aL]
  by_cases e:a=q.key
  ·
   rw [if_pos e] at d
   have:=Option.some.inj d
   subst this
   have:=(h.c.Er r hr).1
   exact .inr (by omega)
  rw [if_neg e] at d;exact h.c.rs r hr hc a f u ra d
 ·
  rcases gI _ _ _ _ hr with rfl | hr
  ·
   exact⟨i,hi,q1⟩
  exact h.kr r hr
 rcases gI _ _ _ _ hr with rfl | hr
 ·
  have:r.bq=false:=by rw [← g];rfl
  rw [this] at B
  cases B
 exact h.dv r hr B
end
end Go.Rc

namespace Go.Rc
open Go
def MC(val:Key→ByteArray) (b:bZ) (y:Key):Prop:=∃m a,m∈aB b.ah b.ad y∧a∈(aC b.ah m).reads∧a∉aB b.ah b.ad y∧(aC b.ah m).av<aV val b a
def DD(val:Key→ByteArray) (b:bZ) (y:Key):Prop:=aw y=false∧ay b y=false∧(aA b.ah y=none∨(aC b.ah y).bq=true∨MC val b y)
section
variable {aa:List aH}{H:Int→List ct}{on:Key→Bool}{b b0:bZ}{k:Key}{s t:ES}
def ES.AJ(s:ES) (k:Key):Bool:=s.on k && az k
theorem Et(h:s.on k=true∧az k=true):s.AJ k=true:=by grind [ES.AJ]
structure Wy (aa:List aH) (b0:bZ) (s:ES):Prop where
 rev:s.b.ad=b0.ad
 aD:s.b.ab=b0.ab
 ev:iV (valOf aa b0.ab) (fun _=>True) s.a8 b0.ad b0.ah s.b.ah
 LI:∀y r,aA s.b.ah y=some r→r.bq=true→(aC b0.ah y).bq=true∨MC (valOf aa b0.ab) b0 y
 a8:∀y∈s.a8,DD (valOf aa b0.ab) b0 y
 JL:∀y∈s.a8,ay s.b y=true
 mrk:∀y,ay b0 y=false→ay s.b y=true→y∈s.a8∨¬MC (valOf aa b0.ab) b0 y
 jP:s.a8.Nodup
theorem oH{val:Key→ByteArray}(hi:aw k=false) (h:aA b.ah k=none):aV val b k=b.ad:=by grind [aV]
theorem eM{val:Key→ByteArray}(hi:aw k=false) {r:Rec}(h:aA b.ah k=some r):aV val b k=if r.av=b.ad∨val k=r.value then r.changed else b.ad:=by
 unfold aV
 rw [hi,aN h,h]
 grind
theorem Wy.changed(i:Bi aa H on s.b) (h:Wy aa b0 s) (a:Key):aV (valOf aa b0.ab) s.b a=aV (valOf aa b0.ab) b0 a:=by
 cases hi:aw a with
 | true=>
  unfold aV
  rw [hi,if_pos rfl,if_pos rfl,h.aD]
 | false=>
  rcases h.ev.pt a with e | ⟨_,r,e1,e2,e3,e4 | e4⟩ | ⟨_,e2,r',e3,e4,e5,e6,j,e8⟩
  ·
   cases d:aA b0.ah a with
   | none=>grind [oH,rev]
   | some r=>rw [eM hi (e.trans d),eM hi d,h.rev]
  ·
   have hu:ay s.b a=true:=aL.2 ⟨_,e4,h.rev.symm⟩;obtain⟨q,f,_,g⟩:=i.c.up hu;rw [e4] at f
   have:=Option.some.inj f
   subst this;rw [h.aD] at g;rw [eM hi e4,eM hi e1,if_pos (.inl h.rev.symm),if_pos (.inr g.symm)]
  ·
   rw [eM hi e4,eM hi e1,h.rev]
  rw [eM hi e3,if_pos (.inl (e4.trans h.rev.symm))]
  cases d:aA b0.ah a with
  | none=>rw [oH hi d,e8 d]
  | some r=>
   rw [eM hi d,j r d,e6]
   grind
theorem Wy.QR(i:Bi aa H on s.b) (h:Wy aa b0 s) (hl:Live s.b.ah s.b.ad k) {m a:Key}(hm:m∈aB s.b.ah s.b.ad k) (f:a∈(aC s.b.ah m).reads) (c:a∉aB s.b.ah s.b.ad k)
  (hc:(aC s.b.ah m).av<aV (valOf aa b0.ab) s.b a):∀y∈aB s.b.ah s.b.ad k,MC (valOf aa b0.ab) b0 y:=by
 intro y hy;rw [h.rev] at hl hm c hy;obtain⟨h1,j⟩:=h.ev.group hl;rw [h1] at hm c hy;have p:=h.ev.OO hl
 have e:aC s.b.ah m=aC b0.ah m:=by
  unfold aC
  rw [j m hm]
 rw [e] at f hc
 have g:∀z,z∈aB b0.ah b0.ad y↔z∈aB b0.ah b0.ad k:=fun z=>by
  rcases cm.1 hy with rfl | ⟨d,o⟩
  ·
   exact Iff.rfl
  exact xQ d o z
 exact⟨m,a,(g m).2 hm,f,fun d=>c ((g a).1 d),by rw [← h.changed i a];exact hc⟩
theorem Wy.OP(h:Wy aa b0 s) (hl:Live s.b.ah s.b.ad k) (c:∀m∈aB s.b.ah s.b.ad k,∀a∈(aC s.b.ah m).reads,a∉aB s.b.ah s.b.ad k→aV (valOf aa b0.ab) b0 a≤(aC s.b.ah m).av):∀y∈aB s.b.ah s.b.ad k,¬MC (valOf aa b0.ab) b0 y:=by
 rintro y hy ⟨m,a,hm,g,i,hc⟩;rw [h.rev] at hl c hy;obtain⟨h1,j⟩:=h.ev.group hl;rw [h1] at c hy
 have o:∀z,z∈aB b0.ah b0.ad y↔z∈aB b0.ah b0.ad k:=fun z=>by
  rcases cm.1 hy with rfl | ⟨d,f⟩
  ·
   exact Iff.rfl
  exact xQ d f z
 have e:aC s.b.ah m=aC b0.ah m:=by grind [aC]
 grind
theorem Wy.none(h:Wy aa b0 s) (a:aA s.b.ah k=none):aA b0.ah k=none:=by
 rcases h.ev.pt k with e | ⟨_,r,e1,e2,e3,e4 | e4⟩ | ⟨_,e2,r',e3,_⟩
 ·
  exact e.symm.trans a
 ·
  rw [a] at e4;cases e4
 ·
  rw [a] at e4;cases e4
 rw [a] at e3;cases e3
theorem iV.ay{val:Key→ByteArray}{N:Key→Prop}{a8:List Key}{b b':bZ}(h:iV val N a8 b.ad b.ah b'.ah) (hr:b'.ad=b.ad) (hu:Rc.ay b k=true):Rc.ay b' k=true:=by
 obtain⟨r,h1,a⟩:=aL.1 hu
 rcases h.pt k with e | ⟨_,q,e1,e2,e3,_⟩ | ⟨_,e2,_⟩
 ·
  exact aL.2 ⟨r,e.trans h1,a.trans hr.symm⟩
 ·
  grind
 have:=e2 r h1
 omega
theorem GB{G:List Key}(hu:Rc.ay b k=false) (c:Rc.ay (cI b G false) k=true):k∈G:=by
 obtain⟨r',h1,a⟩:=aL.1 c;have d:(aA b.ah k).map (aX b.ad G false)=some r':=bV.symm.trans h1;obtain⟨r,hr,rfl⟩:=Option.map_eq_some_iff.1 d;have e:=(aI hr).2;refine Classical.byContradiction fun hk=>?_
 unfold aX at a
 rw [if_neg (by rw [e];exact hk)] at a
 have:=aL.2 ⟨r,hr,a⟩
 rw [hu] at this
 cases this
theorem lL{G:List Key}:Rc.ay (cI b G true) k=Rc.ay b k:=by
 have e:aA (cI b G true).ah k=(aA b.ah k).map (aX b.ad G true):=bV
 have hm:∀r:Rec,(aX b.ad G true r).av=r.av:=fun r=>by
  unfold aX
  grind
 rw [Bool.eq_iff_iff,aL,aL,e]
 constructor
 ·
  rintro⟨r',h1,a⟩;obtain⟨r,hr,rfl⟩:=Option.map_eq_some_iff.1 h1;rw [hm] at a;exact⟨r,hr,a⟩
 rintro⟨r,h1,a⟩;exact⟨_,by rw [h1];rfl,by rw [hm];exact a⟩
theorem xR{l:List Key}(h:l.Nodup) (hk:k∉l):(l++[k]).Nodup:=by grind
theorem Wy.step{s':ES}(h:Wy aa b0 s) (h1:s'.b.ad=s.b.ad) (e:s'.b.ab=s.b.ab) (c:iV (valOf aa b0.ab) (fun _=>True) s'.a8 b0.ad s.b.ah s'.b.ah) (hr:∀y∈s.a8,y∈s'.a8)
  (f:∀y r,aA s'.b.ah y=some r→r.bq=true→(aC b0.ah y).bq=true∨MC (valOf aa b0.ab) b0 y) (hw:∀y∈s'.a8,DD (valOf aa b0.ab) b0 y) (hn:∀y∈s'.a8,y∈s.a8∨Rc.ay s'.b y=true)
  (hm:∀y,Rc.ay s.b y=false→Rc.ay s'.b y=true→y∈s'.a8∨¬MC (valOf aa b0.ab) b0 y) (g:s'.a8.Nodup):Wy aa b0 s':=by
 have i:iV (valOf aa b0.ab) (fun _=>True) s'.a8 s.b.ad s.b.ah s'.b.ah:=by rw [h.rev];exact c
 refine⟨h1.trans h.rev,e.trans h.aD,(h.ev.mono hr fun _ h=>h).trans c,f,hw,fun y hy=>?_,fun y hu j=>?_,g⟩
 ·
  rcases hn y hy with a | a
  ·
   exact i.ay h1 (h.JL y a)
  exact a
 cases d:Rc.ay s.b y with
 | true=>exact(h.mrk y hu d).imp (hr y) id
 | false=>exact hm y d j
theorem Wy.uH(h:Wy aa b0 s) (hu:ay s.b k=false):ay b0 k=false:=by
 cases hb:ay b0 k with
 | false=>rfl
 | true=>
  have:=h.ev.ay h.rev hb
  rw [hu] at this
  cases this
theorem uI(h:aA b.ah k=none):ay b k=false:=by
 unfold ay
 rw [h]
 rfl
theorem jj{r:Rec}(h:aA b.ah k=some r) (a:r.av<b.ad):ay b k=false:=by grind [aL]
theorem Bi.answer(a:Bi aa H on b) (hk:ep aa k) (ht:aw k=true∨az k=true∨ay b k=true):bS (valOf aa b.ab) b k=valOf aa b.ab k:=by
 unfold bS
 by_cases hc:az k=true
 ·
  rw [if_pos hc]
 rw [if_neg hc]
 unfold i6
 by_cases hi:aw k=true
 ·
  rw [if_pos hi]
  unfold valOf cellOf
  rw [if_pos hi]
 rw [if_neg hi]
 have hu:ay b k=true:=by grind
 obtain⟨r,d,g,e⟩:=a.c.up hu
 have f:gu b k=true:=by grind [gu,aN]
 rw [if_pos f,aN d,e]
theorem qh(h:eu s k=true):aw k=true∨(s.on k=true∧az k=true)∨ay s.b k=true:=by
 unfold eu at h
 grind
theorem JM(h:aw k=true∨(s.on k=true∧az k=true)∨ay s.b k=true):eu s k=true:=by
 unfold eu
 grind
theorem Bi.len(a:Bi aa H on b):b.ah.length≤aa.length:=by
 have h1:(b.ah.map (·.key)).Nodup:=by
  refine List.pairwise_map.2 (a.st.imp fun {x y} h e=>?_);rw [e,iy] at h
  omega
 have c:=eL (S:=(List.range aa.length).map fun i:Nat=>aM aa (i:Int)) h1 fun x d=>by
  obtain⟨r,hr,rfl⟩:=List.mem_map.1 d;obtain⟨i,hi,e⟩:=a.kr r hr
  grind
 simpa using c
/-! ### the order of what is asked -/
theorem oh(c:aq aa) {aD:List ct}{i:Nat}(hi:i<aa.length) {a:Key}(d:a∈cH aa aD i):eT aa i a∧∀m:Nat,m<aa.length→a=aM aa (m:Int)→Lw aa m (ny aa i)∧∀b,Lw aa i b→Lw aa m b:=by grind [List.mem_iff_getElem?,pg,fG,Gv,nB,kq]
theorem HD(c:aq aa) {aD:List ct}{i:Nat}(hi:i<aa.length) (hr:aF aa i=true) {a:Key}(d:a∈cH aa aD i) (hc:az a=true):∃j:Nat,j<aa.length∧a=aM aa (j:Int)∧fN aa i j:=by grind [List.mem_iff_getElem?,pg,fG,et,nB,kq,je,ij]
theorem sE(f:aq aa) (g:Bi aa H on b) {i:Nat}(hi:i<aa.length) (h:bT b.ah b.ad (aM aa (i:Int))=true) {x:Key}(hl:bM b.ah b.ad (aM aa (i:Int)) x):∃j:Nat,j<aa.length∧x=aM aa (j:Int)∧cU aa i j:=by
 have C:=f.len
 have step:∀(m:Nat) y,m<aa.length→bT b.ah b.ad (aM aa (m:Int))=true→Ld b.ah b.ad (aM aa (m:Int)) y→∃j:Nat,j<aa.length∧y=aM aa (j:Int)∧fN aa m j:=by
  intro m y hm o hy;obtain⟨r,h1,a,d,e⟩:=bE.1 o;obtain⟨q,g1,g2,_⟩:=bE.1 hy.2;have p:=hy.1;rw [aN h1,(g.c.vr r (aI h1).1).2,(aI h1).2,fF f hm] at p
  grind [bf,HD]
 induction hl with
 | one h1=>
  obtain⟨j,a,d,e⟩:=step i _ hi h h1;exact⟨j,a,d,.step .refl e⟩
 | step h1 a u=>
  obtain⟨j,d,rfl,e⟩:=u;obtain⟨q,w,A,B⟩:=step j _ d h1.gz a;exact⟨q,w,A,.step e B⟩
theorem GC(a:aq aa) (d:Bi aa H on b) {i j:Nat}(hi:i<aa.length) (c:j<aa.length) (hl:Live b.ah b.ad (aM aa (i:Int))) (hm:aM aa (j:Int)∈aB b.ah b.ad (aM aa (i:Int))):ny aa j=ny aa i∧∀b,Lw aa i b→Lw aa j b:=by
 have u:=a.len
 rcases cm.1 hm with e | ⟨f,m1,m2⟩
 ·
  have:=eb a c hi e
  grind
 obtain⟨q,g,eq,h1⟩:=sE a d hi f m1
 have:=eb a c g eq
 subst this;obtain⟨p,h,m,o⟩:=sE a d c m1.gz m2
 have:=eb a hi h m
 subst this;have w:=ki a h1;have A:=ki a o;obtain⟨_,_,c1,_⟩:=bE.1 f;obtain⟨_,_,c2,_⟩:=bE.1 m1.gz;rw [bf hi (by omega)] at c1;rw [bf c (by omega)] at c2
 unfold ny Lw
 grind
end
/-! ### a request -/
section
variable {aa:List aH}{H:Int→List ct}{b0:bZ}
structure Rs (aa:List aH) (H:Int→List ct) (b0:bZ) (N:Key→Prop) (s s':ES):Prop where
 e:s'.e=0
 bi:Bi aa H s.AJ s'.b
 ev:iV (valOf aa b0.ab) N s'.a8 b0.ad s.b.ah s'.b.ah
 wy:Wy aa b0 s'
theorem Rs.refl{N:Key→Prop}{s:ES}(he:s.e=0) (a:Bi aa H s.AJ s.b) (c:Wy aa b0 s):Rs aa H b0 N s s:=⟨he,a,.refl _,c⟩
theorem Rs.trans{N:Key→Prop}{s t u:ES}(h:Rs aa H b0 N s t) (a:Rs aa H b0 N t u) (hr:∀y∈t.a8,y∈u.a8) (c:∀k,t.on k=s.on k):Rs aa H b0 N s u:=
 ⟨a.e,a.bi.MB fun k hk=>by grind [ES.AJ],(h.ev.mono hr fun _ h=>h).trans a.ev,a.wy⟩
def Ps(aa:List aH) (H:Int→List ct) (b0:bZ) (s:ES) (k:Key) (n:Nat):Prop:=
 Live s.b.ah s.b.ad k→∀j c,j<n→(bR s.b.ah (aB s.b.ah s.b.ad k))[j]?=some c→
  valOf aa (H (aC s.b.ah c.dC).av) c.read=valOf aa b0.ab c.read∧(aw c.read=true∨(s.on c.read=true∧az c.read=true)∨ay s.b c.read=true)∧aV (valOf aa b0.ab) b0 c.read≤(aC s.b.ah c.dC).av
theorem uJ{val:Key→ByteArray}:∀f,(∀s k s',kW aa val f s k=some s'→∀y∈s.a8,y∈s'.a8)∧(∀s k n s' b,cP aa val f s k n=some (s',b)→∀y∈s.a8,y∈s'.a8)∧(∀s k r a s',gQ aa val f s k r a=some s'→∀y∈s.a8,y∈s'.a8):=by
 intro f
 induction f with
 | zero=>grind [kW,cP,gQ]
 | succ f c=>
  obtain⟨g,d,i⟩:=c;refine⟨?_,?_,?_⟩
  ·
   intro s k s' h y hy
   unfold kW at h
   split at h
   ·
    cases h;exact hy
   split at h
   ·
    cases h;exact hy
   split at h
   ·
    grind
   obtain⟨p,e,h⟩:=Option.bind_eq_some_iff.1 h;obtain⟨t,ht,h⟩:=Option.bind_eq_some_iff.1 h
   cases h
   have h1:=d _ _ _ p.1 p.2 e y hy
   grind
  ·
   grind [cP,Option.bind_eq_some_iff]
  grind [gQ,Option.bind_eq_some_iff]
def UpR(aa:List aH) (H:Int→List ct) (b0:bZ) (f:Nat):Prop:=∀s k s',kW aa (valOf aa b0.ab) f s k=some s'→Good aa b0.ab s→s.e=0→Bi aa H s.AJ s.b→Wy aa b0 s→ep aa k→(∀i:Nat,i<aa.length→k=aM aa (i:Int)→aci aa s i)→Rs aa H b0 (fun y=>s.on y=false) s s'
def ChR(aa:List aH) (H:Int→List ct) (b0:bZ) (f:Nat):Prop:=∀s (i n:Nat) s' c,cP aa (valOf aa b0.ab) f s (aM aa (i:Int)) n=some (s',c)→Good aa b0.ab s→s.e=0→Bi aa H s.AJ s.b→Wy aa b0 s→i<aa.length→s.on (aM aa (i:Int))=true→UP aa s i→Ps aa H b0 s (aM aa (i:Int)) n→
 Rs aa H b0 (fun y=>s.on y=false∨y=aM aa (i:Int)) s s'∧(c=true→bT s'.b.ah b0.ad (aM aa (i:Int))=false∧ay s'.b (aM aa (i:Int))=false∧DD (valOf aa b0.ab) b0 (aM aa (i:Int)))
def RuR(aa:List aH) (H:Int→List ct) (b0:bZ) (f:Nat):Prop:=∀s (i n:Nat) s',gQ aa (valOf aa b0.ab) f s (aM aa (i:Int)) (dW (cx aa (aM aa (i:Int))) (valOf aa b0.ab) n).1 (dW (cx aa (aM aa (i:Int))) (valOf aa b0.ab) n).2=some s'→Good aa b0.ab s→s.e=0→Bi aa H s.AJ s.b→Wy aa b0 s→i<aa.length→n≤cL aa i→s.on (aM aa (i:Int))=true→UP aa s i→
 bT s.b.ah b0.ad (aM aa (i:Int))=false→ay s.b (aM aa (i:Int))=false→DD (valOf aa b0.ab) b0 (aM aa (i:Int))→(∀a∈(dW (cx aa (aM aa (i:Int))) (valOf aa b0.ab) n).1,eu s a=true)→
 Rs aa H b0 (fun y=>s.on y=false∨y=aM aa (i:Int)) s s'
theorem Bi.jz{s t:ES}(h:Bi aa H s.AJ t.b) (hk:iF s t):Bi aa H t.AJ t.b:=h.MB fun k a=>by grind [ES.AJ,iF.on]
theorem UP.jz{s t:ES}{i:Nat}(h:UP aa s i) (hk:iF s t):UP aa t i:=fun j a c=>h j a (by rw [← hk.on];exact c)
theorem Rs.mono{N N':Key→Prop}{s s':ES}(h:Rs aa H b0 N s s') (a:∀y,N y→N' y):Rs aa H b0 N' s s':=⟨h.e,h.bi,h.ev.mono (fun _ h=>h) a,h.wy⟩
theorem sF(rev:Int) (G:List Key) (r:Rec):(aX rev G false r).bq=r.bq:=by
 unfold aX
 grind
theorem yV(A:aq aa):∀f,UpR aa H b0 f∧ChR aa H b0 f∧RuR aa H b0 f:=by
 have Ho:=A.len;intro f
 induction f with
 | zero=>exact⟨fun s k s' h=>by simp [kW] at h,fun s i n s' c h=>by simp [cP] at h,fun s i n s' h=>by simp [gQ] at h⟩
 | succ f ih=>
  obtain⟨ihu,ihc,ihr⟩:=ih;have gd:=cz (val:=valOf aa b0.ab) (aD:=b0.ab) A f;have Z:=iz (val:=valOf aa b0.ab) (aD:=b0.ab) A f;have rn:=uJ (aa:=aa) (val:=valOf aa b0.ab) f;refine⟨?_,?_,?_⟩
  ·
   intro s k s' h C he g d hk IC
   unfold kW at h
   split at h
   ·
    cases h;exact .refl he g d
   rename_i he2
   have O:aw k=false:=by simp at he2;exact he2.2
   split at h
   ·
    cases h;exact .refl he g d
   rename_i hu
   obtain⟨i,hi,rfl,_⟩:=hk.gM O
   split at h
   ·
    rename_i ho
    split at h
    ·
     cases h;exact .refl he g d
    rename_i hc
    have h1:=IC i hi rfl i hi ho
    grind [bf,Lw,ny]
   rename_i ho
   have LF:s.on (aM aa (i:Int))=false:=by simpa using ho
   obtain⟨⟨s2,c2⟩,I,h⟩:=Option.bind_eq_some_iff.1 h;obtain⟨s3,ht,h⟩:=Option.bind_eq_some_iff.1 h;simp only [Option.some.injEq] at h;subst h;have QS:∀y,ES.on {s with busy:=cM s.busy (aM aa (i:Int)) (.bool true)} y=(decide (aM aa (i:Int)=y) || s.on y):=fun y=>nt s _ y;have GD:=C.on (aM aa (i:Int))
   generalize mu:({s with busy:=cM s.busy (aM aa (i:Int)) (.bool true)}:ES)=s1 at I QS GD
   have e1:s1.b=s.b:=by rw [← mu]
   have e2:s1.a8=s.a8:=by rw [← mu]
   have e3:s1.e=0:=by rw [← mu];exact he
   have VW:s1.on (aM aa (i:Int))=true:=by rw [QS];simp
   have hB1:Bi aa H s1.AJ s1.b:=by
    rw [e1];refine g.MB fun y hy=>?_
    unfold ES.AJ at hy ⊢
    grind
   have hW1:Wy aa b0 s1:=⟨by rw [e1];exact d.rev,by rw [e1];exact d.aD,by rw [e1,e2];exact d.ev,by rw [e1];exact d.LI,by rw [e2];exact d.a8,by rw [e1,e2];exact d.JL,by rw [e1,e2];exact d.mrk,by rw [e2];exact d.jP⟩
   have OQ:UP aa s1 i:=fun j u E=>by
    rw [QS] at E;simp only [Bool.or_eq_true,decide_eq_true_eq] at E
    rcases E with E | E
    ·
     exact .inl (eb A u hi E.symm)
    exact .inr (IC i hi rfl j u E)
   obtain⟨c1,c3⟩:=ihc s1 i 0 s2 c2 I GD e3 hB1 hW1 hi VW OQ fun _ j c u=>by omega
   obtain⟨k1,k2,_⟩:=Z.2.1 _ _ _ _ _ I GD;have UQ:=(gd.2.1 _ _ _ _ _ I GD).1
   have key:Rs aa H b0 (fun y=>s1.on y=false∨y=aM aa (i:Int)) s1 s3∧ay s3.b (aM aa (i:Int))=true:=by
    cases c2 with
    | false=>
     simp only [Bool.false_eq_true,if_false,Option.some.injEq] at ht;subst ht;exact⟨c1,(k2 c1.e).2 rfl⟩
    | true=>
     simp only [if_true] at ht;obtain⟨d1,d2,d3⟩:=c3 rfl
     have r2:=ihr s2 i 0 s3 ht UQ c1.e (c1.bi.jz k1) c1.wy hi (Nat.zero_le _) (by rw [k1.on];exact VW) (OQ.jz k1) d1 d2 d3 fun a w=>by simp [dW] at w
     refine⟨c1.trans (r2.mono fun y hy=>by rw [← k1.on];exact hy) (rn.2.2 _ _ _ _ _ ht) k1.on,?_⟩;exact((Z.2.2 _ _ _ _ _ ht UQ (hk.gM O)).2.1 r2.e).2
   obtain⟨r3,hu3⟩:=key;refine⟨r3.e,?_,?_,⟨r3.wy.rev,r3.wy.aD,r3.wy.ev,r3.wy.LI,r3.wy.a8,r3.wy.JL,r3.wy.mrk,r3.wy.jP⟩⟩
   ·
    refine r3.bi.off hu3 fun y hy=>?_
    unfold ES.AJ at hy ⊢
    grind
   have:=r3.ev
   rw [e1] at this;refine this.mono (fun _ h=>h) fun y hy=>?_
   grind
  ·
   intro s i n s' c h C he g d hi U P Q;have O:aw (aM aa (i:Int))=false:=di hi (by omega)
   unfold cP at h
   rw [if_neg (by simp [he])] at h
   split at h
   ·
    rename_i hc
    simp only [Option.some.injEq,Prod.mk.injEq] at h;obtain⟨rfl,rfl⟩:=h;refine⟨.refl he g d,fun _=>?_⟩
    cases o:aA s.b.ah (aM aa (i:Int)) with
    | none=>
     refine⟨?_,uI o,O,d.uH (uI o),.inl (d.none o)⟩;rw [Bool.eq_false_iff]
     grind [bE]
    | some r=>
     rw [o,aN o] at hc
     have B:r.bq=true:=by simpa using hc
     have V:=g.dv r (aI o).1 B;refine⟨?_,jj o V,O,d.uH (jj o V),.inr (d.LI _ r o B)⟩;rw [Bool.eq_false_iff]
     grind [bE]
   rename_i hc
   split at h
   ·
    simp only [Option.some.injEq,Prod.mk.injEq] at h;obtain⟨rfl,rfl⟩:=h;exact⟨.refl he g d,fun e=>by cases e⟩
   rename_i V
   have hl:Live s.b.ah s.b.ad (aM aa (i:Int)):=by
    cases o:aA s.b.ah (aM aa (i:Int)) with
    | none=>rw [o] at hc;simp at hc
    | some r=>
     rw [o,aN o] at hc;rw [aN o] at V;have h1:=(g.c.Er r (aI o).1).1;exact⟨r,o,by simpa using hc,by omega⟩
   have Q:=Q hl
   have VX:ay s.b (aM aa (i:Int))=false:=by
    obtain⟨r,h1,_,R⟩:=hl;exact jj h1 R
   split at h
   ·
    rename_i hn
    simp only [Option.some.injEq,Prod.mk.injEq] at h;obtain⟨rfl,rfl⟩:=h
    have I:∀m∈aB s.b.ah s.b.ad (aM aa (i:Int)),∀a∈(aC s.b.ah m).reads,a∉aB s.b.ah s.b.ad (aM aa (i:Int))→valOf aa (H (aC s.b.ah m).av) a=valOf aa s.b.ab a∧(aw a=true∨(s.AJ a=true∧az a=true)∨ay s.b a=true):=fun m hm a w W=>by
     have rE:(⟨m,a⟩:oa)∈bR s.b.ah (aB s.b.ah s.b.ad (aM aa (i:Int))):=dr.2 ⟨hm,w,W⟩;obtain⟨j,u⟩:=List.mem_iff_getElem?.1 rE;have h1:=(List.getElem?_eq_some_iff.1 u).1;have R:=List.getElem?_eq_none_iff.1 hn;have h3:=Q j ⟨m,a⟩ (by omega) u;rw [d.aD];exact⟨h3.1,h3.2.1.imp id (Or.imp (fun p=>⟨Et p,p.2⟩) id)⟩
    have yD:=d.OP hl fun m hm a w W=>by
     have rE:(⟨m,a⟩:oa)∈bR s.b.ah (aB s.b.ah s.b.ad (aM aa (i:Int))):=dr.2 ⟨hm,w,W⟩;obtain⟨j,u⟩:=List.mem_iff_getElem?.1 rE;have h1:=(List.getElem?_eq_some_iff.1 u).1;have R:=List.getElem?_eq_none_iff.1 hn;exact(Q j ⟨m,a⟩ (by omega) u).2.2
    have D:∀N:Key→Prop,N (aM aa (i:Int))→iV (valOf aa b0.ab) N s.a8 b0.ad s.b.ah (cI s.b (aB s.b.ah s.b.ad (aM aa (i:Int))) false).ah:=fun N hN=>by
     rw [← d.rev];exact iV.mark hl false (.inr hN)
    refine⟨⟨he,g.mark A hl I,D _ (.inr rfl),d.step rfl rfl (D _ trivial) (fun _ h=>h) (fun y r' o B=>?_) d.a8 (fun _ h=>.inl h) (fun y hu Eu=>.inr (yD y (GB hu Eu))) d.jP⟩,fun e=>by cases e⟩;have J:(aA s.b.ah y).map (aX s.b.ad (aB s.b.ah s.b.ad (aM aa (i:Int))) false)=some r':=bV.symm.trans o;obtain⟨r,hr,rfl⟩:=Option.map_eq_some_iff.1 J;rw [sF] at B;exact d.LI y r hr B
   rename_i c0 hc0
   obtain⟨hm,w,W⟩:=dr.1 (List.mem_of_getElem? hc0);obtain⟨j,u,ej⟩:=g.key (jZ hl hm);obtain⟨rm,g1,g2,g3⟩:=jZ hl hm;have K:ep aa c0.read:=fR C hc0
   split at h
   ·
    obtain⟨t,ht,h⟩:=Option.bind_eq_some_iff.1 h
    have B0:=oh A (aD:=H rm.av) u (a:=c0.read) (by
     have h1:=(g.c.vr rm (aI g1).1).2;rw [(aI g1).2,ej,fF A u] at h1
     grind [aN])
    have r1:=ihu s c0.read t ht C he g d K fun q hq eq p I hpo=>by
     obtain⟨F,h5⟩:=B0.2 q hq eq;obtain⟨g4,g5⟩:=GC A g hi u hl (ej ▸ hm)
     rcases P p I hpo with rfl | h6
     ·
      rw [← g4];exact F
     exact h5 _ (g5 _ h6)
    obtain⟨k1,_,_⟩:=Z.1 _ _ _ ht C K;have gt:=(gd.1 _ _ _ ht C K).1;have e1:t.b.ad=s.b.ad:=r1.wy.rev.trans d.rev.symm
    have D:iV (valOf aa b0.ab) (fun y=>s.on y=false) t.a8 s.b.ad s.b.ah t.b.ah:=by
     rw [d.rev];exact r1.ev
    obtain⟨r2,r3⟩:=ihc t i n s' c h gt r1.e (r1.bi.jz k1) r1.wy hi (by rw [k1.on];exact U) (P.jz k1) fun G X Y hjn M=>by
     rw [e1] at G M;rw [D.JK G] at M;obtain⟨p1,p2,p3⟩:=Q X Y hjn M;have hm':=(dr.1 (List.mem_of_getElem? M)).1
     have e3:aC t.b.ah Y.dC=aC s.b.ah Y.dC:=by
      unfold aC
      rw [(D.group G).2 _ hm']
     rw [e3];refine⟨p1,?_,p3⟩
     rcases p2 with p | p | p
     ·
      exact .inl p
     ·
      grind [iF.on]
     exact .inr (.inr (k1.up _ p))
    exact⟨(r1.mono fun y hy=>.inl hy).trans (r2.mono fun y hy=>by rw [← k1.on];exact hy) (rn.2.1 _ _ _ _ _ h) k1.on,r3⟩
   rename_i Mr
   have QT:=qh (s:=s) (k:=c0.read) (by simpa using Mr)
   split at h
   ·
    rename_i G
    have JN:=d.QR g hl hm w W G;have Ew:DD (valOf aa b0.ab) b0 (aM aa (i:Int)):=⟨O,d.uH VX,.inr (.inr (JN _ fx))⟩;simp only [Option.some.injEq,Prod.mk.injEq] at h;obtain⟨h,rfl⟩:=h
    cases JO:az (aM aa (i:Int)) with
    | false=>
     rw [JO] at h;simp only [Bool.false_eq_true,if_false] at h;subst h;refine⟨.refl he g d,fun _=>⟨?_,VX,Ew⟩⟩;rw [Bool.eq_false_iff]
     grind [bE]
    | true=>
     rw [JO] at h;simp only [if_true] at h;subst h
     have D:∀N:Key→Prop,iV (valOf aa b0.ab) N s.a8 b0.ad s.b.ah (cI s.b (aB s.b.ah s.b.ad (aM aa (i:Int))) true).ah:=fun N=>by
      rw [← d.rev];exact iV.mark hl true (.inl JO)
     obtain⟨r,f1,f2,f3⟩:=hl
     have hfk:aA (cI s.b (aB s.b.ah s.b.ad (aM aa (i:Int))) true).ah (aM aa (i:Int))=some {r with bq:=true}:=by
      refine bV.trans ?_;rw [f1]
      show some (aX _ _ _ r)=_
      unfold aX
      rw [if_pos (by rw [(aI f1).2];exact fx)]
      rfl
     refine⟨⟨he,g.bq fun m hm=>jZ ⟨r,f1,f2,f3⟩ hm,D _,d.step rfl rfl (D _) (fun _ h=>h) (fun y r' o B=>?_) d.a8 (fun _ h=>.inl h) (fun y hu Eu=>by grind [lL]) d.jP⟩,fun _=>⟨?_,jj hfk f3,Ew⟩⟩
     ·
      have J:(aA s.b.ah y).map (aX s.b.ad (aB s.b.ah s.b.ad (aM aa (i:Int))) true)=some r':=bV.symm.trans o;obtain⟨q,hq,rfl⟩:=Option.map_eq_some_iff.1 J
      by_cases hy:y∈aB s.b.ah s.b.ad (aM aa (i:Int))
      ·
       exact .inr (JN y hy)
      unfold aX at B
      rw [if_neg (by rw [(aI hq).2];exact hy)] at B;exact d.LI y q hq B
     rw [Bool.eq_false_iff]
     grind [bE]
   rename_i hle
   refine ihc s i (n+1) s' c h C he g d hi U P fun _ X Y hjn M=>?_
   rcases Nat.lt_or_ge X n with G | ID
   ·
    exact Q X Y G M
   have:X=n:=by omega
   subst this;rw [hc0] at M
   have:=Option.some.inj M
   subst this;refine⟨?_,QT,by rw [← d.changed g c0.read];exact Int.not_lt.1 hle⟩;rw [aN g1] at hle w ⊢;have h1:=g.c.changed (aI g1).1 g3 w (by rw [d.aD];omega)
   grind [Wy.aD]
  intro s i n s' h C he g d hi hn U P VY wG Ew Mr
  have jr:i≤99:=by omega
  unfold gQ at h
  rw [if_neg (by simp [he]),dX hi jr] at h
  rcases Nat.lt_or_ge n (cL aa i) with G | ID
  ·
   obtain⟨a,h1,R,h3⟩:=Gv A hi (ae:=(dW (cx aa (aM aa (i:Int))) (valOf aa b0.ab) n).2) (by grind [gC]);rw [h1] at h;simp only [Bool.false_eq_true,if_false] at h;obtain⟨t,ht,h⟩:=Option.bind_eq_some_iff.1 h;have K:=R.Jt A
   have r1:=ihu s a t ht C he g d K fun m hm ham j u E=>by
    obtain⟨F,h5⟩:=h3 m hm ham
    rcases P j u E with rfl | h6
    ·
     exact F
    exact h5 _ h6
   obtain⟨k1,k2,_⟩:=Z.1 _ _ _ ht C K;have gt:=(gd.1 _ _ _ ht C K).1
   have IE:eu t a=true:=by grind [Rs.e,JM]
   have QU:bS (valOf aa b0.ab) t.b a=valOf aa b0.ab a:=by
    rw [← r1.wy.aD];refine r1.bi.answer K ?_
    rcases qh IE with F | F | F
    ·
     exact .inl F
    ·
     exact .inr (.inl F.2)
    exact .inr (.inr F)
   rw [if_pos r1.e,QU] at h
   have uK:aA t.b.ah (aM aa (i:Int))=aA s.b.ah (aM aa (i:Int)):=by
    rcases r1.ev.pt (aM aa (i:Int)) with e | ⟨e0,r,e1,e2,e3,_⟩ | ⟨⟨_,e0⟩,_⟩
    ·
     exact e
    ·
     grind [bE]
    grind
   have r2:=ihr t i (n+1) s' (by grind [dW]) gt r1.e (r1.bi.jz k1) r1.wy hi G (by rw [k1.on];exact U) (P.jz k1) (by grind [bT,aC]) (by
    rw [← wG]
    unfold ay aC
    rw [uK,r1.wy.rev,d.rev]) Ew (fun x T=>by
    simp only [dW] at T;rw [h1] at T
    rcases List.mem_append.1 T with T | T
    ·
     exact k1.there (Mr x T)
    grind)
   exact(r1.mono fun y hy=>.inl hy).trans (r2.mono fun y hy=>by rw [← k1.on];exact hy) (rn.2.2 _ _ _ _ _ h) k1.on
  have Bb:n=cL aa i:=by omega
  subst Bb;rw [fE A hi] at h;simp only [if_true] at h;rw [if_neg (by have:=g.len;simp;omega)] at h;simp only [Option.some.injEq] at h;subst h;have VZ:∀a∈cH aa b0.ab i,aw a=true∨(s.on a=true∧az a=true)∨ay s.b a=true:=fun a w=>qh (Mr a w);have OS:=g.put A hi (fun hc=>Et ⟨U,hc⟩) (by rw [d.aD];exact fun a w=>(VZ a w).imp id (Or.imp (fun p=>⟨Et p,p.2⟩) id));rw [d.aD] at OS
  have D:∀N:Key→Prop,N (aM aa (i:Int))→iV (valOf aa b0.ab) N (s.a8++[aM aa (i:Int)]) b0.ad s.b.ah (dK s.b.ah (bs s.b (aM aa (i:Int)) (valOf aa b0.ab (aM aa (i:Int))) (cH aa b0.ab i))):=fun N hN=>by
   refine iV.put VY (fun r hr=>?_) ⟨by simp [bs],hN⟩ d.rev rfl rfl (fun r hr=>?_) fun hn=>?_
   ·
    have h1:=(g.c.Er r (aI hr).1).1
    have R:r.av≠s.b.ad:=fun e=>by
     have:ay s.b (aM aa (i:Int))=true:=aL.2 ⟨r,hr,e⟩
     grind
    have:=d.rev
    omega
   ·
    have MD:aA s.b.ah (aM aa (i:Int))=some r:=hr
    unfold bs
    simp only [MD,aN MD,d.rev]
    grind
   grind [bs,Wy.rev]
  refine⟨he,by show Bi aa H s.AJ ⟨s.b.ad,s.b.ab,_⟩;rw [d.aD];exact OS,D _ (.inr rfl),d.step rfl rfl (D _ trivial) (fun y hy=>by simp [hy]) (fun y r o B=>?_) (fun y hy=>?_) (fun y hy=>?_) (fun y hu Eu=>?_) (xR d.jP fun hr=>by have:=d.JL _ hr;rw [wG] at this;cases this)⟩
  ·
   have J:aA (dK s.b.ah (bs s.b (aM aa (i:Int)) (valOf aa b0.ab (aM aa (i:Int))) (cH aa b0.ab i))) y=some r:=o;rw [ck] at J
   split at J
   ·
    have:=Option.some.inj J
    subst this
    cases B
   exact d.LI y r J B
  ·
   rcases List.mem_append.1 hy with hy | hy
   ·
    exact d.a8 y hy
   grind
  ·
   rcases List.mem_append.1 hy with hy | hy
   ·
    exact .inl hy
   rw [List.mem_singleton] at hy;rw [hy];exact .inr (jh (r:=bs s.b (aM aa (i:Int)) (valOf aa b0.ab (aM aa (i:Int))) (cH aa b0.ab i)) rfl)
  refine .inl ?_
  by_cases e:y=aM aa (i:Int)
  ·
   rw [e]
   simp
  obtain⟨r,hr,V⟩:=aL.1 Eu;have MD:aA (dK s.b.ah (bs s.b (aM aa (i:Int)) (valOf aa b0.ab (aM aa (i:Int))) (cH aa b0.ab i))) y=some r:=hr;rw [ck,if_neg (show ¬y=(bs s.b (aM aa (i:Int)) (valOf aa b0.ab (aM aa (i:Int))) (cH aa b0.ab i)).key from e)] at MD
  grind [aL]
theorem GF{val:Key→ByteArray}{f:Nat}:∀{l:List Key}{s s':ES},dM aa val f s l=some s'→∀y∈s.a8,y∈s'.a8
 | [],s,s',h,y,hy=>by grind [dM]
 | k::r,s,s',h,y,hy=>by
  simp only [dM] at h;obtain⟨t,h1,a⟩:=Option.bind_eq_some_iff.1 h;exact GF a y ((uJ f).1 _ _ _ h1 y hy)
theorem xS(g:aq aa) {f:Nat}:∀{l:List Key}{s s':ES},dM aa (valOf aa b0.ab) f s l=some s'→Good aa b0.ab s→s.e=0→Bi aa H s.AJ s.b→Wy aa b0 s→(∀k∈l,ep aa k)→(∀k,s.on k=false)→Rs aa H b0 (fun _=>True) s s'∧(∀k,s'.on k=false)∧(∀k,ay s.b k=true→ay s'.b k=true)∧∀k∈l,aw k=false→ay s'.b k=true
 | [],s,s',h,m,he,p,u,_,c=>by
  simp only [dM,Option.some.injEq] at h;subst h;exact⟨.refl he p u,c,fun _ h=>h,fun k hk=>by cases hk⟩
 | k::r,s,s',h,m,he,p,u,hk,c=>by
  simp only [dM] at h;obtain⟨t,h1,C⟩:=Option.bind_eq_some_iff.1 h;have w:=hk k (by simp);have F:=((cz (val:=valOf aa b0.ab) g f).1 _ _ _ h1 m w).1;obtain⟨d,kt,_⟩:=(iz (val:=valOf aa b0.ab) g f).1 _ _ _ h1 m w
  have r1:=(yV (H:=H) (b0:=b0) g f).1 s k t h1 m he p u w fun i _ _ j _ D=>by rw [c] at D;cases D
  obtain⟨r2,G,E,g2⟩:=xS g C F r1.e (r1.bi.jz d) r1.wy (fun k I=>hk k (by simp [I])) fun k=>by rw [d.on];exact c k
  have J:=GF C;refine⟨(r1.mono fun _ _=>trivial).trans r2 J d.on,G,fun y hy=>E y (d.up y hy),fun q A B=>?_⟩
  rcases List.mem_cons.1 A with rfl | A
  ·
   refine E _ ?_
   rcases(kt r1.e).2 with o | o
   ·
    rw [B] at o
    cases o
   rcases qh o with a | a | a
   ·
    rw [B] at a
    cases a
   ·
    rw [d.on,c] at a
    cases a.1
   exact a
  exact g2 q A B
end
end Go.Rc

namespace Go.Rc
open Go
def Bh(aa:List aH) (b:bZ):Prop:=∃H:Int→List ct,Bi aa H (fun _=>false) b
section
variable {aa:List aH}{H:Int→List ct}{on:Key→Bool}{x y b:bZ}{k:Key}
theorem Bh.new(aa:List aH) (rev:Int) (aD:List ct):Bh aa ⟨rev,aD,[]⟩:=
 ⟨fun _=>aD,⟨⟨rfl,fun _ _ _ _ _=>rfl,fun r hr=>(by cases hr),fun r hr=>(by cases hr),fun r hr=>(by cases hr),fun r hr=>(by cases hr)⟩,List.Pairwise.nil,fun r hr=>(by cases hr),fun r hr=>(by cases hr)⟩⟩
theorem Bi.drop(h:Bi aa H on b) {rs:List Rec}(d:rs.Sublist b.ah) (o:∀r∈rs,on r.key=false):Bi aa H (fun _=>false) {b with ah:=rs}:=by
 have j:pf rs:=h.st.sublist d
 have g:∀a ra,aA rs a=some ra→aA b.ah a=some ra:=fun a ra e=>by
  obtain⟨h1,i⟩:=aI e
  grind [fU,st]
 refine⟨⟨h.c.now,h.c.eK,fun r hr=>h.c.Er r (d.subset hr),fun r hr=>h.c.vr r (d.subset hr),fun r hr a f hi ra e=>?_,fun r hr hc a f hi ra e=>?_⟩,j,fun r hr=>h.kr r (d.subset hr),fun r hr=>h.dv r (d.subset hr)⟩
 ·
  rcases h.c.rr r (d.subset hr) a f hi ra (g a ra e) with⟨_,h1⟩ | h1
  ·
   obtain⟨i,m⟩:=aI e
   grind
  exact .inr h1
 rcases h.c.rs r (d.subset hr) hc a f hi ra (g a ra e) with⟨_,h1⟩ | h1
 ·
  obtain⟨i,m⟩:=aI e
  grind
 exact .inr h1
theorem Bh.drop(h:Bh aa b) {rs:List Rec}(a:rs.Sublist b.ah):Bh aa {b with ah:=rs}:=by
 obtain⟨H,h⟩:=h;exact⟨H,h.drop a fun _ _=>rfl⟩
theorem Bh.apply(h:Bh aa x) (hr:y.ah=x.ah) (m:y.ad=x.ad+1) (hk:∀k,bA y.ab k=bA x.ab k∨(bA y.ab k).changed=y.ad):Bh aa y:=by
 obtain⟨H,h⟩:=h;have hH:∀t,t≤x.ad→(if t≤x.ad then H t else y.ab)=H t:=fun t ht=>if_pos ht;refine⟨fun t=>if t≤x.ad then H t else y.ab,⟨⟨?_,fun k t hi h1 f=>?_,fun r d=>?_,fun r d=>?_,fun r d a i hi ra g=>?_,fun r d hc a i hi ra g=>?_⟩,by rw [hr];exact h.st,by rw [hr];exact h.kr,fun r d j=>?_⟩⟩
 ·
  grind
 ·
  by_cases ht:t≤x.ad
  ·
   show cellOf (if t≤x.ad then H t else y.ab) k=_
   rw [if_pos ht]
   rcases hk k with e | e
   ·
    rw [e] at h1;rw [h.c.eK k t hi h1 ht]
    unfold cellOf
    rw [e]
   omega
  grind
 ·
  rw [hr] at d
  have:=h.c.Er r d
  omega
 ·
  rw [hr] at d;have h1:=h.c.Er r d;rw [hH _ h1.1];exact h.c.vr r d
 ·
  rw [hr] at d g;have h1:=h.c.Er r d;rw [hH _ h1.1]
  rcases h.c.rr r d a i hi ra g with⟨_,f⟩ | f
  ·
   cases f
  exact .inr f
 ·
  rw [hr] at d g
  rcases h.c.rs r d hc a i hi ra g with⟨_,f⟩ | f
  ·
   cases f
  exact .inr f
 rw [hr] at d
 have:=h.dv r d j
 omega
theorem Wy.start(b:bZ):Wy aa b ⟨b,[],[],0⟩:=⟨rfl,rfl,.refl _,fun y r c d=>.inl (by rw [aN c];exact d),fun y hy=>(by cases hy),fun y hy=>(by cases hy),fun y h1 a=>(by rw [h1] at a;cases a),List.nodup_nil⟩
theorem Bh.request(d:aq aa) (h:Bh aa b) {f:Nat}{l:List Key}{s':ES}(g:Good aa b.ab ⟨b,[],[],0⟩) (hk:∀k∈l,ep aa k) (i:dM aa (valOf aa b.ab) f ⟨b,[],[],0⟩ l=some s') :
  s'.e=0∧Bh aa s'.b∧Wy aa b s'∧(∀k,ay b k=true→ay s'.b k=true)∧(∀k∈l,aw k=false→ay s'.b k=true)∧∀r∈s'.b.ah,r.av=s'.b.ad→r.value=valOf aa b.ab r.key:=by
 obtain⟨H,h⟩:=h;have j:Wy aa b ⟨b,[],[],0⟩:=Wy.start b
 obtain⟨h1,u,m,o⟩:=xS (H:=H) (b0:=b) d i g rfl (h.MB fun k hk=>by cases hk) j hk fun k=>rfl
 have a:Bi aa H (fun _=>false) s'.b:=h1.bi.MB fun k hk=>by grind [ES.AJ,ES.on,bF]
 refine⟨h1.e,⟨H,a⟩,h1.wy,m,o,fun r hr p=>?_⟩;rw [(a.c.vr r hr).1,p,a.c.now,h1.wy.aD]
end
end Go.Rc

