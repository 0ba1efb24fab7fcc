/- Base of the proof: frames, memory, ownership, and the plain meaning of rule systems. Conditions: as each lemma says. -/
import Derived.Test.YtmpkegmkoclbhaaGreatDoorMBf
import Derived.Test.YtmpkegmkoclbhaaGreatDoorMBd
set_option linter.all false
namespace Go.Rc
open Go
theorem St.uF{w w':World}{Z:Nat→Prop}{l:List As}{A B:As}(h:St w (mR [B]) Z w' (B::A::l)):∀x,A.fp x→w.heap.size≤x:=fun x a=>by
 rcases h.mQ A (by simp) x a with⟨C,c,hc⟩ | h1
 ·
  rw [List.mem_singleton] at c;subst c;exact absurd a ((List.pairwise_cons.1 h.ry).1 A (by simp) x hc)
 exact h1
theorem lZ.Ix{aa:List aG}{k:Key}(a:aq aa) (h:lZ aa k):dX aa k:=by
 have c:=a.len
 rcases h with⟨n,h0,d,rfl⟩ | ⟨i,hi,rfl⟩
 ·
  obtain⟨m,rfl⟩:∃m:Nat,n=m:=⟨n.toNat,by omega⟩;exact .cell (by omega)
 exact .eX hi (by omega)
theorem lZ.right{aa:List aG}{k:Key}(a:aq aa) (h:lZ aa k):iN aa k=true:=by
 have hk:=h.Ix a
 rcases h with⟨n,h0,c,rfl⟩ | ⟨i,hi,rfl⟩
 ·
  unfold iN
  rw [dX.valid hk]
  unfold bZ
  rw [if_neg (by omega)]
  simp
 exact Hu a hi
structure LB (aa:List aG) (x:cm):Prop where
 ok:BK aa x.ab x.ad x
 aC:jA x.ad x.ab
section
variable {aa:List aG}{x:cm}
theorem LB.apply(h:LB aa x) {y:cm}(hr:y.ah=x.ah) (h0:x.ad≤y.ad) (h1:y.ad≤1073741824) (c:jA y.ad y.ab) (d:y.ab.length≤64):LB aa y:=by
 have f:=h.ok.fH;have a:=h.ok.tO;have e:0≤y.ad:=Int.le_trans a.r0 h0;have hb:=c.jz e h1 d;exact⟨⟨⟨rfl,by show y.ah.length≤_;rw [hr];exact f.len,by grind [Good.key],by grind [Good.AK],.nil,fun k=>.inl rfl⟩,⟨by show pT y.ah;rw [hr];exact a.st,by show ∀r∈y.ah,_;rw [hr];exact fun r hm=>⟨(a.v r hm).1,Int.le_trans (a.v r hm).2 h0⟩,e,h1⟩,rfl,hb.1,d⟩,c⟩
theorem LB.sub(h:LB aa x) {rs:List Rec}(a:rs.Sublist x.ah):LB aa ⟨x.ad,x.ab,rs⟩:=⟨h.ok.sub a,h.aC⟩
theorem LB.of(h:LB aa x) {b:cm}(hb:BK aa x.ab x.ad b):LB aa b:=by
 have h1:b.ab=x.ab:=hb.fH.aC;have a:b.ad=x.ad:=hb.rv;refine⟨?_,?_⟩
 ·
  rw [h1,a];exact hb
 rw [h1,a];exact h.aC
theorem LB.task(h:LB aa x) {b:cm}(hb:BK aa x.ab x.ad b) {rs:List Rec}(a:rs.Sublist b.ah):LB aa ⟨b.ad,b.ab,rs⟩:=(h.of hb).sub a
theorem LB.req(a:aq aa) (h:LB aa x) {goals:List Key}(e:∀k∈goals,lZ aa k) (g:goals.length≤32):∃(f:Nat) (s':ES),gI aa x goals=0∧Good aa x.ab ⟨x,[],[],0⟩∧(∀k∈goals,dX aa k)∧dK aa (valOf aa x.ab) f ⟨x,[],[],0⟩ goals=some s'∧s'.bj.length≤1000000∧LB aa (s'.base x)∧(s'.base x).ad=x.ad:=by
 have i:=a.len;have c:=h.ok.fH;have hk:∀k∈goals,dX aa k:=fun k hm=>(e k hm).Ix a;obtain⟨f,s',hu⟩:=uD (val:=valOf aa x.ab) a goals ⟨x,[],[],0⟩ c hk;have h1:=pr a hu c hk;have d:=BP a hu c h.ok.tO hk;have j:=xO a hu c hk;have m:gC aa ⟨x,[],[],0⟩≤aa.length:=OI _ _;refine⟨f,s',?_,c,hk,hu,?_,?_,?_⟩
 ·
  unfold gI
  rw [if_neg (fun h=>h a),if_neg (fun hn=>hn h.ok.jz),if_neg (by omega),if_pos (List.all_eq_true.2 fun k hm=>(e k hm).right a)]
 ·
  grind
 ·
  unfold ES.base
  split
  ·
   refine h.of ⟨⟨h1.1.aC,h1.1.len,h1.1.key,h1.1.AK,.nil,fun k=>.inl rfl⟩,⟨d.st,d.v,d.r0,d.r1⟩,h1.2.rev,h.ok.xS,h.ok.nB⟩
  exact h
 unfold ES.base
 split
 ·
  exact h1.2.rev
 rfl
theorem LB.start(h:LB aa x) {goals:List Key}(hk:∀k∈goals,dX aa k) (a:goals.length≤32):TR aa x.ab x.ad 0 ⟨aa,x,goals,[],[]⟩:=
 ⟨⟨rfl,h.ok,hk,fun f c=>(by cases c),fun k hk=>(by cases hk)⟩,Nat.le_refl _,Nat.le_refl _,a⟩
theorem LB.nil{aa:List aG}(y:cm) (hr:y.ah=[]) (h0:0≤y.ad) (h1:y.ad≤1073741824) (a:jA y.ad y.ab) (c:y.ab.length≤64):LB aa y:=by
 have hb:=a.jz h0 h1 c;exact⟨⟨⟨rfl,by grind,by grind,by grind,.nil,fun k=>.inl rfl⟩,⟨by show pT y.ah;rw [hr];exact .nil,by grind,h0,h1⟩,rfl,hb.1,c⟩,a⟩
end
end Go.Rc

namespace Go.Rc
open Go
def wF(l:List Key):Prop:=l.Pairwise fun a b=>bC a b<0
theorem yV{l l':List Key}(c:l'.Perm l) (hn:l.Nodup) (d:l'.Pairwise fun a b=>¬bC b a<0):wF l':=by
 have e:l'.Pairwise fun a b=>a≠b:=c.nodup_iff.2 hn
 refine(d.and e).imp fun {a b} h=>?_
 grind [jh,l9]
section
variable {aa:List aG}{aC:List cv}{k:Key}
theorem nC{l:List Key}{q:Nat}{y z:Key}(hy:l[q]?=some y) (a:z∈l.take (q+1)):z∈l.take q∨z=y:=by grind [List.take_succ_eq_append_getElem]
def lL(l:List Key):List (Key × Value):=l.map fun x=>(x,.bool true)
theorem BZ(l:List Key) (y:Key):(bD (lL l) y).getD (.bool false)=.bool (decide (y∈l)):=by
 unfold lL
 induction l with
 | nil=>simp [bD]
 | cons x r a=>
  simp only [List.map_cons,bD]
  grind
theorem B0(l:List Key) {y:Key}(h:y∉l):cL (lL l) y (.bool true)=lL (l++[y]):=by
 unfold lL
 induction l with
 | nil=>rfl
 | cons x r a=>
  rw [List.mem_cons,not_or] at h;simp only [List.map_cons,List.cons_append,cL];rw [if_neg (Ne.symm h.1),a h.2]
end
end Go.Rc

namespace Go.Rc
open Go
structure LR {α:Type}(A:Nat→Prop) (w:World) (k:Nat) (R:α→List Value→Prop) (a:Option Addr) (n:Nat) (xs:List α):Prop where
 len:n=xs.length
 le:n≤140737488355328
 at_:∀{i:Nat}{x:α},xs[i]?=some x→∃b o r,a=some ⟨b,o,none⟩∧r.length=k∧R x r∧w.rangeAt b (o+i*k) r∧A b∧b<w.heap.size
theorem SR.Ql{α:Type}{w:World}{k b E:Nat}{R:α→List Value→Prop}{xs:List α}{rows:List (List Value)}(h:bT w b E rows.flatten) (hl:xs.length=rows.length) (hk:∀r∈rows,r.length=k) (h1:∀u∈rows.flatten,u.oneCell'=true)
  (hle:rows.length≤140737488355328) (a:∀(i:Nat) (x:α) (r:List Value),xs[i]?=some x→rows[i]?=some r→R x r):SR (fun _=>True) w k R (some ⟨b,0,none⟩) rows.length rows.length xs:=by
 have hlen:rows.flatten.length=rows.length*k:=by
  clear h hl h1 hle a
  induction rows with
  | nil=>simp
  | cons r t d=>grind
 have c:=OL.blk (base:=0) (k:=k) h (Nat.zero_le _) hlen h1 hle;exact⟨hl.symm,rows,hl.symm,hk,c.sl (A:=fun _=>True) (fun _ _=>trivial) hle,a⟩
end Go.Rc

namespace Go.Rc
open Go
theorem LB.JE{aa:List aG}{x:cm}(h:LB aa x):uB aa x:=
 ⟨h.ok.tO.r0,h.ok.tO.r1,⟨h.aC.1,h.aC.2.1⟩,h.aC.k99,h.ok.nB,fun r hr=>⟨h.ok.fH.key r hr,((fm _).1 (h.ok.tO.v r hr).1).2.2.1,(h.ok.fH.AK r hr).2,(h.ok.tO.v r hr).1⟩,h.ok.tO.st,h.ok.fH.len,fun r hr=>(h.ok.tO.v r hr).2⟩
theorem LB.small{aa:List aG}{x:cm}(a:aq aa) (h:LB aa x):∀k,(valOf aa x.ab k).size≤1000:=Ej a fun y hy=>(h.aC.2.2 y hy).2
theorem OR.QU{α:Type}{R:α→List Value→Prop}{base b E k:Nat}{w:World}{x y:α}{r s:List Value}(h:bT w b E (r++s)) (hb:base≤b) (hr:r.length=k) (a:s.length=k) (h1:∀u∈r++s,u.oneCell'=true) (c:R x r) (hy:R y s):OR base w E k R (some ⟨b,0,none⟩) 2 2 [x,y]:=
 ⟨rfl,[r,s],rfl,by simp [hr,a],by grind [OL.blk],BQ c hy⟩
def JF:Ask:=⟨false,false,0,0⟩
end Go.Rc

namespace Go.Rc
open Go
section
variable {aa:List aG}{aC:List cv}
noncomputable def tu(aa:List aG) (aC:List cv) (i q:Nat):List ByteArray:=(dT (cx aa (aL aa (i:Int))) (valOf aa aC) q).2
noncomputable def ko(aa:List aG) (aC:List cv) (i q:Nat):Key:=(cx aa (aL aa (i:Int)) (tu aa aC i q)).ask
theorem nD(i q:Nat):(tu aa aC i q).length=q:=(gA _ _ _).2
theorem Hx(i q:Nat):tu aa aC i (q+1)=tu aa aC i q++[valOf aa aC (ko aa aC i q)]:=rfl
theorem fI{i q:Nat}(a:q<cJ aa i):(cG aa aC i)[q]?=some (ko aa aC i q):=by
 unfold cG ko tu
 generalize cJ aa i=n at a ⊢
 induction n with
 | zero=>omega
 | succ n c=>
  have hl:=(gA (cx aa (aL aa (i:Int))) (valOf aa aC) n).1;simp only [dT]
  grind
theorem Gw(a:aq aa) {i q:Nat}(hi:i<aa.length) (c:q<cJ aa i):cx aa (aL aa (i:Int)) (tu aa aC i q)=⟨false,⟨#[]⟩,ko aa aC i q⟩:=by grind [ek,nD,ko]
theorem Gx(a:aq aa) {i:Nat}(hi:i<aa.length):cx aa (aL aa (i:Int)) (tu aa aC i (cJ aa i))=⟨true,valOf aa aC (aL aa (i:Int)),eR⟩:=fF a hi
theorem B1(a:aq aa) {i q:Nat}(hi:i<aa.length) (c:q<cJ aa i):dX aa (ko aa aC i q):=
 (px a hi _ (List.mem_of_getElem? (fI (aC:=aC) c))).Ix a
theorem Hy(a:aq aa) {i:Nat}(hi:i<aa.length) (hr:aF aa i=true):cD (valOf aa aC (aL aa (i:Int)))=rv aa aC i:=by grind [gY,iv,fc,sD]
end
end Go.Rc

namespace Go.Rc
open Go
section
variable {aa:List aG}{aC:List cv}{k:Key}{L:List Key}
theorem yW{x:Key}(h:ay x=true):kh aa aC x=[]:=if_pos h
end
end Go.Rc

namespace Go.Rc
open Go
section
variable {aa:List aG}{aC:List cv}
theorem cU.trans{i j k:Nat}(h:cU aa i j) (a:cU aa j k):cU aa i k:=by
 induction a with
 | refl=>exact h
 | step _ c d=>exact .step d c
variable {lo n q v:Nat}{S:List Int}{r:aG}
end
end Go.Rc

namespace Go.Rc
open Go
section
variable {aa:List aG}{aC mO:List cv}
end
end Go.Rc
namespace Go.Rc
open Go
end Go.Rc

namespace Go.Rc
open Go
section
variable {aa:List aG}{aC mO:List cv}
theorem uG(c:aq aa) {i:Nat}(hi:i<aa.length) (h:∀a∈cG aa aC i,valOf aa aC a=valOf aa mO a):cG aa mO i=cG aa aC i∧valOf aa mO (aL aa (i:Int))=valOf aa aC (aL aa (i:Int)):=by
 have e:dT (cx aa (aL aa (i:Int))) (valOf aa aC) (cJ aa i)=dT (cx aa (aL aa (i:Int))) (valOf aa mO) (cJ aa i):=uq _ fun m hm=>h _ (List.mem_of_getElem? (fI hm))
 refine⟨?_,?_⟩
 ·
  unfold cG
  rw [e]
 have h1:=fF (aC:=aC) c hi;have d:=fF (aC:=mO) c hi
 grind
theorem sG(a:aq aa) {G:Nat→Prop}(c:∀j,G j→j<aa.length∧aF aa j=true) (h:∀j,G j→∀r x,aa[j]?=some r→x∈r.asks→(∀m,G m→bQ aa x≠aL aa (m:Int))→valOf aa aC (bQ aa x)=valOf aa mO (bQ aa x)) {j:Nat}(p:G j) (b:Nat) (hb:(rv aa aC j).testBit b=true):(rv aa mO j).testBit b=true:=by
 obtain⟨g,i⟩:=c j p;obtain⟨n,hn,u⟩:=(eA a g i b).1 hb
 have key:∀n,cU aa j n→(G n∧cU aa j n)∨∃(m:Nat) (x:Ask) (r:aG) (q:Nat),G m∧cU aa j m∧aa[m]?=some r∧x∈r.asks∧bQ aa x=aL aa (q:Int)∧¬G q∧fP aa m q∧cU aa q n:=by
  intro n hn
  induction hn with
  | refl=>exact .inl ⟨p,.refl⟩
  | @step m q hm d C=>
   rcases C with⟨g1,g2⟩ | ⟨m2,x,r,D,g1,g2,g3,g4,g5,g6,g7,g8⟩
   ·
    by_cases w:G q
    ·
     exact .inl ⟨w,.step g2 d⟩
    obtain⟨x,f,_,hk⟩:=pn (c m g1).1 d;exact .inr ⟨m,x,_,q,g1,g2,ak (c m g1).1,f,hk,w,d,.refl⟩
   exact .inr ⟨m2,x,r,D,g1,g2,g3,g4,g5,g6,g7,.step g8 d⟩
 rcases key n hn with⟨g1,g2⟩ | ⟨m,x,r,q,g1,g2,g3,g4,g5,g6,g7,g8⟩
 ·
  obtain⟨o,K⟩:=c n g1;refine(eA a g i b).2 ⟨n,g2,?_⟩
  rcases(fe o b).1 u with h1 | ⟨x,f,E,h1⟩
  ·
   grind [fe]
  refine(fe o b).2 (.inr ⟨x,f,E,?_⟩);rw [← h n g1 _ x (ak o) f fun m hm e=>?_]
  ·
   exact h1
  grind [jd,bd,aq.len]
 have A:=g7.lt.2.1;have B:=g7.lt.2.2.2;have h1:(rv aa aC q).testBit b=true:=(eA a A B b).2 ⟨n,g8,u⟩
 have M:=h m g1 r x g3 g4 fun m2 O e=>by grind [dY]
 have F:rv aa aC q=rv aa mO q:=by grind [Hy]
 rw [F] at h1;obtain⟨n2,I,J⟩:=(eA a A B b).1 h1;exact(eA a g i b).2 ⟨n2,(cU.step g2 g7).trans I,J⟩
theorem Eo(d:aq aa) {G:Nat→Prop}(c:∀j,G j→j<aa.length∧aF aa j=true) (h:∀j,G j→∀r x,aa[j]?=some r→x∈r.asks→(∀m,G m→bQ aa x≠aL aa (m:Int))→valOf aa aC (bQ aa x)=valOf aa mO (bQ aa x)) {j:Nat}(a:G j):valOf aa aC (aL aa (j:Int))=valOf aa mO (aL aa (j:Int)):=by
 obtain⟨i,o⟩:=c j a
 have e:rv aa aC j=rv aa mO j:=by
  apply Nat.eq_of_testBit_eq
  intro b;rw [Bool.eq_iff_iff];exact⟨sG d c h a b,sG d c (fun j a r x h1 f g=>(h j a r x h1 f g).symm) a b⟩
 grind [gY,iv]
structure Cons (aa:List aG) (H:Int→List cv) (on:Key→Bool) (b:cm):Prop where
 now:H b.ad=b.ab
 eQ:∀k t,ay k=true→(bz b.ab k).changed≤t→t≤b.ad→cellOf (H t) k=cellOf b.ab k
 Ep:∀r∈b.ah,r.av≤b.ad∧r.changed≤r.av
 vr:∀r∈b.ah,r.value=valOf aa (H r.av) r.key∧r.reads=kh aa (H r.av) r.key
 rr:∀r∈b.ah,∀a∈r.reads,ay a=false→∀ra,aA b.ah a=some ra→(r.av=b.ad∧on a=true)∨(ra.changed≤r.av→valOf aa (H r.av) a=ra.value)
 rs:∀r∈b.ah,ax r.key=true→∀a∈r.reads,ax a=true→∀ra,aA b.ah a=some ra→(r.av=b.ad∧on a=true)∨r.av≤ra.av
variable {H:Int→List cv}{on:Key→Bool}{b:cm}{k:Key}
theorem Cons.up(h:Cons aa H on b) (hu:az b k=true):∃r,aA b.ah k=some r∧r.av=b.ad∧r.value=valOf aa b.ab k:=by
 obtain⟨r,hr,a⟩:=aR.1 hu;obtain⟨h1,c⟩:=aJ hr;refine⟨r,hr,a,?_⟩;rw [(h.vr r h1).1,a,h.now,c]
theorem Cons.changed(h:Cons aa H on b) {m:Rec}(hm:m∈b.ah) (i:m.av<b.ad) {a:Key}(f:a∈m.reads) (hc:aV (valOf aa b.ab) b a≤m.av):valOf aa (H m.av) a=valOf aa b.ab a:=by
 cases hi:ay a with
 | true=>
  unfold aV at hc
  rw [if_pos hi] at hc
  have:=h.eQ a m.av hi hc (by omega)
  unfold valOf
  grind
 | false=>
  unfold aV at hc
  rw [if_neg (by rw [hi];simp)] at hc
  split at hc
  ·
   rename_i h1
   rw [Bool.and_eq_true] at h1;obtain⟨ra,d⟩:=Option.isSome_iff_exists.1 h1.1
   have e:aD b.ah a=ra:=by unfold aD;rw [d];rfl
   rw [e] at h1 hc
   have g:valOf aa b.ab a=ra.value:=by
    rw [Bool.or_eq_true] at h1
    rcases h1.2 with c | c
    ·
     have c:=of_decide_eq_true c;obtain⟨g1,g2⟩:=aJ d;rw [(h.vr ra g1).1,c,h.now,g2]
    exact of_decide_eq_true c
   rcases h.rr m hm a f hi ra d with⟨c,_⟩ | c
   ·
    omega
   rw [c hc,g]
  omega
end
end Go.Rc

namespace Go.Rc
open Go
/-! ### lists of keys in order -/
def Mu(l:List Key):Prop:=l.Pairwise fun a b=>bC a b<0
theorem pA{a b:Key}(h:bC a b<0) (c:bC b a<0):False:=by grind [il,iw]
theorem Gy{k:Key}:∀{l:List Key},Mu l→Mu (mN k l)
 | [],_=>by simp [mN,Mu]
 | x::r,h=>by
  obtain⟨h1,a⟩:=List.pairwise_cons.1 h
  unfold mN
  split
  ·
   rename_i c
   refine List.pairwise_cons.2 ⟨fun y hy=>?_,Gy a⟩
   grind [BH]
  rename_i c
  split
  ·
   exact h
  rename_i e
  have d:bC k x<0:=by grind [jh,l9]
  refine List.pairwise_cons.2 ⟨fun y hy=>?_,h⟩
  grind [il]
theorem B2(l:List Key):Mu (jP l):=by
 have key:∀(l acc:List Key),Mu acc→Mu (l.foldl (fun out k=>mN k out) acc):=by
  intro l
  induction l with
  | nil=>intro acc h;exact h
  | cons x r a=>grind [Gy]
 exact key l [] List.Pairwise.nil
theorem uH:∀{a b:List Key},Mu a→Mu b→(∀x,x∈a↔x∈b)→a=b
 | [],[],_,_,_=>rfl
 | [],y::b,_,_,h=>by have:=(h y).2 (by simp);cases this
 | x::a,[],_,_,h=>by have:=(h x).1 (by simp);cases this
 | x::a,y::b,h1,c,h=>by
  obtain⟨i,d⟩:=List.pairwise_cons.1 h1;obtain⟨j,f⟩:=List.pairwise_cons.1 c
  have e:x=y:=by
   rcases List.mem_cons.1 ((h x).1 (by simp)) with e | e
   ·
    exact e
   rcases List.mem_cons.1 ((h y).2 (by simp)) with e2 | e2
   ·
    exact e2.symm
   grind [pA]
  subst e
  congr 1
  refine uH d f fun z=>⟨fun g=>?_,fun g=>?_⟩
  ·
   grind [pA]
  grind [pA]
/-! ### rings that belong together -/
section
variable {l l':List Rec}{rev:Int}{k x y z:Key}
theorem bK:bU l rev k=true↔∃r,aA l k=some r∧ax k=true∧r.av<rev∧r.bA=false:=by
 unfold bU aD
 cases h:aA l k with
 | none=>simp
 | some r=>simp
theorem bM.trans(h:bM l rev k x) (a:bM l rev x y):bM l rev k y:=by
 induction a with
 | one a=>exact .step h a
 | step _ c d=>exact .step d c
def xT(l:List Rec) (rev:Int) (x y:Key):Prop:=bM l rev x y∧bM l rev y x
theorem xT.symm(h:xT l rev x y):xT l rev y x:=⟨h.2,h.1⟩
theorem xT.trans(h:xT l rev x y) (a:xT l rev y z):xT l rev x z:=⟨h.1.trans a.1,a.2.trans h.2⟩
theorem xT.gC(h:xT l rev x y):bU l rev y=true:=h.1.gC
theorem Er:y∈jf l rev k l↔y≠k∧xT l rev k y:=by
 unfold jf BJ
 rw [List.mem_map]
 constructor
 ·
  rintro⟨r,hr,rfl⟩;rw [List.mem_filter] at hr;simp only [Bool.and_eq_true,decide_eq_true_eq,kj] at hr;exact⟨hr.2.1,hr.2.2.1,hr.2.2.2⟩
 rintro⟨h1,a⟩;obtain⟨r,hr,rfl⟩:=List.mem_map.1 (nt a.gC);exact⟨r,List.mem_filter.2 ⟨hr,by simp only [Bool.and_eq_true,decide_eq_true_eq,kj];exact⟨h1,a.1,a.2⟩⟩,rfl⟩
theorem cA:y∈aB l rev k↔y=k∨(bU l rev k=true∧xT l rev k y):=by
 unfold aB
 split
 ·
  rename_i h
  rw [oe,List.mem_cons,Er]
  grind
 grind
theorem fq:k∈aB l rev k:=cA.2 (.inl rfl)
theorem rH(l:List Rec) (rev:Int) (k:Key):Mu (aB l rev k):=by
 unfold aB
 split
 ·
  exact B2 _
 exact List.pairwise_singleton _ _
theorem gR(h:ax k=false):aB l rev k=[k]:=by
 unfold aB
 rw [if_neg]
 grind [bK]
theorem xU(hk:bU l rev k=true) (h:xT l rev k y) (z:Key):z∈aB l rev y↔z∈aB l rev k:=by
 rw [cA,cA]
 constructor
 ·
  rintro(rfl | ⟨_,h1⟩)
  ·
   exact .inr ⟨hk,h⟩
  exact .inr ⟨hk,h.trans h1⟩
 rintro(rfl | ⟨_,h1⟩)
 ·
  exact .inr ⟨h.gC,h.symm⟩
 exact .inr ⟨h.gC,h.symm.trans h1⟩
theorem dr{g:List Key}{c:ob}:c∈bR l g↔c.dC∈g∧c.read∈(aD l c.dC).reads∧c.read∉g:=by
 unfold bR cT
 grind
theorem wG{g:List Key}(h:∀m∈g,aD l' m=aD l m):bR l' g=bR l g:=by
 unfold bR
 have key:∀s:List Key,(∀m∈s,aD l' m=aD l m)→(s.flatMap fun m=>cT g m (aD l' m).reads)=s.flatMap fun m=>cT g m (aD l m).reads:=by
  intro s
  induction s with
  | nil=>intro _;rfl
  | cons m r a=>grind
 exact key g h
end
/-! ### the change of records -/
def Pt(val:Key→ByteArray) (N:Key→Prop) (rev:Int) (bj:List Key) (y:Key) (o o':Option Rec):Prop:=
 o'=o∨((ax y=true∨N y)∧∃r,o=some r∧r.bA=false∧r.av<rev∧(o'=some {r with av:=rev}∨o'=some {r with bA:=true}))∨
 ((y∈bj∧N y)∧(∀r,o=some r→r.av<rev)∧∃r',o'=some r'∧r'.av=rev∧r'.bA=false∧r'.value=val y∧(∀r,o=some r→r'.changed=if r.value=r'.value then r.changed else rev)∧(o=none→r'.changed=rev))
structure iU (val:Key→ByteArray) (N:Key→Prop) (bj:List Key) (rev:Int) (l l':List Rec):Prop where
 pt:∀y,Pt val N rev bj y (aA l y) (aA l' y)
 scc:∀y z,xT l rev y z→bU l' rev y=true→bU l' rev z=true
def Live(l:List Rec) (rev:Int) (k:Key):Prop:=∃r,aA l k=some r∧r.bA=false∧r.av<rev
theorem Live.yX{l:List Rec}{rev:Int}{k:Key}(h:bU l rev k=true):Live l rev k:=by
 obtain⟨r,h1,_,a,c⟩:=bK.1 h;exact⟨r,h1,c,a⟩
theorem Live.gC{l:List Rec}{rev:Int}{k:Key}(h:Live l rev k) (hc:ax k=true):bU l rev k=true:=by
 obtain⟨r,h1,a,c⟩:=h
 grind [bK]
section
variable {val:Key→ByteArray}{N N':Key→Prop}{bj V6:List Key}{rev:Int}{l l' l2:List Rec}{k x y z:Key}
theorem iU.refl(l:List Rec):iU val N bj rev l l:=⟨fun _=>.inl rfl,fun _ _ h _=>h.gC⟩
theorem iU.mono(h:iU val N bj rev l l') (hr:∀y∈bj,y∈V6) (c:∀y,N y→N' y):iU val N' V6 rev l l':=
 ⟨fun y=>by
  rcases h.pt y with h | ⟨h1,a⟩ | ⟨⟨h1,a⟩,d⟩
  ·
   exact .inl h
  ·
   exact .inr (.inl ⟨h1.imp id (c y),a⟩)
  exact .inr (.inr ⟨⟨hr y h1,c y a⟩,d⟩),h.scc⟩
theorem iU.live(h:iU val N bj rev l l') (hl:Live l' rev y):aA l' y=aA l y:=by
 obtain⟨r,h1,a,c⟩:=hl
 rcases h.pt y with e | ⟨_,q,_,_,_,e | e⟩ | ⟨_,_,q,e,d,_⟩
 ·
  exact e
 ·
  grind
 ·
  grind
 grind
theorem iU.OK(h:iU val N bj rev l l') (hl:Live l' rev y):Live l rev y:=by
 obtain⟨r,h1,a,c⟩:=id hl;exact⟨r,by rw [← h.live hl];exact h1,a,c⟩
theorem iU.gC(h:iU val N bj rev l l') (a:bU l' rev y=true):aA l' y=aA l y:=h.live (.yX a)
theorem iU.Mv(h:iU val N bj rev l l') (a:bU l' rev y=true):bU l rev y=true:=by
 obtain⟨r,h1,c,d,e⟩:=bK.1 a;exact bK.2 ⟨r,by rw [← h.gC a];exact h1,c,d,e⟩
theorem iU.aD(h:iU val N bj rev l l') (a:bU l' rev y=true):aD l' y=Rc.aD l y:=by
 unfold Rc.aD
 rw [h.gC a]
theorem iU.leads(h:iU val N bj rev l l') (hk:bU l' rev k=true) (hl:bM l' rev k x):bM l rev k x:=by
 induction hl with
 | one h1=>exact .one ⟨by rw [← h.aD hk];exact h1.1,h.Mv h1.2⟩
 | step h1 a c=>exact .step c ⟨by rw [← h.aD h1.gC];exact a.1,h.Mv a.2⟩
theorem iU.back(h:iU val N bj rev l l') (hk:bU l' rev k=true) (hl:bM l rev k x):bM l rev x k→bM l' rev k x:=by
 induction hl with
 | one h1=>exact fun a=>.one ⟨by rw [h.aD hk];exact h1.1,h.scc k _ ⟨.one h1,a⟩ hk⟩
 | step h1 c d=>
  intro a;have g:=d ((bM.one c).trans a);exact .step g ⟨by rw [h.aD g.gC];exact c.1,h.scc k _ ⟨.step h1 c,a⟩ hk⟩
theorem iU.mut(h:iU val N bj rev l l') (hk:bU l' rev k=true):xT l' rev k y↔xT l rev k y:=
 ⟨fun m=>⟨h.leads hk m.1,h.leads m.gC m.2⟩,fun m=>⟨h.back hk m.1 m.2,h.back (h.scc k y m hk) m.2 m.1⟩⟩
theorem iU.group(h:iU val N bj rev l l') (hk:Live l' rev k):aB l' rev k=aB l rev k∧∀m∈aB l rev k,aA l' m=aA l m:=by
 cases hc:ax k with
 | false=>
  rw [gR hc,gR hc];refine⟨rfl,fun m hm=>?_⟩;rw [List.mem_singleton.1 hm];exact h.live hk
 | true=>
  have a:=hk.gC hc;refine⟨uH (rH _ _ _) (rH _ _ _) fun y=>?_,fun m hm=>?_⟩
  ·
   rw [cA,cA,h.mut a,a,h.Mv a]
  rcases cA.1 hm with rfl | ⟨_,m2⟩
  ·
   exact h.live hk
  exact h.gC (h.scc _ _ m2 a)
theorem iU.JG(h:iU val N bj rev l l') (hk:Live l' rev k):bR l' (aB l' rev k)=bR l (aB l rev k):=by
 obtain⟨h1,a⟩:=h.group hk;rw [h1];refine wG fun m hm=>?_
 unfold Rc.aD
 rw [a m hm]
theorem iU.trans(h:iU val N bj rev l l') (a:iU val N bj rev l' l2):iU val N bj rev l l2:=by
 refine⟨fun y=>?_,fun y z m c=>?_⟩
 ·
  have g2:=a.pt y
  rcases h.pt y with e | ⟨e0,r,e1,e2,e3,e4 | e4⟩ | ⟨e1,e2,r',e3,e4,e5,e6,d,e8⟩
  ·
   rw [e] at g2;exact g2
  ·
   rcases g2 with g | ⟨_,q,g1,g2,g3,_⟩ | ⟨_,g1,_⟩
   ·
    exact .inr (.inl ⟨e0,r,e1,e2,e3,.inl (g.trans e4)⟩)
   ·
    grind
   grind
  ·
   rcases g2 with g | ⟨_,q,g1,g2,g3,_⟩ | ⟨g1,g2,q,g3,g4,g5,g6,g7,g8⟩
   ·
    exact .inr (.inl ⟨e0,r,e1,e2,e3,.inr (g.trans e4)⟩)
   ·
    grind
   refine .inr (.inr ⟨g1,fun r2 f=>?_,q,g3,g4,g5,g6,fun r2 f=>?_,fun hn=>?_⟩)
   ·
    grind
   ·
    grind
   grind
  rcases g2 with g | ⟨_,q,g1,g2,g3,_⟩ | ⟨_,g1,_⟩
  ·
   exact .inr (.inr ⟨e1,e2,r',g.trans e3,e4,e5,e6,d,e8⟩)
  ·
   grind
  have:=g1 _ e3
  omega
 have i:=a.Mv c;exact a.scc y z ((h.mut i).2 m) c
theorem bY{g:List Key}{d:Bool}:aA (l.map (a7 rev g d)) y=(aA l y).map (a7 rev g d):=rE _ (fun r=>(cR rev g d r).1) y l
theorem iU.mark(hl:Live l rev k) (d:Bool) (h:ax k=true∨N k):iU val N bj rev l (l.map (a7 rev (aB l rev k) d)):=by
 have eQ:∀y∈aB l rev k,Live l rev y:=fun y hy=>by
  rcases cA.1 hy with rfl | ⟨_,m⟩
  ·
   exact hl
  exact .yX m.gC
 have i:∀y,y∉aB l rev k→aA (l.map (a7 rev (aB l rev k) d)) y=aA l y:=fun y hy=>by
  rw [bY]
  cases j:aA l y with
  | none=>rfl
  | some r=>
   have e:=(aJ j).2
   show some (a7 rev (aB l rev k) d r)=some r
   unfold a7
   rw [if_neg (by rw [e];exact hy)]
 have o:∀y∈aB l rev k,∃r,aA l y=some r∧r.bA=false∧r.av<rev∧aA (l.map (a7 rev (aB l rev k) d)) y=some (if d then {r with bA:=true} else {r with av:=rev}):=fun y hy=>by
  obtain⟨r,h1,a,c⟩:=eQ y hy;refine⟨r,h1,a,c,?_⟩;rw [bY,h1]
  show some (a7 rev (aB l rev k) d r)=_
  unfold a7
  rw [if_pos (by rw [(aJ h1).2];exact hy)]
 refine⟨fun y=>?_,fun y z m u=>?_⟩
 ·
  by_cases hy:y∈aB l rev k
  ·
   obtain⟨r,h1,a,c,p⟩:=o y hy;refine .inr (.inl ⟨?_,r,h1,a,c,?_⟩)
   ·
    rcases cA.1 hy with rfl | ⟨_,m⟩
    ·
     exact h
    obtain⟨_,_,g,_⟩:=bK.1 m.gC;exact .inl g
   grind
  exact .inl (i y hy)
 have hy:y∉aB l rev k:=fun hy=>by grind [bK]
 have f:z∉aB l rev k:=fun f=>hy (by
  rcases cA.1 f with rfl | ⟨h1,a⟩
  ·
   grind [cA,xT.gC,xT.symm]
  exact cA.2 (.inr ⟨h1,a.trans m.symm⟩))
 obtain⟨r,h1,a,c,p⟩:=bK.1 m.gC
 grind [bK]
theorem iU.put{r':Rec}(hk:bU l rev r'.key=false) (a:∀r,aA l r'.key=some r→r.av<rev) (c:r'.key∈bj∧N r'.key) (d:r'.av=rev) (f:r'.bA=false) (g:r'.value=val r'.key)
  (hc:∀r,aA l r'.key=some r→r'.changed=if r.value=r'.value then r.changed else rev) (hn:aA l r'.key=none→r'.changed=rev):iU val N bj rev l (eh l r'):=by
 refine⟨fun y=>?_,fun y z m p=>?_⟩
 ·
  rw [cN]
  by_cases e:y=r'.key
  ·
   rw [if_pos e,e];exact .inr (.inr ⟨c,a,r',rfl,d,f,g,hc,hn⟩)
  rw [if_neg e];exact .inl rfl
 have h:z≠r'.key:=fun e=>by grind [xT.gC]
 obtain⟨r,h1,i,j,o⟩:=bK.1 m.gC;exact bK.2 ⟨r,by rw [cN,if_neg h];exact h1,i,j,o⟩
end
end Go.Rc

namespace Go.Rc
open Go
theorem aQ{l:List Rec}{k:Key}{r:Rec}(h:aA l k=some r):aD l k=r:=by
 unfold aD
 rw [h]
 rfl
theorem ib:∀{l:List Rec},pT l→∀{r:Rec},r∈l→aA l r.key=some r
 | [],_,r,hr=>by cases hr
 | x::xs,h,r,hr=>by
  obtain⟨h1,a⟩:=List.pairwise_cons.1 h
  unfold aA
  rw [List.find?_cons]
  rcases List.mem_cons.1 hr with rfl | hr
  ·
   simp
  have c:=h1 r hr
  have d:x.key≠r.key:=fun e=>by rw [e,iw] at c;omega
  have:(x.key == r.key)=false:=by simpa using d
  rw [this];exact ib a hr
structure Bi (aa:List aG) (H:Int→List cv) (on:Key→Bool) (b:cm):Prop where
 c:Cons aa H on b
 st:pT b.ah
 kr:∀r∈b.ah,∃i:Nat,i<aa.length∧r.key=aL aa (i:Int)
 dv:∀r∈b.ah,r.bA=true→r.av<b.ad
section
variable {aa:List aG}{H:Int→List cv}{on on':Key→Bool}{b:cm}{k:Key}
theorem Bi.Mw(h:Bi aa H on b) (f:∀k,on k=true→on' k=true):Bi aa H on' b:=
 ⟨{h.c with
   rr:=fun r hr a d hi ra e=>(h.c.rr r hr a d hi ra e).imp (fun⟨x,y⟩=>⟨x,f _ y⟩) id
   rs:=fun r hr hc a d hi ra e=>(h.c.rs r hr hc a d hi ra e).imp (fun⟨x,y⟩=>⟨x,f _ y⟩) id},h.st,h.kr,h.dv⟩
theorem Bi.off(h:Bi aa H on b) (hu:az b k=true) (g:∀y,on y=true→y=k∨on' y=true):Bi aa H on' b:=by
 obtain⟨q,f,j,i⟩:=h.c.up hu;refine⟨{h.c with rr:=fun r hr a e hi ra d=>?_,rs:=fun r hr hc a e hi ra d=>?_},h.st,h.kr,h.dv⟩
 ·
  rcases h.c.rr r hr a e hi ra d with⟨x,y⟩ | z
  ·
   rcases g a y with rfl | y
   ·
    rw [d] at f
    have:=Option.some.inj f
    subst this;refine .inr fun _=>?_;rw [x,h.c.now];exact i.symm
   exact .inl ⟨x,y⟩
  exact .inr z
 rcases h.c.rs r hr hc a e hi ra d with⟨x,y⟩ | z
 ·
  grind
 exact .inr z
theorem Hz(d:aq aa) {aC:List cv}{i:Nat}(hi:i<aa.length) (hr:aF aa i=true) {x:Ask}(a:x∈aa[i].asks):bQ aa x∈cG aa aC i:=by
 obtain⟨q,e⟩:=List.mem_iff_getElem?.1 a
 have c:q<cJ aa i:=by grind [cJ]
 have h1:=fI (aC:=aC) c
 grind [ek,nD,ko]
theorem Cons.lead(h:Cons aa H on b) {x y:Key}(a:bU b.ah b.ad x=true) (hl:bM b.ah b.ad x y):(aD b.ah x).av≤(aD b.ah y).av:=by
 have step:∀x y,bU b.ah b.ad x=true→Ld b.ah b.ad x y→(aD b.ah x).av≤(aD b.ah y).av:=by
  intro x y a hy;obtain⟨r,h1,c,f,g⟩:=bK.1 a;obtain⟨q,g1,g2,g3,g4⟩:=bK.1 hy.2;have d:=hy.1;rw [aQ h1] at d;rw [aQ h1,aQ g1]
  rcases h.rs r (aJ h1).1 (by rw [(aJ h1).2];exact c) y d g2 q g1 with⟨e,_⟩ | e
  ·
   omega
  exact e
 induction hl with
 | one h1=>exact step _ _ a h1
 | step h1 c i=>grind [bM.gC]
theorem Bi.key(h:Bi aa H on b) (hl:Live b.ah b.ad k):∃i:Nat,i<aa.length∧k=aL aa (i:Int):=by
 obtain⟨r,h1,_⟩:=hl;obtain⟨a,c⟩:=aJ h1;obtain⟨i,hi,e⟩:=h.kr r a
 grind
theorem jX{l:List Rec}{rev:Int}{y:Key}(hl:Live l rev k) (hy:y∈aB l rev k):Live l rev y:=by
 rcases cA.1 hy with rfl | ⟨_,m⟩
 ·
  exact hl
 exact .yX m.gC
theorem Bi.fixed(g:aq aa) (h:Bi aa H on b) (hl:Live b.ah b.ad k)
  (p:∀m∈aB b.ah b.ad k,∀a∈(aD b.ah m).reads,a∉aB b.ah b.ad k→valOf aa (H (aD b.ah m).av) a=valOf aa b.ab a) :
  ∀m∈aB b.ah b.ad k,valOf aa b.ab m=valOf aa (H (aD b.ah m).av) m∧kh aa b.ab m=kh aa (H (aD b.ah m).av) m:=by
 have E:=g.len
 have f:∀m∈aB b.ah b.ad k,∃i:Nat,i<aa.length∧m=aL aa (i:Int)∧(aD b.ah m).reads=cG aa (H (aD b.ah m).av) i:=fun m hm=>by
  have u:=jX hl hm;obtain⟨i,hi,e⟩:=h.key u;obtain⟨r,h1,_⟩:=u;refine⟨i,hi,e,?_⟩;have w:=(h.c.vr r (aJ h1).1).2;rw [aQ h1,w,(aJ h1).2,e,fG g hi]
 cases hc:ax k with
 | false=>
  rw [gR hc] at p f ⊢;intro m hm;rw [List.mem_singleton] at hm;subst hm;obtain⟨i,hi,e,f⟩:=f m (by simp)
  have A:=uG g hi (aC:=H (aD b.ah m).av) (mO:=b.ab) fun a o=>by
   refine p m (by simp) a (by rw [f];exact o) fun hm=>?_;rw [List.mem_singleton] at hm;rw [e] at hm;rw [e,bd hi (by omega)] at hc
   rcases px g hi a o with⟨n,hn,rfl⟩ | ⟨j,d,rfl,_,F,_⟩
   ·
    grind [bp,dj]
   grind [dY]
  grind [fG]
 | true=>
  have B:=hl.gC hc
  have ht:∀m∈aB b.ah b.ad k,(aD b.ah m).av=(aD b.ah k).av:=fun m hm=>by
   rcases cA.1 hm with rfl | ⟨_,m1,m2⟩
   ·
    rfl
   have a1:=h.c.lead B m1;have a2:=h.c.lead m1.gC m2
   omega
  have C:∀j:Nat,j<aa.length→aL aa (j:Int)∈aB b.ah b.ad k→aF aa j=true:=fun j d hm=>by
   have h1:bU b.ah b.ad (aL aa (j:Int))=true:=by grind [cA,xT.gC]
   grind [bK,bd]
  have D:∀j:Nat,j<aa.length→aL aa (j:Int)∈aB b.ah b.ad k→valOf aa (H (aD b.ah k).av) (aL aa (j:Int))=valOf aa b.ab (aL aa (j:Int)):=fun j d hm=>by
   refine Eo g (G:=fun j=>j<aa.length∧aL aa (j:Int)∈aB b.ah b.ad k) (fun j d=>⟨d.1,C j d.1 d.2⟩) (fun j d r x hr I J=>?_) ⟨d,hm⟩
   grind [dY,Hz]
  intro m hm;obtain⟨i,hi,e,f⟩:=f m hm;have h1:=D i hi (e ▸ hm);rw [ht m hm] at f ⊢;refine⟨by rw [e];exact h1.symm,?_⟩
  have A:=uG g hi (aC:=H (aD b.ah k).av) (mO:=b.ab) fun a o=>by grind
  grind [fG]
theorem iz(rev:Int) (g:List Key) (d:Bool) (r:Rec):(a7 rev g d r).value=r.value∧(a7 rev g d r).changed=r.changed:=by
 unfold a7
 grind
theorem Bi.mark(F:aq aa) (h:Bi aa H on b) (hl:Live b.ah b.ad k)
  (A:∀m∈aB b.ah b.ad k,∀a∈(aD b.ah m).reads,a∉aB b.ah b.ad k→valOf aa (H (aD b.ah m).av) a=valOf aa b.ab a∧(ay a=true∨(on a=true∧ax a=true)∨az b a=true)) :
  Bi aa H on (cH b (aB b.ah b.ad k) false):=by
 have C:=h.fixed F hl fun m hm a d I=>(A m hm a d I).1
 generalize J:aB b.ah b.ad k=G at C A
 have K:∀a ra,a∈G→aA b.ah a=some ra→ra.value=valOf aa b.ab a:=fun a ra d f=>by
  have h1:=(h.c.vr ra (aJ f).1).1;have o:=(C a d).1;rw [aQ f] at o;rw [h1,(aJ f).2,o]
 have B:∀r:Rec,r.key∈G→(a7 b.ad G false r).av=b.ad:=fun r hr=>by
  unfold a7
  rw [if_pos hr]
  rfl
 have p:∀r:Rec,r.key∉G→a7 b.ad G false r=r:=fun r hr=>by
  unfold a7
  rw [if_neg hr]
 refine⟨⟨h.c.now,h.c.eQ,fun r' g=>?_,fun r' g=>?_,fun r' g a d hi M u=>?_,fun r' g hc a d hi M u=>?_⟩,h.st.map fun r=>(cR _ _ _ r).1,fun r' g=>?_,fun r' g D=>?_⟩
 ·
  obtain⟨r,hr,rfl⟩:=List.mem_map.1 g;have h1:=h.c.Ep r hr
  by_cases e:r.key∈G
  ·
   rw [B r e,(iz _ _ _ r).2];exact⟨Int.le_refl _,by omega⟩
  rw [p r e];exact h1
 ·
  obtain⟨r,hr,rfl⟩:=List.mem_map.1 g;have h1:=h.c.vr r hr
  by_cases e:r.key∈G
  ·
   have i:=ib h.st hr;have o:=C r.key e;rw [aQ i] at o;rw [B r e,(iz _ _ _ r).1,(cR _ _ _ r).1,(cR _ _ _ r).2,h.c.now,o.1,o.2];exact h1
  rw [p r e];exact h1
 ·
  obtain⟨r,hr,rfl⟩:=List.mem_map.1 g;rw [show(cH b G false).ah=b.ah.map (a7 b.ad G false) from rfl,bY] at u;obtain⟨ra,f,rfl⟩:=Option.map_eq_some_iff.1 u;have i:=ib h.st hr;rw [(cR _ _ _ r).2] at d;rw [(iz _ _ _ ra).1,(iz _ _ _ ra).2]
  show((a7 b.ad G false r).av=b.ad∧_)∨_
  by_cases e:r.key∈G
  ·
   rw [B r e]
   by_cases w:a∈G
   ·
    refine .inr fun _=>?_;rw [h.c.now];exact(K a ra w f).symm
   rcases(A r.key e a (by rw [aQ i];exact d) w).2 with h1 | h1 | h1
   ·
    rw [hi] at h1
    cases h1
   ·
    exact .inl ⟨rfl,h1.1⟩
   refine .inr fun _=>?_;obtain⟨q,E,_,O⟩:=h.c.up h1;rw [f] at E
   have:=Option.some.inj E
   subst this;rw [h.c.now];exact O.symm
  rw [p r e];exact h.c.rr r hr a d hi ra f
 ·
  obtain⟨r,hr,rfl⟩:=List.mem_map.1 g;rw [show(cH b G false).ah=b.ah.map (a7 b.ad G false) from rfl,bY] at u;obtain⟨ra,f,rfl⟩:=Option.map_eq_some_iff.1 u;have i:=ib h.st hr;rw [(cR _ _ _ r).2] at d;rw [(cR _ _ _ r).1] at hc
  show((a7 b.ad G false r).av=b.ad∧_)∨_
  have P:=(aJ f).2;have hle:=(h.c.Ep r hr).1
  by_cases e:r.key∈G
  ·
   rw [B r e]
   by_cases w:a∈G
   ·
    grind
   rcases(A r.key e a (by rw [aQ i];exact d) w).2 with h1 | h1 | h1
   ·
    obtain⟨j,Q,R⟩:=h.kr ra (aJ f).1
    grind [aq.len,dj]
   ·
    exact .inl ⟨rfl,h1.1⟩
   obtain⟨q,E,T⟩:=aR.1 h1
   grind
  rw [p r e]
  rcases h.c.rs r hr hc a d hi ra f with h1 | h1
  ·
   exact .inl h1
  refine .inr ?_
  by_cases w:ra.key∈G
  ·
   grind
  grind
 ·
  obtain⟨r,hr,rfl⟩:=List.mem_map.1 g;rw [(cR _ _ _ r).1];exact h.kr r hr
 obtain⟨r,hr,rfl⟩:=List.mem_map.1 g
 by_cases e:r.key∈G
 ·
  have i:=ib h.st hr;obtain⟨q,g1,g2,_⟩:=jX hl (y:=r.key) (by rw [J];exact e);rw [i] at g1
  have:=Option.some.inj g1
  subst this
  unfold a7 at D
  grind
 rw [p r e] at D ⊢;exact h.dv r hr D
theorem Bi.bA(h:Bi aa H on b) {G:List Key}(o:∀m∈G,Live b.ah b.ad m):Bi aa H on (cH b G true):=by
 have hm:∀r:Rec,(a7 b.ad G true r).av=r.av:=fun r=>by
  unfold a7
  grind
 refine⟨⟨h.c.now,h.c.eQ,fun r' d=>?_,fun r' d=>?_,fun r' d a f hi p g=>?_,fun r' d hc a f hi p g=>?_⟩,h.st.map fun r=>(cR _ _ _ r).1,fun r' d=>?_,fun r' d i=>?_⟩
 ·
  obtain⟨r,hr,rfl⟩:=List.mem_map.1 d;rw [hm,(iz _ _ _ r).2];exact h.c.Ep r hr
 ·
  obtain⟨r,hr,rfl⟩:=List.mem_map.1 d;rw [hm,(iz _ _ _ r).1,(cR _ _ _ r).1,(cR _ _ _ r).2];exact h.c.vr r hr
 ·
  obtain⟨r,hr,rfl⟩:=List.mem_map.1 d;rw [show(cH b G true).ah=b.ah.map (a7 b.ad G true) from rfl,bY] at g;obtain⟨ra,j,rfl⟩:=Option.map_eq_some_iff.1 g;rw [(cR _ _ _ r).2] at f;rw [hm,(iz _ _ _ ra).1,(iz _ _ _ ra).2];exact h.c.rr r hr a f hi ra j
 ·
  obtain⟨r,hr,rfl⟩:=List.mem_map.1 d;rw [show(cH b G true).ah=b.ah.map (a7 b.ad G true) from rfl,bY] at g;obtain⟨ra,j,rfl⟩:=Option.map_eq_some_iff.1 g;rw [(cR _ _ _ r).2] at f;rw [(cR _ _ _ r).1] at hc;rw [hm,hm];exact h.c.rs r hr hc a f hi ra j
 ·
  obtain⟨r,hr,rfl⟩:=List.mem_map.1 d;rw [(cR _ _ _ r).1];exact h.kr r hr
 obtain⟨r,hr,rfl⟩:=List.mem_map.1 d;rw [hm]
 by_cases e:r.key∈G
 ·
  obtain⟨q,g1,_,g2⟩:=o _ e;rw [ib h.st hr] at g1
  have:=Option.some.inj g1
  subst this;exact g2
 unfold a7 at i
 rw [if_neg e] at i;exact h.dv r hr i
theorem Bi.put(A:aq aa) (h:Bi aa H on b) {i:Nat}(hi:i<aa.length) (G:ax (aL aa (i:Int))=true→on (aL aa (i:Int))=true)
  (C:∀a∈cG aa b.ab i,ay a=true∨(on a=true∧ax a=true)∨az b a=true) :
  Bi aa H on {b with ah:=eh b.ah (bF b (aL aa (i:Int)) (valOf aa b.ab (aL aa (i:Int))) (cG aa b.ab i))}:=by
 have M:=A.len
 generalize g:bF b (aL aa (i:Int)) (valOf aa b.ab (aL aa (i:Int))) (cG aa b.ab i)=q
 have q1:q.key=aL aa (i:Int):=by rw [← g];rfl
 have m:q.av=b.ad:=by rw [← g];rfl
 have D:q.value=valOf aa b.ab (aL aa (i:Int)):=by rw [← g];rfl
 have w:q.reads=cG aa b.ab i:=by rw [← g];rfl
 have E:(∃r,aA b.ah q.key=some r∧r.value=q.value∧q.changed=r.changed)∨q.changed=b.ad:=by
  rw [← g]
  unfold bF
  simp only
  split
  ·
   rename_i hc
   simp only [Bool.and_eq_true,decide_eq_true_eq] at hc;obtain⟨r,hr⟩:=Option.isSome_iff_exists.1 hc.1;rw [aQ hr] at hc ⊢;exact .inl ⟨r,hr,hc.2,rfl⟩
  exact .inr rfl
 refine⟨⟨h.c.now,h.c.eQ,fun r hr=>?_,fun r hr=>?_,fun r hr a f u ra d=>?_,fun r hr hc a f u ra d=>?_⟩,pT.put h.st,fun r hr=>?_,fun r hr B=>?_⟩
 ·
  rcases gH _ _ _ _ hr with rfl | hr
  ·
   refine⟨by rw [m];exact Int.le_refl _,?_⟩
   rcases E with⟨p,o,_,e⟩ | e
   ·
    have:=h.c.Ep p (aJ o).1
    omega
   omega
  exact h.c.Ep r hr
 ·
  rcases gH _ _ _ _ hr with rfl | hr
  ·
   rw [q1,m,D,w,h.c.now,fG A hi];exact⟨rfl,rfl⟩
  exact h.c.vr r hr
 ·
  rw [show({b with ah:=eh b.ah q}:cm).ah=eh b.ah q from rfl,cN] at d
  show(r.av=b.ad∧_)∨_
  rcases gH _ _ _ _ hr with rfl | hr
  ·
   by_cases e:a=r.key
   ·
    refine .inl ⟨m,?_⟩;rw [e,q1];refine G ?_;rw [w] at f;rw [bd hi (by omega)]
    cases O:aF aa i with
    | true=>rfl
    | false=>
     rcases px A hi a f with⟨n,hn,h1⟩ | ⟨j,F,h1,_,P,_⟩
     ·
      grind [bp]
     grind [dY]
   rw [if_neg e] at d
   rcases C a (by rw [← w];exact f) with h1 | h1 | h1
   ·
    rw [u] at h1
    cases h1
   ·
    exact .inl ⟨m,h1.1⟩
   refine .inr fun _=>?_;obtain⟨p,o,_,I⟩:=h.c.up h1;rw [d] at o
   have:=Option.some.inj o
   subst this;rw [m,h.c.now];exact I.symm
  by_cases e:a=q.key
  ·
   rw [if_pos e] at d
   have:=Option.some.inj d
   subst this
   rcases E with⟨p,o,e2,e3⟩ | e2
   ·
    rcases h.c.rr r hr a f u p (by rw [e];exact o) with h1 | h1
    ·
     exact .inl h1
    grind
   refine .inr fun hc=>?_;have h1:=(h.c.Ep r hr).1
   have J:r.av=b.ad:=by omega
   rw [J,h.c.now,D,e,q1]
  rw [if_neg e] at d;exact h.c.rr r hr a f u ra d
 ·
  rw [show({b with ah:=eh b.ah q}:cm).ah=eh b.ah q from rfl,cN] at d
  show(r.av=b.ad∧_)∨_
  rcases gH _ _ _ _ hr with rfl | hr
  ·
   by_cases e:a=r.key
   ·
    grind
   rw [if_neg e] at d
   rcases C a (by rw [← w];exact f) with h1 | h1 | h1
   ·
    obtain⟨j,F,K⟩:=h.kr ra (aJ d).1;rw [← (aJ d).2,K,dj F (by omega)] at h1
    cases h1
   ·
    exact .inl ⟨m,h1.1⟩
   grind [aR]
  by_cases e:a=q.key
  ·
   rw [if_pos e] at d
   have:=Option.some.inj d
   subst this
   have:=(h.c.Ep r hr).1
   exact .inr (by omega)
  rw [if_neg e] at d;exact h.c.rs r hr hc a f u ra d
 ·
  rcases gH _ _ _ _ hr with rfl | hr
  ·
   exact⟨i,hi,q1⟩
  exact h.kr r hr
 rcases gH _ _ _ _ hr with rfl | hr
 ·
  have:r.bA=false:=by rw [← g];rfl
  rw [this] at B
  cases B
 exact h.dv r hr B
end
end Go.Rc

namespace Go.Rc
open Go
def Mx(val:Key→ByteArray) (b:cm) (y:Key):Prop:=∃m a,m∈aB b.ah b.ad y∧a∈(aD b.ah m).reads∧a∉aB b.ah b.ad y∧(aD b.ah m).av<aV val b a
def Gz(val:Key→ByteArray) (b:cm) (y:Key):Prop:=ay y=false∧az b y=false∧(aA b.ah y=none∨(aD b.ah y).bA=true∨Mx val b y)
section
variable {aa:List aG}{H:Int→List cv}{on:Key→Bool}{b b0:cm}{k:Key}{s t:ES}
def ES.AM(s:ES) (k:Key):Bool:=s.on k && ax k
theorem Es(h:s.on k=true∧ax k=true):s.AM k=true:=by grind [ES.AM]
structure Wy (aa:List aG) (b0:cm) (s:ES):Prop where
 rev:s.b.ad=b0.ad
 aC:s.b.ab=b0.ab
 ev:iU (valOf aa b0.ab) (fun _=>True) s.bj b0.ad b0.ah s.b.ah
 Ly:∀y r,aA s.b.ah y=some r→r.bA=true→(aD b0.ah y).bA=true∨Mx (valOf aa b0.ab) b0 y
 bj:∀y∈s.bj,Gz (valOf aa b0.ab) b0 y
 Lz:∀y∈s.bj,az s.b y=true
 mrk:∀y,az b0 y=false→az s.b y=true→y∈s.bj∨¬Mx (valOf aa b0.ab) b0 y
 j5:s.bj.Nodup
theorem oO{val:Key→ByteArray}(hi:ay k=false) (h:aA b.ah k=none):aV val b k=b.ad:=by grind [aV]
theorem eL{val:Key→ByteArray}(hi:ay k=false) {r:Rec}(h:aA b.ah k=some r):aV val b k=if r.av=b.ad∨val k=r.value then r.changed else b.ad:=by
 unfold aV
 rw [hi,aQ h,h]
 grind
theorem Wy.changed(i:Bi aa H on s.b) (h:Wy aa b0 s) (a:Key):aV (valOf aa b0.ab) s.b a=aV (valOf aa b0.ab) b0 a:=by
 cases hi:ay a with
 | true=>
  unfold aV
  rw [hi,if_pos rfl,if_pos rfl,h.aC]
 | false=>
  rcases h.ev.pt a with e | ⟨_,r,e1,e2,e3,e4 | e4⟩ | ⟨_,e2,r',e3,e4,e5,e6,j,e8⟩
  ·
   cases d:aA b0.ah a with
   | none=>grind [oO,rev]
   | some r=>rw [eL hi (e.trans d),eL hi d,h.rev]
  ·
   have hu:az s.b a=true:=aR.2 ⟨_,e4,h.rev.symm⟩;obtain⟨q,f,_,g⟩:=i.c.up hu;rw [e4] at f
   have:=Option.some.inj f
   subst this;rw [h.aC] at g;rw [eL hi e4,eL hi e1,if_pos (.inl h.rev.symm),if_pos (.inr g.symm)]
  ·
   rw [eL hi e4,eL hi e1,h.rev]
  rw [eL hi e3,if_pos (.inl (e4.trans h.rev.symm))]
  cases d:aA b0.ah a with
  | none=>rw [oO hi d,e8 d]
  | some r=>
   rw [eL hi d,j r d,e6]
   grind
theorem Wy.QV(i:Bi aa H on s.b) (h:Wy aa b0 s) (hl:Live s.b.ah s.b.ad k) {m a:Key}(hm:m∈aB s.b.ah s.b.ad k) (f:a∈(aD s.b.ah m).reads) (c:a∉aB s.b.ah s.b.ad k)
  (hc:(aD s.b.ah m).av<aV (valOf aa b0.ab) s.b a):∀y∈aB s.b.ah s.b.ad k,Mx (valOf aa b0.ab) b0 y:=by
 intro y hy;rw [h.rev] at hl hm c hy;obtain⟨h1,j⟩:=h.ev.group hl;rw [h1] at hm c hy;have p:=h.ev.OK hl
 have e:aD s.b.ah m=aD b0.ah m:=by
  unfold aD
  rw [j m hm]
 rw [e] at f hc
 have g:∀z,z∈aB b0.ah b0.ad y↔z∈aB b0.ah b0.ad k:=fun z=>by
  rcases cA.1 hy with rfl | ⟨d,o⟩
  ·
   exact Iff.rfl
  exact xU d o z
 exact⟨m,a,(g m).2 hm,f,fun d=>c ((g a).1 d),by rw [← h.changed i a];exact hc⟩
theorem Wy.OM(h:Wy aa b0 s) (hl:Live s.b.ah s.b.ad k) (c:∀m∈aB s.b.ah s.b.ad k,∀a∈(aD s.b.ah m).reads,a∉aB s.b.ah s.b.ad k→aV (valOf aa b0.ab) b0 a≤(aD s.b.ah m).av):∀y∈aB s.b.ah s.b.ad k,¬Mx (valOf aa b0.ab) b0 y:=by
 rintro y hy ⟨m,a,hm,g,i,hc⟩;rw [h.rev] at hl c hy;obtain⟨h1,j⟩:=h.ev.group hl;rw [h1] at c hy
 have o:∀z,z∈aB b0.ah b0.ad y↔z∈aB b0.ah b0.ad k:=fun z=>by
  rcases cA.1 hy with rfl | ⟨d,f⟩
  ·
   exact Iff.rfl
  exact xU d f z
 have e:aD s.b.ah m=aD b0.ah m:=by grind [aD]
 grind
theorem Wy.none(h:Wy aa b0 s) (a:aA s.b.ah k=none):aA b0.ah k=none:=by
 rcases h.ev.pt k with e | ⟨_,r,e1,e2,e3,e4 | e4⟩ | ⟨_,e2,r',e3,_⟩
 ·
  exact e.symm.trans a
 ·
  rw [a] at e4;cases e4
 ·
  rw [a] at e4;cases e4
 rw [a] at e3;cases e3
theorem iU.az{val:Key→ByteArray}{N:Key→Prop}{bj:List Key}{b b':cm}(h:iU val N bj b.ad b.ah b'.ah) (hr:b'.ad=b.ad) (hu:Rc.az b k=true):Rc.az b' k=true:=by
 obtain⟨r,h1,a⟩:=aR.1 hu
 rcases h.pt k with e | ⟨_,q,e1,e2,e3,_⟩ | ⟨_,e2,_⟩
 ·
  exact aR.2 ⟨r,e.trans h1,a.trans hr.symm⟩
 ·
  grind
 have:=e2 r h1
 omega
theorem GA{G:List Key}(hu:Rc.az b k=false) (c:Rc.az (cH b G false) k=true):k∈G:=by
 obtain⟨r',h1,a⟩:=aR.1 c;have d:(aA b.ah k).map (a7 b.ad G false)=some r':=bY.symm.trans h1;obtain⟨r,hr,rfl⟩:=Option.map_eq_some_iff.1 d;have e:=(aJ hr).2;refine Classical.byContradiction fun hk=>?_
 unfold a7 at a
 rw [if_neg (by rw [e];exact hk)] at a
 have:=aR.2 ⟨r,hr,a⟩
 rw [hu] at this
 cases this
theorem lM{G:List Key}:Rc.az (cH b G true) k=Rc.az b k:=by
 have e:aA (cH b G true).ah k=(aA b.ah k).map (a7 b.ad G true):=bY
 have hm:∀r:Rec,(a7 b.ad G true r).av=r.av:=fun r=>by
  unfold a7
  grind
 rw [Bool.eq_iff_iff,aR,aR,e]
 constructor
 ·
  rintro⟨r',h1,a⟩;obtain⟨r,hr,rfl⟩:=Option.map_eq_some_iff.1 h1;rw [hm] at a;exact⟨r,hr,a⟩
 rintro⟨r,h1,a⟩;exact⟨_,by rw [h1];rfl,by rw [hm];exact a⟩
theorem xV{l:List Key}(h:l.Nodup) (hk:k∉l):(l++[k]).Nodup:=by grind
theorem Wy.step{s':ES}(h:Wy aa b0 s) (h1:s'.b.ad=s.b.ad) (e:s'.b.ab=s.b.ab) (c:iU (valOf aa b0.ab) (fun _=>True) s'.bj b0.ad s.b.ah s'.b.ah) (hr:∀y∈s.bj,y∈s'.bj)
  (f:∀y r,aA s'.b.ah y=some r→r.bA=true→(aD b0.ah y).bA=true∨Mx (valOf aa b0.ab) b0 y) (hw:∀y∈s'.bj,Gz (valOf aa b0.ab) b0 y) (hn:∀y∈s'.bj,y∈s.bj∨Rc.az s'.b y=true)
  (hm:∀y,Rc.az s.b y=false→Rc.az s'.b y=true→y∈s'.bj∨¬Mx (valOf aa b0.ab) b0 y) (g:s'.bj.Nodup):Wy aa b0 s':=by
 have i:iU (valOf aa b0.ab) (fun _=>True) s'.bj s.b.ad s.b.ah s'.b.ah:=by rw [h.rev];exact c
 refine⟨h1.trans h.rev,e.trans h.aC,(h.ev.mono hr fun _ h=>h).trans c,f,hw,fun y hy=>?_,fun y hu j=>?_,g⟩
 ·
  rcases hn y hy with a | a
  ·
   exact i.az h1 (h.Lz y a)
  exact a
 cases d:Rc.az s.b y with
 | true=>exact(h.mrk y hu d).imp (hr y) id
 | false=>exact hm y d j
theorem Wy.uI(h:Wy aa b0 s) (hu:az s.b k=false):az b0 k=false:=by
 cases hb:az b0 k with
 | false=>rfl
 | true=>
  have:=h.ev.az h.rev hb
  rw [hu] at this
  cases this
theorem uJ(h:aA b.ah k=none):az b k=false:=by
 unfold az
 rw [h]
 rfl
theorem ji{r:Rec}(h:aA b.ah k=some r) (a:r.av<b.ad):az b k=false:=by grind [aR]
theorem Bi.answer(a:Bi aa H on b) (hk:dX aa k) (ht:ay k=true∨ax k=true∨az b k=true):bS (valOf aa b.ab) b k=valOf aa b.ab k:=by
 unfold bS
 by_cases hc:ax k=true
 ·
  rw [if_pos hc]
 rw [if_neg hc]
 unfold i1
 by_cases hi:ay k=true
 ·
  rw [if_pos hi]
  unfold valOf cellOf
  rw [if_pos hi]
 rw [if_neg hi]
 have hu:az b k=true:=by grind
 obtain⟨r,d,g,e⟩:=a.c.up hu
 have f:gq b k=true:=by grind [gq,aQ]
 rw [if_pos f,aQ d,e]
theorem qp(h:ep s k=true):ay k=true∨(s.on k=true∧ax k=true)∨az s.b k=true:=by
 unfold ep at h
 grind
theorem JH(h:ay k=true∨(s.on k=true∧ax k=true)∨az s.b k=true):ep s k=true:=by
 unfold ep
 grind
theorem Bi.len(a:Bi aa H on b):b.ah.length≤aa.length:=by
 have h1:(b.ah.map (·.key)).Nodup:=by
  refine List.pairwise_map.2 (a.st.imp fun {x y} h e=>?_);rw [e,iw] at h
  omega
 have c:=eK (S:=(List.range aa.length).map fun i:Nat=>aL aa (i:Int)) h1 fun x d=>by
  obtain⟨r,hr,rfl⟩:=List.mem_map.1 d;obtain⟨i,hi,e⟩:=a.kr r hr
  grind
 simpa using c
/-! ### the order of what is asked -/
theorem oi(c:aq aa) {aC:List cv}{i:Nat}(hi:i<aa.length) {a:Key}(d:a∈cG aa aC i):eT aa i a∧∀m:Nat,m<aa.length→a=aL aa (m:Int)→Lw aa m (nz aa i)∧∀b,Lw aa i b→Lw aa m b:=by grind [List.mem_iff_getElem?,pw,fI,Gt,nD,ko]
theorem HA(c:aq aa) {aC:List cv}{i:Nat}(hi:i<aa.length) (hr:aF aa i=true) {a:Key}(d:a∈cG aa aC i) (hc:ax a=true):∃j:Nat,j<aa.length∧a=aL aa (j:Int)∧fP aa i j:=by grind [List.mem_iff_getElem?,pw,fI,ek,nD,ko,jd,ij]
theorem sH(f:aq aa) (g:Bi aa H on b) {i:Nat}(hi:i<aa.length) (h:bU b.ah b.ad (aL aa (i:Int))=true) {x:Key}(hl:bM b.ah b.ad (aL aa (i:Int)) x):∃j:Nat,j<aa.length∧x=aL aa (j:Int)∧cU aa i j:=by
 have C:=f.len
 have step:∀(m:Nat) y,m<aa.length→bU b.ah b.ad (aL aa (m:Int))=true→Ld b.ah b.ad (aL aa (m:Int)) y→∃j:Nat,j<aa.length∧y=aL aa (j:Int)∧fP aa m j:=by
  intro m y hm o hy;obtain⟨r,h1,a,d,e⟩:=bK.1 o;obtain⟨q,g1,g2,_⟩:=bK.1 hy.2;have p:=hy.1;rw [aQ h1,(g.c.vr r (aJ h1).1).2,(aJ h1).2,fG f hm] at p
  grind [bd,HA]
 induction hl with
 | one h1=>
  obtain⟨j,a,d,e⟩:=step i _ hi h h1;exact⟨j,a,d,.step .refl e⟩
 | step h1 a u=>
  obtain⟨j,d,rfl,e⟩:=u;obtain⟨q,w,A,B⟩:=step j _ d h1.gC a;exact⟨q,w,A,.step e B⟩
theorem GB(a:aq aa) (d:Bi aa H on b) {i j:Nat}(hi:i<aa.length) (c:j<aa.length) (hl:Live b.ah b.ad (aL aa (i:Int))) (hm:aL aa (j:Int)∈aB b.ah b.ad (aL aa (i:Int))):nz aa j=nz aa i∧∀b,Lw aa i b→Lw aa j b:=by
 have u:=a.len
 rcases cA.1 hm with e | ⟨f,m1,m2⟩
 ·
  have:=dY a c hi e
  grind
 obtain⟨q,g,eq,h1⟩:=sH a d hi f m1
 have:=dY a c g eq
 subst this;obtain⟨p,h,m,o⟩:=sH a d c m1.gC m2
 have:=dY a hi h m
 subst this;have w:=kg a h1;have A:=kg a o;obtain⟨_,_,c1,_⟩:=bK.1 f;obtain⟨_,_,c2,_⟩:=bK.1 m1.gC;rw [bd hi (by omega)] at c1;rw [bd c (by omega)] at c2
 unfold nz Lw
 grind
end
/-! ### a request -/
section
variable {aa:List aG}{H:Int→List cv}{b0:cm}
structure Rs (aa:List aG) (H:Int→List cv) (b0:cm) (N:Key→Prop) (s s':ES):Prop where
 e:s'.e=0
 bi:Bi aa H s.AM s'.b
 ev:iU (valOf aa b0.ab) N s'.bj b0.ad s.b.ah s'.b.ah
 wy:Wy aa b0 s'
theorem Rs.refl{N:Key→Prop}{s:ES}(he:s.e=0) (a:Bi aa H s.AM s.b) (c:Wy aa b0 s):Rs aa H b0 N s s:=⟨he,a,.refl _,c⟩
theorem Rs.trans{N:Key→Prop}{s t u:ES}(h:Rs aa H b0 N s t) (a:Rs aa H b0 N t u) (hr:∀y∈t.bj,y∈u.bj) (c:∀k,t.on k=s.on k):Rs aa H b0 N s u:=
 ⟨a.e,a.bi.Mw fun k hk=>by grind [ES.AM],(h.ev.mono hr fun _ h=>h).trans a.ev,a.wy⟩
def Ps(aa:List aG) (H:Int→List cv) (b0:cm) (s:ES) (k:Key) (n:Nat):Prop:=
 Live s.b.ah s.b.ad k→∀j c,j<n→(bR s.b.ah (aB s.b.ah s.b.ad k))[j]?=some c→
  valOf aa (H (aD s.b.ah c.dC).av) c.read=valOf aa b0.ab c.read∧(ay c.read=true∨(s.on c.read=true∧ax c.read=true)∨az s.b c.read=true)∧aV (valOf aa b0.ab) b0 c.read≤(aD s.b.ah c.dC).av
theorem uK{val:Key→ByteArray}:∀f,(∀s k s',kV aa val f s k=some s'→∀y∈s.bj,y∈s'.bj)∧(∀s k n s' b,cP aa val f s k n=some (s',b)→∀y∈s.bj,y∈s'.bj)∧(∀s k r a s',gQ aa val f s k r a=some s'→∀y∈s.bj,y∈s'.bj):=by
 intro f
 induction f with
 | zero=>grind [kV,cP,gQ]
 | succ f c=>
  obtain⟨g,d,i⟩:=c;refine⟨?_,?_,?_⟩
  ·
   intro s k s' h y hy
   unfold kV at h
   split at h
   ·
    cases h;exact hy
   split at h
   ·
    cases h;exact hy
   split at h
   ·
    grind
   obtain⟨p,e,h⟩:=Option.bind_eq_some_iff.1 h;obtain⟨t,ht,h⟩:=Option.bind_eq_some_iff.1 h
   cases h
   have h1:=d _ _ _ p.1 p.2 e y hy
   grind
  ·
   grind [cP,Option.bind_eq_some_iff]
  grind [gQ,Option.bind_eq_some_iff]
def UpR(aa:List aG) (H:Int→List cv) (b0:cm) (f:Nat):Prop:=∀s k s',kV aa (valOf aa b0.ab) f s k=some s'→Good aa b0.ab s→s.e=0→Bi aa H s.AM s.b→Wy aa b0 s→dX aa k→(∀i:Nat,i<aa.length→k=aL aa (i:Int)→acJ aa s i)→Rs aa H b0 (fun y=>s.on y=false) s s'
def ChR(aa:List aG) (H:Int→List cv) (b0:cm) (f:Nat):Prop:=∀s (i n:Nat) s' c,cP aa (valOf aa b0.ab) f s (aL aa (i:Int)) n=some (s',c)→Good aa b0.ab s→s.e=0→Bi aa H s.AM s.b→Wy aa b0 s→i<aa.length→s.on (aL aa (i:Int))=true→UX aa s i→Ps aa H b0 s (aL aa (i:Int)) n→
 Rs aa H b0 (fun y=>s.on y=false∨y=aL aa (i:Int)) s s'∧(c=true→bU s'.b.ah b0.ad (aL aa (i:Int))=false∧az s'.b (aL aa (i:Int))=false∧Gz (valOf aa b0.ab) b0 (aL aa (i:Int)))
def RuR(aa:List aG) (H:Int→List cv) (b0:cm) (f:Nat):Prop:=∀s (i n:Nat) s',gQ aa (valOf aa b0.ab) f s (aL aa (i:Int)) (dT (cx aa (aL aa (i:Int))) (valOf aa b0.ab) n).1 (dT (cx aa (aL aa (i:Int))) (valOf aa b0.ab) n).2=some s'→Good aa b0.ab s→s.e=0→Bi aa H s.AM s.b→Wy aa b0 s→i<aa.length→n≤cJ aa i→s.on (aL aa (i:Int))=true→UX aa s i→
 bU s.b.ah b0.ad (aL aa (i:Int))=false→az s.b (aL aa (i:Int))=false→Gz (valOf aa b0.ab) b0 (aL aa (i:Int))→(∀a∈(dT (cx aa (aL aa (i:Int))) (valOf aa b0.ab) n).1,ep s a=true)→
 Rs aa H b0 (fun y=>s.on y=false∨y=aL aa (i:Int)) s s'
theorem Bi.jx{s t:ES}(h:Bi aa H s.AM t.b) (hk:iF s t):Bi aa H t.AM t.b:=h.Mw fun k a=>by grind [ES.AM,iF.on]
theorem UX.jx{s t:ES}{i:Nat}(h:UX aa s i) (hk:iF s t):UX aa t i:=fun j a c=>h j a (by rw [← hk.on];exact c)
theorem Rs.mono{N N':Key→Prop}{s s':ES}(h:Rs aa H b0 N s s') (a:∀y,N y→N' y):Rs aa H b0 N' s s':=⟨h.e,h.bi,h.ev.mono (fun _ h=>h) a,h.wy⟩
theorem sJ(rev:Int) (G:List Key) (r:Rec):(a7 rev G false r).bA=r.bA:=by
 unfold a7
 grind
theorem yY(A:aq aa):∀f,UpR aa H b0 f∧ChR aa H b0 f∧RuR aa H b0 f:=by
 have Hm:=A.len;intro f
 induction f with
 | zero=>exact⟨fun s k s' h=>by simp [kV] at h,fun s i n s' c h=>by simp [cP] at h,fun s i n s' h=>by simp [gQ] at h⟩
 | succ f ih=>
  obtain⟨ihu,ihc,ihr⟩:=ih;have gd:=cy (val:=valOf aa b0.ab) (aC:=b0.ab) A f;have Z:=iy (val:=valOf aa b0.ab) (aC:=b0.ab) A f;have rn:=uK (aa:=aa) (val:=valOf aa b0.ab) f;refine⟨?_,?_,?_⟩
  ·
   intro s k s' h C he g d hk Iy
   unfold kV at h
   split at h
   ·
    cases h;exact .refl he g d
   rename_i he2
   have O:ay k=false:=by simp at he2;exact he2.2
   split at h
   ·
    cases h;exact .refl he g d
   rename_i hu
   obtain⟨i,hi,rfl,_⟩:=hk.gL O
   split at h
   ·
    rename_i ho
    split at h
    ·
     cases h;exact .refl he g d
    rename_i hc
    have h1:=Iy i hi rfl i hi ho
    grind [bd,Lw,nz]
   rename_i ho
   have Lu:s.on (aL aa (i:Int))=false:=by simpa using ho
   obtain⟨⟨s2,c2⟩,I,h⟩:=Option.bind_eq_some_iff.1 h;obtain⟨s3,ht,h⟩:=Option.bind_eq_some_iff.1 h;simp only [Option.some.injEq] at h;subst h;have QW:∀y,ES.on {s with busy:=cL s.busy (aL aa (i:Int)) (.bool true)} y=(decide (aL aa (i:Int)=y) || s.on y):=fun y=>nv s _ y;have Iz:=C.on (aL aa (i:Int))
   generalize mz:({s with busy:=cL s.busy (aL aa (i:Int)) (.bool true)}:ES)=s1 at I QW Iz
   have e1:s1.b=s.b:=by rw [← mz]
   have e2:s1.bj=s.bj:=by rw [← mz]
   have e3:s1.e=0:=by rw [← mz];exact he
   have V7:s1.on (aL aa (i:Int))=true:=by rw [QW];simp
   have hB1:Bi aa H s1.AM s1.b:=by
    rw [e1];refine g.Mw fun y hy=>?_
    unfold ES.AM at hy ⊢
    grind
   have hW1:Wy aa b0 s1:=⟨by rw [e1];exact d.rev,by rw [e1];exact d.aC,by rw [e1,e2];exact d.ev,by rw [e1];exact d.Ly,by rw [e2];exact d.bj,by rw [e1,e2];exact d.Lz,by rw [e1,e2];exact d.mrk,by rw [e2];exact d.j5⟩
   have OO:UX aa s1 i:=fun j u E=>by
    rw [QW] at E;simp only [Bool.or_eq_true,decide_eq_true_eq] at E
    rcases E with E | E
    ·
     exact .inl (dY A u hi E.symm)
    exact .inr (Iy i hi rfl j u E)
   obtain⟨c1,c3⟩:=ihc s1 i 0 s2 c2 I Iz e3 hB1 hW1 hi V7 OO fun _ j c u=>by omega
   obtain⟨k1,k2,_⟩:=Z.2.1 _ _ _ _ _ I Iz;have UY:=(gd.2.1 _ _ _ _ _ I Iz).1
   have key:Rs aa H b0 (fun y=>s1.on y=false∨y=aL aa (i:Int)) s1 s3∧az s3.b (aL aa (i:Int))=true:=by
    cases c2 with
    | false=>
     simp only [Bool.false_eq_true,if_false,Option.some.injEq] at ht;subst ht;exact⟨c1,(k2 c1.e).2 rfl⟩
    | true=>
     simp only [if_true] at ht;obtain⟨d1,d2,d3⟩:=c3 rfl
     have r2:=ihr s2 i 0 s3 ht UY c1.e (c1.bi.jx k1) c1.wy hi (Nat.zero_le _) (by rw [k1.on];exact V7) (OO.jx k1) d1 d2 d3 fun a w=>by simp [dT] at w
     refine⟨c1.trans (r2.mono fun y hy=>by rw [← k1.on];exact hy) (rn.2.2 _ _ _ _ _ ht) k1.on,?_⟩;exact((Z.2.2 _ _ _ _ _ ht UY (hk.gL O)).2.1 r2.e).2
   obtain⟨r3,hu3⟩:=key;refine⟨r3.e,?_,?_,⟨r3.wy.rev,r3.wy.aC,r3.wy.ev,r3.wy.Ly,r3.wy.bj,r3.wy.Lz,r3.wy.mrk,r3.wy.j5⟩⟩
   ·
    refine r3.bi.off hu3 fun y hy=>?_
    unfold ES.AM at hy ⊢
    grind
   have:=r3.ev
   rw [e1] at this;refine this.mono (fun _ h=>h) fun y hy=>?_
   grind
  ·
   intro s i n s' c h C he g d hi U P Q;have O:ay (aL aa (i:Int))=false:=dj hi (by omega)
   unfold cP at h
   rw [if_neg (by simp [he])] at h
   split at h
   ·
    rename_i hc
    simp only [Option.some.injEq,Prod.mk.injEq] at h;obtain⟨rfl,rfl⟩:=h;refine⟨.refl he g d,fun _=>?_⟩
    cases o:aA s.b.ah (aL aa (i:Int)) with
    | none=>
     refine⟨?_,uJ o,O,d.uI (uJ o),.inl (d.none o)⟩;rw [Bool.eq_false_iff]
     grind [bK]
    | some r=>
     rw [o,aQ o] at hc
     have B:r.bA=true:=by simpa using hc
     have V:=g.dv r (aJ o).1 B;refine⟨?_,ji o V,O,d.uI (ji o V),.inr (d.Ly _ r o B)⟩;rw [Bool.eq_false_iff]
     grind [bK]
   rename_i hc
   split at h
   ·
    simp only [Option.some.injEq,Prod.mk.injEq] at h;obtain⟨rfl,rfl⟩:=h;exact⟨.refl he g d,fun e=>by cases e⟩
   rename_i V
   have hl:Live s.b.ah s.b.ad (aL aa (i:Int)):=by
    cases o:aA s.b.ah (aL aa (i:Int)) with
    | none=>rw [o] at hc;simp at hc
    | some r=>
     rw [o,aQ o] at hc;rw [aQ o] at V;have h1:=(g.c.Ep r (aJ o).1).1;exact⟨r,o,by simpa using hc,by omega⟩
   have Q:=Q hl
   have V8:az s.b (aL aa (i:Int))=false:=by
    obtain⟨r,h1,_,R⟩:=hl;exact ji h1 R
   split at h
   ·
    rename_i hn
    simp only [Option.some.injEq,Prod.mk.injEq] at h;obtain⟨rfl,rfl⟩:=h
    have I:∀m∈aB s.b.ah s.b.ad (aL aa (i:Int)),∀a∈(aD s.b.ah m).reads,a∉aB s.b.ah s.b.ad (aL aa (i:Int))→valOf aa (H (aD s.b.ah m).av) a=valOf aa s.b.ab a∧(ay a=true∨(s.AM a=true∧ax a=true)∨az s.b a=true):=fun m hm a w W=>by
     have rI:(⟨m,a⟩:ob)∈bR s.b.ah (aB s.b.ah s.b.ad (aL aa (i:Int))):=dr.2 ⟨hm,w,W⟩;obtain⟨j,u⟩:=List.mem_iff_getElem?.1 rI;have h1:=(List.getElem?_eq_some_iff.1 u).1;have R:=List.getElem?_eq_none_iff.1 hn;have h3:=Q j ⟨m,a⟩ (by omega) u;rw [d.aC];exact⟨h3.1,h3.2.1.imp id (Or.imp (fun p=>⟨Es p,p.2⟩) id)⟩
    have yG:=d.OM hl fun m hm a w W=>by
     have rI:(⟨m,a⟩:ob)∈bR s.b.ah (aB s.b.ah s.b.ad (aL aa (i:Int))):=dr.2 ⟨hm,w,W⟩;obtain⟨j,u⟩:=List.mem_iff_getElem?.1 rI;have h1:=(List.getElem?_eq_some_iff.1 u).1;have R:=List.getElem?_eq_none_iff.1 hn;exact(Q j ⟨m,a⟩ (by omega) u).2.2
    have D:∀N:Key→Prop,N (aL aa (i:Int))→iU (valOf aa b0.ab) N s.bj b0.ad s.b.ah (cH s.b (aB s.b.ah s.b.ad (aL aa (i:Int))) false).ah:=fun N hN=>by
     rw [← d.rev];exact iU.mark hl false (.inr hN)
    refine⟨⟨he,g.mark A hl I,D _ (.inr rfl),d.step rfl rfl (D _ trivial) (fun _ h=>h) (fun y r' o B=>?_) d.bj (fun _ h=>.inl h) (fun y hu Et=>.inr (yG y (GA hu Et))) d.j5⟩,fun e=>by cases e⟩;have J:(aA s.b.ah y).map (a7 s.b.ad (aB s.b.ah s.b.ad (aL aa (i:Int))) false)=some r':=bY.symm.trans o;obtain⟨r,hr,rfl⟩:=Option.map_eq_some_iff.1 J;rw [sJ] at B;exact d.Ly y r hr B
   rename_i c0 hc0
   obtain⟨hm,w,W⟩:=dr.1 (List.mem_of_getElem? hc0);obtain⟨j,u,ej⟩:=g.key (jX hl hm);obtain⟨rm,g1,g2,g3⟩:=jX hl hm;have K:dX aa c0.read:=fT C hc0
   split at h
   ·
    obtain⟨t,ht,h⟩:=Option.bind_eq_some_iff.1 h
    have B3:=oi A (aC:=H rm.av) u (a:=c0.read) (by
     have h1:=(g.c.vr rm (aJ g1).1).2;rw [(aJ g1).2,ej,fG A u] at h1
     grind [aQ])
    have r1:=ihu s c0.read t ht C he g d K fun q hq eq p I hpo=>by
     obtain⟨F,h5⟩:=B3.2 q hq eq;obtain⟨g4,g5⟩:=GB A g hi u hl (ej ▸ hm)
     rcases P p I hpo with rfl | h6
     ·
      rw [← g4];exact F
     exact h5 _ (g5 _ h6)
    obtain⟨k1,_,_⟩:=Z.1 _ _ _ ht C K;have gt:=(gd.1 _ _ _ ht C K).1;have e1:t.b.ad=s.b.ad:=r1.wy.rev.trans d.rev.symm
    have D:iU (valOf aa b0.ab) (fun y=>s.on y=false) t.bj s.b.ad s.b.ah t.b.ah:=by
     rw [d.rev];exact r1.ev
    obtain⟨r2,r3⟩:=ihc t i n s' c h gt r1.e (r1.bi.jx k1) r1.wy hi (by rw [k1.on];exact U) (P.jx k1) fun G X Y hjn M=>by
     rw [e1] at G M;rw [D.JG G] at M;obtain⟨p1,p2,p3⟩:=Q X Y hjn M;have hm':=(dr.1 (List.mem_of_getElem? M)).1
     have e3:aD t.b.ah Y.dC=aD s.b.ah Y.dC:=by
      unfold aD
      rw [(D.group G).2 _ hm']
     rw [e3];refine⟨p1,?_,p3⟩
     rcases p2 with p | p | p
     ·
      exact .inl p
     ·
      grind [iF.on]
     exact .inr (.inr (k1.up _ p))
    exact⟨(r1.mono fun y hy=>.inl hy).trans (r2.mono fun y hy=>by rw [← k1.on];exact hy) (rn.2.1 _ _ _ _ _ h) k1.on,r3⟩
   rename_i Ml
   have QX:=qp (s:=s) (k:=c0.read) (by simpa using Ml)
   split at h
   ·
    rename_i G
    have JI:=d.QV g hl hm w W G;have Eu:Gz (valOf aa b0.ab) b0 (aL aa (i:Int)):=⟨O,d.uI V8,.inr (.inr (JI _ fq))⟩;simp only [Option.some.injEq,Prod.mk.injEq] at h;obtain⟨h,rfl⟩:=h
    cases JJ:ax (aL aa (i:Int)) with
    | false=>
     rw [JJ] at h;simp only [Bool.false_eq_true,if_false] at h;subst h;refine⟨.refl he g d,fun _=>⟨?_,V8,Eu⟩⟩;rw [Bool.eq_false_iff]
     grind [bK]
    | true=>
     rw [JJ] at h;simp only [if_true] at h;subst h
     have D:∀N:Key→Prop,iU (valOf aa b0.ab) N s.bj b0.ad s.b.ah (cH s.b (aB s.b.ah s.b.ad (aL aa (i:Int))) true).ah:=fun N=>by
      rw [← d.rev];exact iU.mark hl true (.inl JJ)
     obtain⟨r,f1,f2,f3⟩:=hl
     have hfk:aA (cH s.b (aB s.b.ah s.b.ad (aL aa (i:Int))) true).ah (aL aa (i:Int))=some {r with bA:=true}:=by
      refine bY.trans ?_;rw [f1]
      show some (a7 _ _ _ r)=_
      unfold a7
      rw [if_pos (by rw [(aJ f1).2];exact fq)]
      rfl
     refine⟨⟨he,g.bA fun m hm=>jX ⟨r,f1,f2,f3⟩ hm,D _,d.step rfl rfl (D _) (fun _ h=>h) (fun y r' o B=>?_) d.bj (fun _ h=>.inl h) (fun y hu Et=>by grind [lM]) d.j5⟩,fun _=>⟨?_,ji hfk f3,Eu⟩⟩
     ·
      have J:(aA s.b.ah y).map (a7 s.b.ad (aB s.b.ah s.b.ad (aL aa (i:Int))) true)=some r':=bY.symm.trans o;obtain⟨q,hq,rfl⟩:=Option.map_eq_some_iff.1 J
      by_cases hy:y∈aB s.b.ah s.b.ad (aL aa (i:Int))
      ·
       exact .inr (JI y hy)
      unfold a7 at B
      rw [if_neg (by rw [(aJ hq).2];exact hy)] at B;exact d.Ly y q hq B
     rw [Bool.eq_false_iff]
     grind [bK]
   rename_i hle
   refine ihc s i (n+1) s' c h C he g d hi U P fun _ X Y hjn M=>?_
   rcases Nat.lt_or_ge X n with G | IA
   ·
    exact Q X Y G M
   have:X=n:=by omega
   subst this;rw [hc0] at M
   have:=Option.some.inj M
   subst this;refine⟨?_,QX,by rw [← d.changed g c0.read];exact Int.not_lt.1 hle⟩;rw [aQ g1] at hle w ⊢;have h1:=g.c.changed (aJ g1).1 g3 w (by rw [d.aC];omega)
   grind [Wy.aC]
  intro s i n s' h C he g d hi hn U P V9 wH Eu Ml
  have jo:i≤99:=by omega
  unfold gQ at h
  rw [if_neg (by simp [he]),dU hi jo] at h
  rcases Nat.lt_or_ge n (cJ aa i) with G | IA
  ·
   obtain⟨a,h1,R,h3⟩:=Gt A hi (ae:=(dT (cx aa (aL aa (i:Int))) (valOf aa b0.ab) n).2) (by grind [gA]);rw [h1] at h;simp only [Bool.false_eq_true,if_false] at h;obtain⟨t,ht,h⟩:=Option.bind_eq_some_iff.1 h;have K:=R.Ix A
   have r1:=ihu s a t ht C he g d K fun m hm ham j u E=>by
    obtain⟨F,h5⟩:=h3 m hm ham
    rcases P j u E with rfl | h6
    ·
     exact F
    exact h5 _ h6
   obtain⟨k1,k2,_⟩:=Z.1 _ _ _ ht C K;have gt:=(gd.1 _ _ _ ht C K).1
   have IB:ep t a=true:=by grind [Rs.e,JH]
   have QY:bS (valOf aa b0.ab) t.b a=valOf aa b0.ab a:=by
    rw [← r1.wy.aC];refine r1.bi.answer K ?_
    rcases qp IB with F | F | F
    ·
     exact .inl F
    ·
     exact .inr (.inl F.2)
    exact .inr (.inr F)
   rw [if_pos r1.e,QY] at h
   have uL:aA t.b.ah (aL aa (i:Int))=aA s.b.ah (aL aa (i:Int)):=by
    rcases r1.ev.pt (aL aa (i:Int)) with e | ⟨e0,r,e1,e2,e3,_⟩ | ⟨⟨_,e0⟩,_⟩
    ·
     exact e
    ·
     grind [bK]
    grind
   have r2:=ihr t i (n+1) s' (by grind [dT]) gt r1.e (r1.bi.jx k1) r1.wy hi G (by rw [k1.on];exact U) (P.jx k1) (by grind [bU,aD]) (by
    rw [← wH]
    unfold az aD
    rw [uL,r1.wy.rev,d.rev]) Eu (fun x T=>by
    simp only [dT] at T;rw [h1] at T
    rcases List.mem_append.1 T with T | T
    ·
     exact k1.there (Ml x T)
    grind)
   exact(r1.mono fun y hy=>.inl hy).trans (r2.mono fun y hy=>by rw [← k1.on];exact hy) (rn.2.2 _ _ _ _ _ h) k1.on
  have Bg:n=cJ aa i:=by omega
  subst Bg;rw [fF A hi] at h;simp only [if_true] at h;rw [if_neg (by have:=g.len;simp;omega)] at h;simp only [Option.some.injEq] at h;subst h;have Wa:∀a∈cG aa b0.ab i,ay a=true∨(s.on a=true∧ax a=true)∨az s.b a=true:=fun a w=>qp (Ml a w);have OP:=g.put A hi (fun hc=>Es ⟨U,hc⟩) (by rw [d.aC];exact fun a w=>(Wa a w).imp id (Or.imp (fun p=>⟨Es p,p.2⟩) id));rw [d.aC] at OP
  have D:∀N:Key→Prop,N (aL aa (i:Int))→iU (valOf aa b0.ab) N (s.bj++[aL aa (i:Int)]) b0.ad s.b.ah (eh s.b.ah (bF s.b (aL aa (i:Int)) (valOf aa b0.ab (aL aa (i:Int))) (cG aa b0.ab i))):=fun N hN=>by
   refine iU.put V9 (fun r hr=>?_) ⟨by simp [bF],hN⟩ d.rev rfl rfl (fun r hr=>?_) fun hn=>?_
   ·
    have h1:=(g.c.Ep r (aJ hr).1).1
    have R:r.av≠s.b.ad:=fun e=>by
     have:az s.b (aL aa (i:Int))=true:=aR.2 ⟨r,hr,e⟩
     grind
    have:=d.rev
    omega
   ·
    have JK:aA s.b.ah (aL aa (i:Int))=some r:=hr
    unfold bF
    simp only [JK,aQ JK,d.rev]
    grind
   grind [bF,Wy.rev]
  refine⟨he,by show Bi aa H s.AM ⟨s.b.ad,s.b.ab,_⟩;rw [d.aC];exact OP,D _ (.inr rfl),d.step rfl rfl (D _ trivial) (fun y hy=>by simp [hy]) (fun y r o B=>?_) (fun y hy=>?_) (fun y hy=>?_) (fun y hu Et=>?_) (xV d.j5 fun hr=>by have:=d.Lz _ hr;rw [wH] at this;cases this)⟩
  ·
   have J:aA (eh s.b.ah (bF s.b (aL aa (i:Int)) (valOf aa b0.ab (aL aa (i:Int))) (cG aa b0.ab i))) y=some r:=o;rw [cN] at J
   split at J
   ·
    have:=Option.some.inj J
    subst this
    cases B
   exact d.Ly y r J B
  ·
   rcases List.mem_append.1 hy with hy | hy
   ·
    exact d.bj y hy
   grind
  ·
   rcases List.mem_append.1 hy with hy | hy
   ·
    exact .inl hy
   rw [List.mem_singleton] at hy;rw [hy];exact .inr (jg (r:=bF s.b (aL aa (i:Int)) (valOf aa b0.ab (aL aa (i:Int))) (cG aa b0.ab i)) rfl)
  refine .inl ?_
  by_cases e:y=aL aa (i:Int)
  ·
   rw [e]
   simp
  obtain⟨r,hr,V⟩:=aR.1 Et;have JK:aA (eh s.b.ah (bF s.b (aL aa (i:Int)) (valOf aa b0.ab (aL aa (i:Int))) (cG aa b0.ab i))) y=some r:=hr;rw [cN,if_neg (show ¬y=(bF s.b (aL aa (i:Int)) (valOf aa b0.ab (aL aa (i:Int))) (cG aa b0.ab i)).key from e)] at JK
  grind [aR]
theorem GC{val:Key→ByteArray}{f:Nat}:∀{l:List Key}{s s':ES},dK aa val f s l=some s'→∀y∈s.bj,y∈s'.bj
 | [],s,s',h,y,hy=>by grind [dK]
 | k::r,s,s',h,y,hy=>by
  simp only [dK] at h;obtain⟨t,h1,a⟩:=Option.bind_eq_some_iff.1 h;exact GC a y ((uK f).1 _ _ _ h1 y hy)
theorem xW(g:aq aa) {f:Nat}:∀{l:List Key}{s s':ES},dK aa (valOf aa b0.ab) f s l=some s'→Good aa b0.ab s→s.e=0→Bi aa H s.AM s.b→Wy aa b0 s→(∀k∈l,dX aa k)→(∀k,s.on k=false)→Rs aa H b0 (fun _=>True) s s'∧(∀k,s'.on k=false)∧(∀k,az s.b k=true→az s'.b k=true)∧∀k∈l,ay k=false→az s'.b k=true
 | [],s,s',h,m,he,p,u,_,c=>by
  simp only [dK,Option.some.injEq] at h;subst h;exact⟨.refl he p u,c,fun _ h=>h,fun k hk=>by cases hk⟩
 | k::r,s,s',h,m,he,p,u,hk,c=>by
  simp only [dK] at h;obtain⟨t,h1,C⟩:=Option.bind_eq_some_iff.1 h;have w:=hk k (by simp);have F:=((cy (val:=valOf aa b0.ab) g f).1 _ _ _ h1 m w).1;obtain⟨d,kt,_⟩:=(iy (val:=valOf aa b0.ab) g f).1 _ _ _ h1 m w
  have r1:=(yY (H:=H) (b0:=b0) g f).1 s k t h1 m he p u w fun i _ _ j _ D=>by rw [c] at D;cases D
  obtain⟨r2,G,E,g2⟩:=xW g C F r1.e (r1.bi.jx d) r1.wy (fun k I=>hk k (by simp [I])) fun k=>by rw [d.on];exact c k
  have J:=GC C;refine⟨(r1.mono fun _ _=>trivial).trans r2 J d.on,G,fun y hy=>E y (d.up y hy),fun q A B=>?_⟩
  rcases List.mem_cons.1 A with rfl | A
  ·
   refine E _ ?_
   rcases(kt r1.e).2 with o | o
   ·
    rw [B] at o
    cases o
   rcases qp o with a | a | a
   ·
    rw [B] at a
    cases a
   ·
    rw [d.on,c] at a
    cases a.1
   exact a
  exact g2 q A B
end
end Go.Rc

namespace Go.Rc
open Go
def Bh(aa:List aG) (b:cm):Prop:=∃H:Int→List cv,Bi aa H (fun _=>false) b
section
variable {aa:List aG}{H:Int→List cv}{on:Key→Bool}{x y b:cm}{k:Key}
theorem Bh.new(aa:List aG) (rev:Int) (aC:List cv):Bh aa ⟨rev,aC,[]⟩:=
 ⟨fun _=>aC,⟨⟨rfl,fun _ _ _ _ _=>rfl,fun r hr=>(by cases hr),fun r hr=>(by cases hr),fun r hr=>(by cases hr),fun r hr=>(by cases hr)⟩,List.Pairwise.nil,fun r hr=>(by cases hr),fun r hr=>(by cases hr)⟩⟩
theorem Bi.drop(h:Bi aa H on b) {rs:List Rec}(d:rs.Sublist b.ah) (o:∀r∈rs,on r.key=false):Bi aa H (fun _=>false) {b with ah:=rs}:=by
 have j:pT rs:=h.st.sublist d
 have g:∀a ra,aA rs a=some ra→aA b.ah a=some ra:=fun a ra e=>by
  obtain⟨h1,i⟩:=aJ e
  grind [ib,st]
 refine⟨⟨h.c.now,h.c.eQ,fun r hr=>h.c.Ep r (d.subset hr),fun r hr=>h.c.vr r (d.subset hr),fun r hr a f hi ra e=>?_,fun r hr hc a f hi ra e=>?_⟩,j,fun r hr=>h.kr r (d.subset hr),fun r hr=>h.dv r (d.subset hr)⟩
 ·
  rcases h.c.rr r (d.subset hr) a f hi ra (g a ra e) with⟨_,h1⟩ | h1
  ·
   obtain⟨i,m⟩:=aJ e
   grind
  exact .inr h1
 rcases h.c.rs r (d.subset hr) hc a f hi ra (g a ra e) with⟨_,h1⟩ | h1
 ·
  obtain⟨i,m⟩:=aJ e
  grind
 exact .inr h1
theorem Bh.drop(h:Bh aa b) {rs:List Rec}(a:rs.Sublist b.ah):Bh aa {b with ah:=rs}:=by
 obtain⟨H,h⟩:=h;exact⟨H,h.drop a fun _ _=>rfl⟩
theorem Bh.apply(h:Bh aa x) (hr:y.ah=x.ah) (m:y.ad=x.ad+1) (hk:∀k,bz y.ab k=bz x.ab k∨(bz y.ab k).changed=y.ad):Bh aa y:=by
 obtain⟨H,h⟩:=h;have hH:∀t,t≤x.ad→(if t≤x.ad then H t else y.ab)=H t:=fun t ht=>if_pos ht;refine⟨fun t=>if t≤x.ad then H t else y.ab,⟨⟨?_,fun k t hi h1 f=>?_,fun r d=>?_,fun r d=>?_,fun r d a i hi ra g=>?_,fun r d hc a i hi ra g=>?_⟩,by rw [hr];exact h.st,by rw [hr];exact h.kr,fun r d j=>?_⟩⟩
 ·
  grind
 ·
  by_cases ht:t≤x.ad
  ·
   show cellOf (if t≤x.ad then H t else y.ab) k=_
   rw [if_pos ht]
   rcases hk k with e | e
   ·
    rw [e] at h1;rw [h.c.eQ k t hi h1 ht]
    unfold cellOf
    rw [e]
   omega
  grind
 ·
  rw [hr] at d
  have:=h.c.Ep r d
  omega
 ·
  rw [hr] at d;have h1:=h.c.Ep r d;rw [hH _ h1.1];exact h.c.vr r d
 ·
  rw [hr] at d g;have h1:=h.c.Ep r d;rw [hH _ h1.1]
  rcases h.c.rr r d a i hi ra g with⟨_,f⟩ | f
  ·
   cases f
  exact .inr f
 ·
  rw [hr] at d g
  rcases h.c.rs r d hc a i hi ra g with⟨_,f⟩ | f
  ·
   cases f
  exact .inr f
 rw [hr] at d
 have:=h.dv r d j
 omega
theorem Wy.start(b:cm):Wy aa b ⟨b,[],[],0⟩:=⟨rfl,rfl,.refl _,fun y r c d=>.inl (by rw [aQ c];exact d),fun y hy=>(by cases hy),fun y hy=>(by cases hy),fun y h1 a=>(by rw [h1] at a;cases a),List.nodup_nil⟩
theorem Bh.request(d:aq aa) (h:Bh aa b) {f:Nat}{l:List Key}{s':ES}(g:Good aa b.ab ⟨b,[],[],0⟩) (hk:∀k∈l,dX aa k) (i:dK aa (valOf aa b.ab) f ⟨b,[],[],0⟩ l=some s') :
  s'.e=0∧Bh aa s'.b∧Wy aa b s'∧(∀k,az b k=true→az s'.b k=true)∧(∀k∈l,ay k=false→az s'.b k=true)∧∀r∈s'.b.ah,r.av=s'.b.ad→r.value=valOf aa b.ab r.key:=by
 obtain⟨H,h⟩:=h;have j:Wy aa b ⟨b,[],[],0⟩:=Wy.start b
 obtain⟨h1,u,m,o⟩:=xW (H:=H) (b0:=b) d i g rfl (h.Mw fun k hk=>by cases hk) j hk fun k=>rfl
 have a:Bi aa H (fun _=>false) s'.b:=h1.bi.Mw fun k hk=>by grind [ES.AM,ES.on,bD]
 refine⟨h1.e,⟨H,a⟩,h1.wy,m,o,fun r hr p=>?_⟩;rw [(a.c.vr r hr).1,p,a.c.now,h1.wy.aC]
end
end Go.Rc

