/- Base of the proof: frames, memory, ownership, and the plain meaning of rule systems. Conditions: as each lemma says. -/
import Derived.Test.YtilldnlhckpbjaaGreatDoorEBf
set_option linter.all false
namespace Go.Rc
open Go
section
variable {aa:List aD}{aA nM:List cj}
theorem ry(c:ao aa) {i:Nat}(hi:i<aa.length) (h:∀a∈cO aa aA i,valOf aa aA a=valOf aa nM a):cO aa nM i=cO aa aA i∧valOf aa nM (aH aa (i:Int))=valOf aa aA (aH aa (i:Int)):=by
 have e:dG (ca aa (aH aa (i:Int))) (valOf aa aA) (cy aa i)=dG (ca aa (aH aa (i:Int))) (valOf aa nM) (cy aa i):=qW _ fun m hm=>h _ (List.mem_of_getElem? (j6 hm))
 refine⟨?_,?_⟩
 ·
  unfold cO
  rw [e]
 have h1:=fL (aA:=aA) c hi;have d:=fL (aA:=nM) c hi
 grind
theorem pq(a:ao aa) {G:Nat→Prop}(c:∀j,G j→j<aa.length∧ax aa j=true) (h:∀j,G j→∀r x,aa[j]?=some r→x∈r.asks→(∀m,G m→bw aa x≠aH aa (m:Int))→valOf aa aA (bw aa x)=valOf aa nM (bw aa x)) {j:Nat}(p:G j) (b:Nat) (hb:(rv aa aA j).testBit b=true):(rv aa nM j).testBit b=true:=by
 obtain⟨g,i⟩:=c j p;obtain⟨n,hn,u⟩:=(dq a g i b).1 hb
 have key:∀n,cv aa j n→(G n∧cv aa j n)∨∃(m:Nat) (x:Ask) (r:aD) (q:Nat),G m∧cv aa j m∧aa[m]?=some r∧x∈r.asks∧bw aa x=aH aa (q:Int)∧¬G q∧eC aa m q∧cv aa q n:=by
  intro n hn
  induction hn with
  | refl=>exact .inl ⟨p,.refl⟩
  | @step m q hm d B=>
   rcases B with⟨g1,g2⟩ | ⟨m2,x,r,C,g1,g2,g3,g4,g5,g6,g7,g8⟩
   ·
    by_cases v:G q
    ·
     exact .inl ⟨v,.step g2 d⟩
    obtain⟨x,f,_,hk⟩:=mM (c m g1).1 d;exact .inr ⟨m,x,_,q,g1,g2,ae (c m g1).1,f,hk,v,d,.refl⟩
   exact .inr ⟨m2,x,r,C,g1,g2,g3,g4,g5,g6,g7,.step g8 d⟩
 rcases key n hn with⟨g1,g2⟩ | ⟨m,x,r,q,g1,g2,g3,g4,g5,g6,g7,g8⟩
 ·
  obtain⟨o,J⟩:=c n g1;refine(dq a g i b).2 ⟨n,g2,?_⟩
  rcases(dW o b).1 u with h1 | ⟨x,f,D,h1⟩
  ·
   grind [dW]
  refine(dW o b).2 (.inr ⟨x,f,D,?_⟩);rw [← h n g1 _ x (ae o) f fun m hm e=>?_]
  ·
   exact h1
  grind [gA,bd,ao.len]
 have w:=g7.lt.2.1;have A:=g7.lt.2.2.2;have h1:(rv aa aA q).testBit b=true:=(dq a w A b).2 ⟨n,g8,u⟩
 have K:=h m g1 r x g3 g4 fun m2 L e=>by grind [dh]
 have E:rv aa aA q=rv aa nM q:=by grind [CB]
 rw [E] at h1;obtain⟨n2,F,I⟩:=(dq a w A b).1 h1;exact(dq a g i b).2 ⟨n2,(cv.step g2 g7).trans F,I⟩
theorem zJ(d:ao aa) {G:Nat→Prop}(c:∀j,G j→j<aa.length∧ax aa j=true) (h:∀j,G j→∀r x,aa[j]?=some r→x∈r.asks→(∀m,G m→bw aa x≠aH aa (m:Int))→valOf aa aA (bw aa x)=valOf aa nM (bw aa x)) {j:Nat}(a:G j):valOf aa aA (aH aa (j:Int))=valOf aa nM (aH aa (j:Int)):=by
 obtain⟨i,n⟩:=c j a
 have e:rv aa aA j=rv aa nM j:=by
  apply Nat.eq_of_testBit_eq
  intro b;rw [Bool.eq_iff_iff];exact⟨pq d c h a b,pq d c (fun j a r x h1 f g=>(h j a r x h1 f g).symm) a b⟩
 grind [fx,fS]
structure Cons (aa:List aD) (H:Int→List cj) (on:Key→Bool) (b:cW):Prop where
 now:H b.ad=b.ab
 eJ:∀k t,aw k=true→(bs b.ab k).changed≤t→t≤b.ad→cellOf (H t) k=cellOf b.ab k
 CC:∀r∈b.ah,r.av≤b.ad∧r.changed≤r.av
 vr:∀r∈b.ah,r.value=valOf aa (H r.av) r.key∧r.reads=cX aa (H r.av) r.key
 rr:∀r∈b.ah,∀a∈r.reads,aw a=false→∀ra,az b.ah a=some ra→(r.av=b.ad∧on a=true)∨(ra.changed≤r.av→valOf aa (H r.av) a=ra.value)
 rs:∀r∈b.ah,aB r.key=true→∀a∈r.reads,aB a=true→∀ra,az b.ah a=some ra→(r.av=b.ad∧on a=true)∨r.av≤ra.av
variable {H:Int→List cj}{on:Key→Bool}{b:cW}{k:Key}
theorem Cons.up(h:Cons aa H on b) (hu:aI b k=true):∃r,az b.ah k=some r∧r.av=b.ad∧r.value=valOf aa b.ab k:=by
 obtain⟨r,hr,a⟩:=bU.1 hu;obtain⟨h1,c⟩:=aO hr;refine⟨r,hr,a,?_⟩;rw [(h.vr r h1).1,a,h.now,c]
theorem Cons.changed(h:Cons aa H on b) {m:Rec}(hm:m∈b.ah) (i:m.av<b.ad) {a:Key}(f:a∈m.reads) (hc:aP (valOf aa b.ab) b a≤m.av):valOf aa (H m.av) a=valOf aa b.ab a:=by
 cases hi:aw a with
 | true=>
  unfold aP at hc
  rw [if_pos hi] at hc
  have:=h.eJ a m.av hi hc (by omega)
  unfold valOf
  grind
 | false=>
  unfold aP at hc
  rw [if_neg (by rw [hi];simp)] at hc
  split at hc
  ·
   rename_i h1
   rw [Bool.and_eq_true] at h1;obtain⟨ra,d⟩:=Option.isSome_iff_exists.1 h1.1
   have e:aF b.ah a=ra:=by unfold aF;rw [d];rfl
   rw [e] at h1 hc
   have g:valOf aa b.ab a=ra.value:=by
    rw [Bool.or_eq_true] at h1
    rcases h1.2 with c | c
    ·
     have c:=of_decide_eq_true c;obtain⟨g1,g2⟩:=aO d;rw [(h.vr ra g1).1,c,h.now,g2]
    exact of_decide_eq_true c
   rcases h.rr m hm a f hi ra d with⟨c,_⟩ | c
   ·
    omega
   rw [c hc,g]
  omega
end
end Go.Rc

namespace Go.Rc
open Go
/-! ### lists of keys in order -/
def Hj(l:List Key):Prop:=l.Pairwise fun a b=>bl a b<0
theorem mT{a b:Key}(h:bl a b<0) (c:bl b a<0):False:=by grind [fN,gD]
theorem BF{k:Key}:∀{l:List Key},Hj l→Hj (kE k l)
 | [],_=>by simp [kE,Hj]
 | x::r,h=>by
  obtain⟨h1,a⟩:=List.pairwise_cons.1 h
  unfold kE
  split
  ·
   rename_i c
   refine List.pairwise_cons.2 ⟨fun y hy=>?_,BF a⟩
   grind [xA]
  rename_i c
  split
  ·
   exact h
  rename_i e
  have d:bl k x<0:=by grind [gE,j3]
  refine List.pairwise_cons.2 ⟨fun y hy=>?_,h⟩
  grind [fN]
theorem Ex(l:List Key):Hj (gP l):=by
 have key:∀(l acc:List Key),Hj acc→Hj (l.foldl (fun out k=>kE k out) acc):=by
  intro l
  induction l with
  | nil=>intro acc h;exact h
  | cons x r a=>grind [BF]
 exact key l [] List.Pairwise.nil
theorem zK:∀{a b:List Key},Hj a→Hj b→(∀x,x∈a↔x∈b)→a=b
 | [],[],_,_,_=>rfl
 | [],y::b,_,_,h=>by have:=(h y).2 (by simp);cases this
 | x::a,[],_,_,h=>by have:=(h x).1 (by simp);cases this
 | x::a,y::b,h1,c,h=>by
  obtain⟨i,d⟩:=List.pairwise_cons.1 h1;obtain⟨j,f⟩:=List.pairwise_cons.1 c
  have e:x=y:=by
   rcases List.mem_cons.1 ((h x).1 (by simp)) with e | e
   ·
    exact e
   rcases List.mem_cons.1 ((h y).2 (by simp)) with e2 | e2
   ·
    exact e2.symm
   grind [mT]
  subst e
  congr 1
  refine zK d f fun z=>⟨fun g=>?_,fun g=>?_⟩
  ·
   grind [mT]
  grind [mT]
/-! ### rings that belong together -/
section
variable {l l':List Rec}{rev:Int}{k x y z:Key}
theorem bC:bD l rev k=true↔∃r,az l k=some r∧aB k=true∧r.av<rev∧r.bp=false:=by
 unfold bD aF
 cases h:az l k with
 | none=>simp
 | some r=>simp
theorem bj.trans(h:bj l rev k x) (a:bj l rev x y):bj l rev k y:=by
 induction a with
 | one a=>exact .step h a
 | step _ c d=>exact .step d c
def uj(l:List Rec) (rev:Int) (x y:Key):Prop:=bj l rev x y∧bj l rev y x
theorem uj.symm(h:uj l rev x y):uj l rev y x:=⟨h.2,h.1⟩
theorem uj.trans(h:uj l rev x y) (a:uj l rev y z):uj l rev x z:=⟨h.1.trans a.1,a.2.trans h.2⟩
theorem uj.eY(h:uj l rev x y):bD l rev y=true:=h.1.eY
theorem zL:y∈gC l rev k l↔y≠k∧uj l rev k y:=by
 unfold gC xC
 rw [List.mem_map]
 constructor
 ·
  rintro⟨r,hr,rfl⟩;rw [List.mem_filter] at hr;simp only [Bool.and_eq_true,decide_eq_true_eq,iF] at hr;exact⟨hr.2.1,hr.2.2.1,hr.2.2.2⟩
 rintro⟨h1,a⟩;obtain⟨r,hr,rfl⟩:=List.mem_map.1 (k7 a.eY);exact⟨r,List.mem_filter.2 ⟨hr,by simp only [Bool.and_eq_true,decide_eq_true_eq,iF];exact⟨h1,a.1,a.2⟩⟩,rfl⟩
theorem bH:y∈aC l rev k↔y=k∨(bD l rev k=true∧uj l rev k y):=by
 unfold aC
 split
 ·
  rename_i h
  rw [iz,List.mem_cons,zL]
  grind
 grind
theorem lk:k∈aC l rev k:=bH.2 (.inl rfl)
theorem oD(l:List Rec) (rev:Int) (k:Key):Hj (aC l rev k):=by
 unfold aC
 split
 ·
  exact Ex _
 exact List.pairwise_singleton _ _
theorem iX(h:aB k=false):aC l rev k=[k]:=by
 unfold aC
 rw [if_neg]
 grind [bC]
theorem uk(hk:bD l rev k=true) (h:uj l rev k y) (z:Key):z∈aC l rev y↔z∈aC l rev k:=by
 rw [bH,bH]
 constructor
 ·
  rintro(rfl | ⟨_,h1⟩)
  ·
   exact .inr ⟨hk,h⟩
  exact .inr ⟨hk,h.trans h1⟩
 rintro(rfl | ⟨_,h1⟩)
 ·
  exact .inr ⟨h.eY,h.symm⟩
 exact .inr ⟨h.eY,h.symm.trans h1⟩
theorem fo{g:List Key}{c:ph}:c∈bP l g↔c.eQ∈g∧c.read∈(aF l c.eQ).reads∧c.read∉g:=by
 unfold bP ct
 grind
theorem sY{g:List Key}(h:∀m∈g,aF l' m=aF l m):bP l' g=bP l g:=by
 unfold bP
 have key:∀s:List Key,(∀m∈s,aF l' m=aF l m)→(s.flatMap fun m=>ct g m (aF l' m).reads)=s.flatMap fun m=>ct g m (aF l m).reads:=by
  intro s
  induction s with
  | nil=>intro _;rfl
  | cons m r a=>grind
 exact key g h
end
/-! ### the change of records -/
def Pt(val:Key→ByteArray) (N:Key→Prop) (rev:Int) (cz:List Key) (y:Key) (o o':Option Rec):Prop:=
 o'=o∨((aB y=true∨N y)∧∃r,o=some r∧r.bp=false∧r.av<rev∧(o'=some {r with av:=rev}∨o'=some {r with bp:=true}))∨
 ((y∈cz∧N y)∧(∀r,o=some r→r.av<rev)∧∃r',o'=some r'∧r'.av=rev∧r'.bp=false∧r'.value=val y∧(∀r,o=some r→r'.changed=if r.value=r'.value then r.changed else rev)∧(o=none→r'.changed=rev))
structure iN (val:Key→ByteArray) (N:Key→Prop) (cz:List Key) (rev:Int) (l l':List Rec):Prop where
 pt:∀y,Pt val N rev cz y (az l y) (az l' y)
 scc:∀y z,uj l rev y z→bD l' rev y=true→bD l' rev z=true
def Live(l:List Rec) (rev:Int) (k:Key):Prop:=∃r,az l k=some r∧r.bp=false∧r.av<rev
theorem Live.vl{l:List Rec}{rev:Int}{k:Key}(h:bD l rev k=true):Live l rev k:=by
 obtain⟨r,h1,_,a,c⟩:=bC.1 h;exact⟨r,h1,c,a⟩
theorem Live.eY{l:List Rec}{rev:Int}{k:Key}(h:Live l rev k) (hc:aB k=true):bD l rev k=true:=by
 obtain⟨r,h1,a,c⟩:=h
 grind [bC]
section
variable {val:Key→ByteArray}{N N':Key→Prop}{cz Pu:List Key}{rev:Int}{l l' l2:List Rec}{k x y z:Key}
theorem iN.refl(l:List Rec):iN val N cz rev l l:=⟨fun _=>.inl rfl,fun _ _ h _=>h.eY⟩
theorem iN.mono(h:iN val N cz rev l l') (hr:∀y∈cz,y∈Pu) (c:∀y,N y→N' y):iN val N' Pu rev l l':=
 ⟨fun y=>by
  rcases h.pt y with h | ⟨h1,a⟩ | ⟨⟨h1,a⟩,d⟩
  ·
   exact .inl h
  ·
   exact .inr (.inl ⟨h1.imp id (c y),a⟩)
  exact .inr (.inr ⟨⟨hr y h1,c y a⟩,d⟩),h.scc⟩
theorem iN.live(h:iN val N cz rev l l') (hl:Live l' rev y):az l' y=az l y:=by
 obtain⟨r,h1,a,c⟩:=hl
 rcases h.pt y with e | ⟨_,q,_,_,_,e | e⟩ | ⟨_,_,q,e,d,_⟩
 ·
  exact e
 ·
  grind
 ·
  grind
 grind
theorem iN.Pv(h:iN val N cz rev l l') (hl:Live l' rev y):Live l rev y:=by
 obtain⟨r,h1,a,c⟩:=id hl;exact⟨r,by rw [← h.live hl];exact h1,a,c⟩
theorem iN.eY(h:iN val N cz rev l l') (a:bD l' rev y=true):az l' y=az l y:=h.live (.vl a)
theorem iN.Hk(h:iN val N cz rev l l') (a:bD l' rev y=true):bD l rev y=true:=by
 obtain⟨r,h1,c,d,e⟩:=bC.1 a;exact bC.2 ⟨r,by rw [← h.eY a];exact h1,c,d,e⟩
theorem iN.aF(h:iN val N cz rev l l') (a:bD l' rev y=true):aF l' y=Rc.aF l y:=by
 unfold Rc.aF
 rw [h.eY a]
theorem iN.leads(h:iN val N cz rev l l') (hk:bD l' rev k=true) (hl:bj l' rev k x):bj l rev k x:=by
 induction hl with
 | one h1=>exact .one ⟨by rw [← h.aF hk];exact h1.1,h.Hk h1.2⟩
 | step h1 a c=>exact .step c ⟨by rw [← h.aF h1.eY];exact a.1,h.Hk a.2⟩
theorem iN.back(h:iN val N cz rev l l') (hk:bD l' rev k=true) (hl:bj l rev k x):bj l rev x k→bj l' rev k x:=by
 induction hl with
 | one h1=>exact fun a=>.one ⟨by rw [h.aF hk];exact h1.1,h.scc k _ ⟨.one h1,a⟩ hk⟩
 | step h1 c d=>
  intro a;have g:=d ((bj.one c).trans a);exact .step g ⟨by rw [h.aF g.eY];exact c.1,h.scc k _ ⟨.step h1 c,a⟩ hk⟩
theorem iN.mut(h:iN val N cz rev l l') (hk:bD l' rev k=true):uj l' rev k y↔uj l rev k y:=
 ⟨fun m=>⟨h.leads hk m.1,h.leads m.eY m.2⟩,fun m=>⟨h.back hk m.1 m.2,h.back (h.scc k y m hk) m.2 m.1⟩⟩
theorem iN.group(h:iN val N cz rev l l') (hk:Live l' rev k):aC l' rev k=aC l rev k∧∀m∈aC l rev k,az l' m=az l m:=by
 cases hc:aB k with
 | false=>
  rw [iX hc,iX hc];refine⟨rfl,fun m hm=>?_⟩;rw [List.mem_singleton.1 hm];exact h.live hk
 | true=>
  have a:=hk.eY hc;refine⟨zK (oD _ _ _) (oD _ _ _) fun y=>?_,fun m hm=>?_⟩
  ·
   rw [bH,bH,h.mut a,a,h.Hk a]
  rcases bH.1 hm with rfl | ⟨_,m2⟩
  ·
   exact h.live hk
  exact h.eY (h.scc _ _ m2 a)
theorem iN.KJ(h:iN val N cz rev l l') (hk:Live l' rev k):bP l' (aC l' rev k)=bP l (aC l rev k):=by
 obtain⟨h1,a⟩:=h.group hk;rw [h1];refine sY fun m hm=>?_
 unfold Rc.aF
 rw [a m hm]
theorem iN.trans(h:iN val N cz rev l l') (a:iN val N cz rev l' l2):iN val N cz rev l l2:=by
 refine⟨fun y=>?_,fun y z m c=>?_⟩
 ·
  have g2:=a.pt y
  rcases h.pt y with e | ⟨e0,r,e1,e2,e3,e4 | e4⟩ | ⟨e1,e2,d,e3,e4,e5,f,i,j⟩
  ·
   rw [e] at g2;exact g2
  ·
   rcases g2 with g | ⟨_,q,g1,g2,g3,_⟩ | ⟨_,g1,_⟩
   ·
    exact .inr (.inl ⟨e0,r,e1,e2,e3,.inl (g.trans e4)⟩)
   ·
    grind
   grind
  ·
   rcases g2 with g | ⟨_,q,g1,g2,g3,_⟩ | ⟨g1,g2,q,g3,g4,g5,g6,g7,g8⟩
   ·
    exact .inr (.inl ⟨e0,r,e1,e2,e3,.inr (g.trans e4)⟩)
   ·
    grind
   refine .inr (.inr ⟨g1,fun r2 n=>?_,q,g3,g4,g5,g6,fun r2 n=>?_,fun hn=>?_⟩)
   ·
    grind
   ·
    grind
   grind
  rcases g2 with g | ⟨_,q,g1,g2,g3,_⟩ | ⟨_,g1,_⟩
  ·
   exact .inr (.inr ⟨e1,e2,d,g.trans e3,e4,e5,f,i,j⟩)
  ·
   grind
  have:=g1 _ e3
  omega
 have o:=a.Hk c;exact a.scc y z ((h.mut o).2 m) c
theorem dM{g:List Key}{d:Bool}:az (l.map (bK rev g d)) y=(az l y).map (bK rev g d):=oz _ (fun r=>(cn rev g d r).1) y l
theorem iN.mark(hl:Live l rev k) (d:Bool) (h:aB k=true∨N k):iN val N cz rev l (l.map (bK rev (aC l rev k) d)):=by
 have eJ:∀y∈aC l rev k,Live l rev y:=fun y hy=>by
  rcases bH.1 hy with rfl | ⟨_,m⟩
  ·
   exact hl
  exact .vl m.eY
 have i:∀y,y∉aC l rev k→az (l.map (bK rev (aC l rev k) d)) y=az l y:=fun y hy=>by
  rw [dM]
  cases j:az l y with
  | none=>rfl
  | some r=>
   have e:=(aO j).2
   show some (bK rev (aC l rev k) d r)=some r
   unfold bK
   rw [if_neg (by rw [e];exact hy)]
 have n:∀y∈aC l rev k,∃r,az l y=some r∧r.bp=false∧r.av<rev∧az (l.map (bK rev (aC l rev k) d)) y=some (if d then {r with bp:=true} else {r with av:=rev}):=fun y hy=>by
  obtain⟨r,h1,a,c⟩:=eJ y hy;refine⟨r,h1,a,c,?_⟩;rw [dM,h1]
  show some (bK rev (aC l rev k) d r)=_
  unfold bK
  rw [if_pos (by rw [(aO h1).2];exact hy)]
 refine⟨fun y=>?_,fun y z m p=>?_⟩
 ·
  by_cases hy:y∈aC l rev k
  ·
   obtain⟨r,h1,a,c,o⟩:=n y hy;refine .inr (.inl ⟨?_,r,h1,a,c,?_⟩)
   ·
    rcases bH.1 hy with rfl | ⟨_,m⟩
    ·
     exact h
    obtain⟨_,_,g,_⟩:=bC.1 m.eY;exact .inl g
   grind
  exact .inl (i y hy)
 have hy:y∉aC l rev k:=fun hy=>by grind [bC]
 have f:z∉aC l rev k:=fun f=>hy (by
  rcases bH.1 f with rfl | ⟨h1,a⟩
  ·
   grind [bH,uj.eY,uj.symm]
  exact bH.2 (.inr ⟨h1,a.trans m.symm⟩))
 obtain⟨r,h1,a,c,o⟩:=bC.1 m.eY
 grind [bC]
theorem iN.put{a:Rec}(hk:bD l rev a.key=false) (c:∀r,az l a.key=some r→r.av<rev) (d:a.key∈cz∧N a.key) (f:a.av=rev) (g:a.bp=false) (h:a.value=val a.key)
  (hc:∀r,az l a.key=some r→a.changed=if r.value=a.value then r.changed else rev) (hn:az l a.key=none→a.changed=rev):iN val N cz rev l (eN l a):=by
 refine⟨fun y=>?_,fun y z m p=>?_⟩
 ·
  rw [eR]
  by_cases e:y=a.key
  ·
   rw [if_pos e,e];exact .inr (.inr ⟨d,c,a,rfl,f,g,h,hc,hn⟩)
  rw [if_neg e];exact .inl rfl
 have i:z≠a.key:=fun e=>by grind [uj.eY]
 obtain⟨r,h1,j,n,o⟩:=bC.1 m.eY;exact bC.2 ⟨r,by rw [eR,if_neg i];exact h1,j,n,o⟩
end
end Go.Rc

namespace Go.Rc
open Go
theorem aS{l:List Rec}{k:Key}{r:Rec}(h:az l k=some r):aF l k=r:=by
 unfold aF
 rw [h]
 rfl
theorem jG:∀{l:List Rec},pX l→∀{r:Rec},r∈l→az l r.key=some r
 | [],_,r,hr=>by cases hr
 | x::xs,h,r,hr=>by
  obtain⟨h1,a⟩:=List.pairwise_cons.1 h
  unfold az
  rw [List.find?_cons]
  rcases List.mem_cons.1 hr with rfl | hr
  ·
   simp
  have c:=h1 r hr
  have d:x.key≠r.key:=fun e=>by rw [e,gD] at c;omega
  have:(x.key == r.key)=false:=by simpa using d
  rw [this];exact jG a hr
structure Bi (aa:List aD) (H:Int→List cj) (on:Key→Bool) (b:cW):Prop where
 c:Cons aa H on b
 st:pX b.ah
 kr:∀r∈b.ah,∃i:Nat,i<aa.length∧r.key=aH aa (i:Int)
 dv:∀r∈b.ah,r.bp=true→r.av<b.ad
section
variable {aa:List aD}{H:Int→List cj}{on TQ:Key→Bool}{b:cW}{k:Key}
theorem Bi.Pw(h:Bi aa H on b) (f:∀k,on k=true→TQ k=true):Bi aa H TQ b:=
 ⟨{h.c with
   rr:=fun r hr a d hi ra e=>(h.c.rr r hr a d hi ra e).imp (fun⟨x,y⟩=>⟨x,f _ y⟩) id
   rs:=fun r hr hc a d hi ra e=>(h.c.rs r hr hc a d hi ra e).imp (fun⟨x,y⟩=>⟨x,f _ y⟩) id},h.st,h.kr,h.dv⟩
theorem Bi.off(h:Bi aa H on b) (hu:aI b k=true) (g:∀y,on y=true→y=k∨TQ y=true):Bi aa H TQ b:=by
 obtain⟨q,f,j,i⟩:=h.c.up hu;refine⟨{h.c with rr:=fun r hr a e hi ra d=>?_,rs:=fun r hr hc a e hi ra d=>?_},h.st,h.kr,h.dv⟩
 ·
  rcases h.c.rr r hr a e hi ra d with⟨x,y⟩ | z
  ·
   rcases g a y with rfl | y
   ·
    rw [d] at f
    have:=Option.some.inj f
    subst this;refine .inr fun _=>?_;rw [x,h.c.now];exact i.symm
   exact .inl ⟨x,y⟩
  exact .inr z
 rcases h.c.rs r hr hc a e hi ra d with⟨x,y⟩ | z
 ·
  grind
 exact .inr z
theorem CD(d:ao aa) {aA:List cj}{i:Nat}(hi:i<aa.length) (hr:ax aa i=true) {x:Ask}(a:x∈aa[i].asks):bw aa x∈cO aa aA i:=by
 obtain⟨q,e⟩:=List.mem_iff_getElem?.1 a
 have c:q<cy aa i:=by grind [cy]
 have h1:=j6 (aA:=aA) c
 grind [da,ru,Ew]
theorem Cons.lead(h:Cons aa H on b) {x y:Key}(a:bD b.ah b.ad x=true) (hl:bj b.ah b.ad x y):(aF b.ah x).av≤(aF b.ah y).av:=by
 have step:∀x y,bD b.ah b.ad x=true→Ld b.ah b.ad x y→(aF b.ah x).av≤(aF b.ah y).av:=by
  intro x y a hy;obtain⟨r,h1,c,f,g⟩:=bC.1 a;obtain⟨q,g1,g2,g3,g4⟩:=bC.1 hy.2;have d:=hy.1;rw [aS h1] at d;rw [aS h1,aS g1]
  rcases h.rs r (aO h1).1 (by rw [(aO h1).2];exact c) y d g2 q g1 with⟨e,_⟩ | e
  ·
   omega
  exact e
 induction hl with
 | one h1=>exact step _ _ a h1
 | step h1 c i=>grind [bj.eY]
theorem Bi.key(h:Bi aa H on b) (hl:Live b.ah b.ad k):∃i:Nat,i<aa.length∧k=aH aa (i:Int):=by
 obtain⟨r,h1,_⟩:=hl;obtain⟨a,c⟩:=aO h1;obtain⟨i,hi,e⟩:=h.kr r a
 grind
theorem lL{l:List Rec}{rev:Int}{y:Key}(hl:Live l rev k) (hy:y∈aC l rev k):Live l rev y:=by
 rcases bH.1 hy with rfl | ⟨_,m⟩
 ·
  exact hl
 exact .vl m.eY
theorem Bi.fixed(g:ao aa) (h:Bi aa H on b) (hl:Live b.ah b.ad k)
  (p:∀m∈aC b.ah b.ad k,∀a∈(aF b.ah m).reads,a∉aC b.ah b.ad k→valOf aa (H (aF b.ah m).av) a=valOf aa b.ab a) :
  ∀m∈aC b.ah b.ad k,valOf aa b.ab m=valOf aa (H (aF b.ah m).av) m∧cX aa b.ab m=cX aa (H (aF b.ah m).av) m:=by
 have C:=g.len
 have f:∀m∈aC b.ah b.ad k,∃i:Nat,i<aa.length∧m=aH aa (i:Int)∧(aF b.ah m).reads=cO aa (H (aF b.ah m).av) i:=fun m hm=>by
  have q:=lL hl hm;obtain⟨i,hi,e⟩:=h.key q;obtain⟨r,h1,_⟩:=q;refine⟨i,hi,e,?_⟩;have u:=(h.c.vr r (aO h1).1).2;rw [aS h1,u,(aO h1).2,e,dL g hi]
 cases hc:aB k with
 | false=>
  rw [iX hc] at p f ⊢;intro m hm;rw [List.mem_singleton] at hm;subst hm;obtain⟨i,hi,e,f⟩:=f m (by simp)
  have v:=ry g hi (aA:=H (aF b.ah m).av) (nM:=b.ab) fun a o=>by
   refine p m (by simp) a (by rw [f];exact o) fun hm=>?_;rw [List.mem_singleton] at hm;rw [e] at hm;rw [e,bd hi (by omega)] at hc
   rcases mS g hi a o with⟨n,hn,rfl⟩ | ⟨j,d,rfl,_,D,_⟩
   ·
    grind [aN,bX]
   grind [dh]
  grind [dL]
 | true=>
  have w:=hl.eY hc
  have ht:∀m∈aC b.ah b.ad k,(aF b.ah m).av=(aF b.ah k).av:=fun m hm=>by
   rcases bH.1 hm with rfl | ⟨_,m1,m2⟩
   ·
    rfl
   have a1:=h.c.lead w m1;have a2:=h.c.lead m1.eY m2
   omega
  have A:∀j:Nat,j<aa.length→aH aa (j:Int)∈aC b.ah b.ad k→ax aa j=true:=fun j d hm=>by
   have h1:bD b.ah b.ad (aH aa (j:Int))=true:=by grind [bH,uj.eY]
   grind [bC,bd]
  have B:∀j:Nat,j<aa.length→aH aa (j:Int)∈aC b.ah b.ad k→valOf aa (H (aF b.ah k).av) (aH aa (j:Int))=valOf aa b.ab (aH aa (j:Int)):=fun j d hm=>by
   refine zJ g (G:=fun j=>j<aa.length∧aH aa (j:Int)∈aC b.ah b.ad k) (fun j d=>⟨d.1,A j d.1 d.2⟩) (fun j d r x hr E F=>?_) ⟨d,hm⟩
   grind [dh,CD]
  intro m hm;obtain⟨i,hi,e,f⟩:=f m hm;have h1:=B i hi (e ▸ hm);rw [ht m hm] at f ⊢;refine⟨by rw [e];exact h1.symm,?_⟩
  have v:=ry g hi (aA:=H (aF b.ah k).av) (nM:=b.ab) fun a o=>by grind
  grind [dL]
theorem fU(rev:Int) (g:List Key) (d:Bool) (r:Rec):(bK rev g d r).value=r.value∧(bK rev g d r).changed=r.changed:=by
 unfold bK
 grind
theorem Bi.mark(E:ao aa) (h:Bi aa H on b) (hl:Live b.ah b.ad k)
  (w:∀m∈aC b.ah b.ad k,∀a∈(aF b.ah m).reads,a∉aC b.ah b.ad k→valOf aa (H (aF b.ah m).av) a=valOf aa b.ab a∧(aw a=true∨(on a=true∧aB a=true)∨aI b a=true)) :
  Bi aa H on (de b (aC b.ah b.ad k) false):=by
 have B:=h.fixed E hl fun m hm a d F=>(w m hm a d F).1
 generalize I:aC b.ah b.ad k=G at B w
 have J:∀a ra,a∈G→az b.ah a=some ra→ra.value=valOf aa b.ab a:=fun a ra d f=>by
  have h1:=(h.c.vr ra (aO f).1).1;have n:=(B a d).1;rw [aS f] at n;rw [h1,(aO f).2,n]
 have A:∀r:Rec,r.key∈G→(bK b.ad G false r).av=b.ad:=fun r hr=>by
  unfold bK
  rw [if_pos hr]
  rfl
 have o:∀r:Rec,r.key∉G→bK b.ad G false r=r:=fun r hr=>by
  unfold bK
  rw [if_neg hr]
 refine⟨⟨h.c.now,h.c.eJ,fun p g=>?_,fun p g=>?_,fun p g a d hi K u=>?_,fun p g hc a d hi K u=>?_⟩,h.st.map fun r=>(cn _ _ _ r).1,fun p g=>?_,fun p g C=>?_⟩
 ·
  obtain⟨r,hr,rfl⟩:=List.mem_map.1 g;have h1:=h.c.CC r hr
  by_cases e:r.key∈G
  ·
   rw [A r e,(fU _ _ _ r).2];exact⟨Int.le_refl _,by omega⟩
  rw [o r e];exact h1
 ·
  obtain⟨r,hr,rfl⟩:=List.mem_map.1 g;have h1:=h.c.vr r hr
  by_cases e:r.key∈G
  ·
   have i:=jG h.st hr;have n:=B r.key e;rw [aS i] at n;rw [A r e,(fU _ _ _ r).1,(cn _ _ _ r).1,(cn _ _ _ r).2,h.c.now,n.1,n.2];exact h1
  rw [o r e];exact h1
 ·
  obtain⟨r,hr,rfl⟩:=List.mem_map.1 g;rw [show(de b G false).ah=b.ah.map (bK b.ad G false) from rfl,dM] at u;obtain⟨ra,f,rfl⟩:=Option.map_eq_some_iff.1 u;have i:=jG h.st hr;rw [(cn _ _ _ r).2] at d;rw [(fU _ _ _ ra).1,(fU _ _ _ ra).2]
  show((bK b.ad G false r).av=b.ad∧_)∨_
  by_cases e:r.key∈G
  ·
   rw [A r e]
   by_cases v:a∈G
   ·
    refine .inr fun _=>?_;rw [h.c.now];exact(J a ra v f).symm
   rcases(w r.key e a (by rw [aS i];exact d) v).2 with h1 | h1 | h1
   ·
    rw [hi] at h1
    cases h1
   ·
    exact .inl ⟨rfl,h1.1⟩
   refine .inr fun _=>?_;obtain⟨q,D,_,L⟩:=h.c.up h1;rw [f] at D
   have:=Option.some.inj D
   subst this;rw [h.c.now];exact L.symm
  rw [o r e];exact h.c.rr r hr a d hi ra f
 ·
  obtain⟨r,hr,rfl⟩:=List.mem_map.1 g;rw [show(de b G false).ah=b.ah.map (bK b.ad G false) from rfl,dM] at u;obtain⟨ra,f,rfl⟩:=Option.map_eq_some_iff.1 u;have i:=jG h.st hr;rw [(cn _ _ _ r).2] at d;rw [(cn _ _ _ r).1] at hc
  show((bK b.ad G false r).av=b.ad∧_)∨_
  have M:=(aO f).2;have hle:=(h.c.CC r hr).1
  by_cases e:r.key∈G
  ·
   rw [A r e]
   by_cases v:a∈G
   ·
    grind
   rcases(w r.key e a (by rw [aS i];exact d) v).2 with h1 | h1 | h1
   ·
    obtain⟨j,O,P⟩:=h.kr ra (aO f).1
    grind [ao.len,bX]
   ·
    exact .inl ⟨rfl,h1.1⟩
   obtain⟨q,D,Q⟩:=bU.1 h1
   grind
  rw [o r e]
  rcases h.c.rs r hr hc a d hi ra f with h1 | h1
  ·
   exact .inl h1
  refine .inr ?_
  by_cases v:ra.key∈G
  ·
   grind
  grind
 ·
  obtain⟨r,hr,rfl⟩:=List.mem_map.1 g;rw [(cn _ _ _ r).1];exact h.kr r hr
 obtain⟨r,hr,rfl⟩:=List.mem_map.1 g
 by_cases e:r.key∈G
 ·
  have i:=jG h.st hr;obtain⟨q,g1,g2,_⟩:=lL hl (y:=r.key) (by rw [I];exact e);rw [i] at g1
  have:=Option.some.inj g1
  subst this
  unfold bK at C
  grind
 rw [o r e] at C ⊢;exact h.dv r hr C
theorem Bi.bp(h:Bi aa H on b) {G:List Key}(o:∀m∈G,Live b.ah b.ad m):Bi aa H on (de b G true):=by
 have hm:∀r:Rec,(bK b.ad G true r).av=r.av:=fun r=>by
  unfold bK
  grind
 refine⟨⟨h.c.now,h.c.eJ,fun f d=>?_,fun f d=>?_,fun f d a g hi p i=>?_,fun f d hc a g hi p i=>?_⟩,h.st.map fun r=>(cn _ _ _ r).1,fun f d=>?_,fun f d j=>?_⟩
 ·
  obtain⟨r,hr,rfl⟩:=List.mem_map.1 d;rw [hm,(fU _ _ _ r).2];exact h.c.CC r hr
 ·
  obtain⟨r,hr,rfl⟩:=List.mem_map.1 d;rw [hm,(fU _ _ _ r).1,(cn _ _ _ r).1,(cn _ _ _ r).2];exact h.c.vr r hr
 ·
  obtain⟨r,hr,rfl⟩:=List.mem_map.1 d;rw [show(de b G true).ah=b.ah.map (bK b.ad G true) from rfl,dM] at i;obtain⟨ra,n,rfl⟩:=Option.map_eq_some_iff.1 i;rw [(cn _ _ _ r).2] at g;rw [hm,(fU _ _ _ ra).1,(fU _ _ _ ra).2];exact h.c.rr r hr a g hi ra n
 ·
  obtain⟨r,hr,rfl⟩:=List.mem_map.1 d;rw [show(de b G true).ah=b.ah.map (bK b.ad G true) from rfl,dM] at i;obtain⟨ra,n,rfl⟩:=Option.map_eq_some_iff.1 i;rw [(cn _ _ _ r).2] at g;rw [(cn _ _ _ r).1] at hc;rw [hm,hm];exact h.c.rs r hr hc a g hi ra n
 ·
  obtain⟨r,hr,rfl⟩:=List.mem_map.1 d;rw [(cn _ _ _ r).1];exact h.kr r hr
 obtain⟨r,hr,rfl⟩:=List.mem_map.1 d;rw [hm]
 by_cases e:r.key∈G
 ·
  obtain⟨q,g1,_,g2⟩:=o _ e;rw [jG h.st hr] at g1
  have:=Option.some.inj g1
  subst this;exact g2
 unfold bK at j
 rw [if_neg e] at j;exact h.dv r hr j
theorem Bi.put(w:ao aa) (h:Bi aa H on b) {i:Nat}(hi:i<aa.length) (F:aB (aH aa (i:Int))=true→on (aH aa (i:Int))=true)
  (B:∀a∈cO aa b.ab i,aw a=true∨(on a=true∧aB a=true)∨aI b a=true) :
  Bi aa H on {b with ah:=eN b.ah (di b (aH aa (i:Int)) (valOf aa b.ab (aH aa (i:Int))) (cO aa b.ab i))}:=by
 have K:=w.len
 generalize g:di b (aH aa (i:Int)) (valOf aa b.ab (aH aa (i:Int))) (cO aa b.ab i)=q
 have q1:q.key=aH aa (i:Int):=by rw [← g];rfl
 have m:q.av=b.ad:=by rw [← g];rfl
 have C:q.value=valOf aa b.ab (aH aa (i:Int)):=by rw [← g];rfl
 have v:q.reads=cO aa b.ab i:=by rw [← g];rfl
 have D:(∃r,az b.ah q.key=some r∧r.value=q.value∧q.changed=r.changed)∨q.changed=b.ad:=by
  rw [← g]
  unfold di
  simp only
  split
  ·
   rename_i hc
   simp only [Bool.and_eq_true,decide_eq_true_eq] at hc;obtain⟨r,hr⟩:=Option.isSome_iff_exists.1 hc.1;rw [aS hr] at hc ⊢;exact .inl ⟨r,hr,hc.2,rfl⟩
  exact .inr rfl
 refine⟨⟨h.c.now,h.c.eJ,fun r hr=>?_,fun r hr=>?_,fun r hr a f u ra d=>?_,fun r hr hc a f u ra d=>?_⟩,pX.put h.st,fun r hr=>?_,fun r hr A=>?_⟩
 ·
  rcases eW _ _ _ _ hr with rfl | hr
  ·
   refine⟨by rw [m];exact Int.le_refl _,?_⟩
   rcases D with⟨p,o,_,e⟩ | e
   ·
    have:=h.c.CC p (aO o).1
    omega
   omega
  exact h.c.CC r hr
 ·
  rcases eW _ _ _ _ hr with rfl | hr
  ·
   rw [q1,m,C,v,h.c.now,dL w hi];exact⟨rfl,rfl⟩
  exact h.c.vr r hr
 ·
  rw [show({b with ah:=eN b.ah q}:cW).ah=eN b.ah q from rfl,eR] at d
  show(r.av=b.ad∧_)∨_
  rcases eW _ _ _ _ hr with rfl | hr
  ·
   by_cases e:a=r.key
   ·
    refine .inl ⟨m,?_⟩;rw [e,q1];refine F ?_;rw [v] at f;rw [bd hi (by omega)]
    cases L:ax aa i with
    | true=>rfl
    | false=>
     rcases mS w hi a f with⟨n,hn,h1⟩ | ⟨j,E,h1,_,M,_⟩
     ·
      grind [aN]
     grind [dh]
   rw [if_neg e] at d
   rcases B a (by rw [← v];exact f) with h1 | h1 | h1
   ·
    rw [u] at h1
    cases h1
   ·
    exact .inl ⟨m,h1.1⟩
   refine .inr fun _=>?_;obtain⟨p,o,_,G⟩:=h.c.up h1;rw [d] at o
   have:=Option.some.inj o
   subst this;rw [m,h.c.now];exact G.symm
  by_cases e:a=q.key
  ·
   rw [if_pos e] at d
   have:=Option.some.inj d
   subst this
   rcases D with⟨p,o,e2,e3⟩ | e2
   ·
    rcases h.c.rr r hr a f u p (by rw [e];exact o) with h1 | h1
    ·
     exact .inl h1
    grind
   refine .inr fun hc=>?_;have h1:=(h.c.CC r hr).1
   have I:r.av=b.ad:=by omega
   rw [I,h.c.now,C,e,q1]
  rw [if_neg e] at d;exact h.c.rr r hr a f u ra d
 ·
  rw [show({b with ah:=eN b.ah q}:cW).ah=eN b.ah q from rfl,eR] at d
  show(r.av=b.ad∧_)∨_
  rcases eW _ _ _ _ hr with rfl | hr
  ·
   by_cases e:a=r.key
   ·
    grind
   rw [if_neg e] at d
   rcases B a (by rw [← v];exact f) with h1 | h1 | h1
   ·
    obtain⟨j,E,J⟩:=h.kr ra (aO d).1;rw [← (aO d).2,J,bX E (by omega)] at h1
    cases h1
   ·
    exact .inl ⟨m,h1.1⟩
   grind [bU]
  by_cases e:a=q.key
  ·
   rw [if_pos e] at d
   have:=Option.some.inj d
   subst this
   have:=(h.c.CC r hr).1
   exact .inr (by omega)
  rw [if_neg e] at d;exact h.c.rs r hr hc a f u ra d
 ·
  rcases eW _ _ _ _ hr with rfl | hr
  ·
   exact⟨i,hi,q1⟩
  exact h.kr r hr
 rcases eW _ _ _ _ hr with rfl | hr
 ·
  have:r.bp=false:=by rw [← g];rfl
  rw [this] at A
  cases A
 exact h.dv r hr A
end
end Go.Rc

namespace Go.Rc
open Go
def KL(val:Key→ByteArray) (b:cW) (y:Key):Prop:=∃m a,m∈aC b.ah b.ad y∧a∈(aF b.ah m).reads∧a∉aC b.ah b.ad y∧(aF b.ah m).av<aP val b a
def Jc(val:Key→ByteArray) (b:cW) (y:Key):Prop:=aw y=false∧aI b y=false∧(az b.ah y=none∨(aF b.ah y).bp=true∨KL val b y)
section
variable {aa:List aD}{H:Int→List cj}{on:Key→Bool}{b b0:cW}{k:Key}{s t:ES}
def ES.wL(s:ES) (k:Key):Bool:=s.on k && aB k
theorem zM(h:s.on k=true∧aB k=true):s.wL k=true:=by grind [ES.wL]
structure Wy (aa:List aD) (b0:cW) (s:ES):Prop where
 rev:s.b.ad=b0.ad
 aA:s.b.ab=b0.ab
 ev:iN (valOf aa b0.ab) (fun _=>True) s.cz b0.ad b0.ah s.b.ah
 Ob:∀y r,az s.b.ah y=some r→r.bp=true→(aF b0.ah y).bp=true∨KL (valOf aa b0.ab) b0 y
 cz:∀y∈s.cz,Jc (valOf aa b0.ab) b0 y
 TR:∀y∈s.cz,aI s.b y=true
 TS:∀y,aI b0 y=false→aI s.b y=true→y∈s.cz∨¬KL (valOf aa b0.ab) b0 y
 ie:s.cz.Nodup
theorem me{val:Key→ByteArray}(hi:aw k=false) (h:az b.ah k=none):aP val b k=b.ad:=by grind [aP]
theorem dF{val:Key→ByteArray}(hi:aw k=false) {r:Rec}(h:az b.ah k=some r):aP val b k=if r.av=b.ad∨val k=r.value then r.changed else b.ad:=by
 unfold aP
 rw [hi,aS h,h]
 grind
theorem Wy.changed(i:Bi aa H on s.b) (h:Wy aa b0 s) (a:Key):aP (valOf aa b0.ab) s.b a=aP (valOf aa b0.ab) b0 a:=by
 cases hi:aw a with
 | true=>
  unfold aP
  rw [hi,if_pos rfl,if_pos rfl,h.aA]
 | false=>
  rcases h.ev.pt a with e | ⟨_,r,e1,e2,e3,e4 | e4⟩ | ⟨_,e2,o,e3,e4,e5,j,m,n⟩
  ·
   cases d:az b0.ah a with
   | none=>grind [me,rev]
   | some r=>rw [dF hi (e.trans d),dF hi d,h.rev]
  ·
   have hu:aI s.b a=true:=bU.2 ⟨_,e4,h.rev.symm⟩;obtain⟨q,f,_,g⟩:=i.c.up hu;rw [e4] at f
   have:=Option.some.inj f
   subst this;rw [h.aA] at g;rw [dF hi e4,dF hi e1,if_pos (.inl h.rev.symm),if_pos (.inr g.symm)]
  ·
   rw [dF hi e4,dF hi e1,h.rev]
  rw [dF hi e3,if_pos (.inl (e4.trans h.rev.symm))]
  cases d:az b0.ah a with
  | none=>rw [me hi d,n d]
  | some r=>
   rw [dF hi d,m r d,j]
   grind
theorem Wy.KN(i:Bi aa H on s.b) (h:Wy aa b0 s) (hl:Live s.b.ah s.b.ad k) {m a:Key}(hm:m∈aC s.b.ah s.b.ad k) (f:a∈(aF s.b.ah m).reads) (c:a∉aC s.b.ah s.b.ad k)
  (hc:(aF s.b.ah m).av<aP (valOf aa b0.ab) s.b a):∀y∈aC s.b.ah s.b.ad k,KL (valOf aa b0.ab) b0 y:=by
 intro y hy;rw [h.rev] at hl hm c hy;obtain⟨h1,j⟩:=h.ev.group hl;rw [h1] at hm c hy;have o:=h.ev.Pv hl
 have e:aF s.b.ah m=aF b0.ah m:=by
  unfold aF
  rw [j m hm]
 rw [e] at f hc
 have g:∀z,z∈aC b0.ah b0.ad y↔z∈aC b0.ah b0.ad k:=fun z=>by
  rcases bH.1 hy with rfl | ⟨d,n⟩
  ·
   exact Iff.rfl
  exact uk d n z
 exact⟨m,a,(g m).2 hm,f,fun d=>c ((g a).1 d),by rw [← h.changed i a];exact hc⟩
theorem Wy.Px(h:Wy aa b0 s) (hl:Live s.b.ah s.b.ad k) (c:∀m∈aC s.b.ah s.b.ad k,∀a∈(aF s.b.ah m).reads,a∉aC s.b.ah s.b.ad k→aP (valOf aa b0.ab) b0 a≤(aF s.b.ah m).av):∀y∈aC s.b.ah s.b.ad k,¬KL (valOf aa b0.ab) b0 y:=by
 rintro y hy ⟨m,a,hm,g,i,hc⟩;rw [h.rev] at hl c hy;obtain⟨h1,j⟩:=h.ev.group hl;rw [h1] at c hy
 have n:∀z,z∈aC b0.ah b0.ad y↔z∈aC b0.ah b0.ad k:=fun z=>by
  rcases bH.1 hy with rfl | ⟨d,f⟩
  ·
   exact Iff.rfl
  exact uk d f z
 have e:aF s.b.ah m=aF b0.ah m:=by grind [aF]
 grind
theorem Wy.none(h:Wy aa b0 s) (a:az s.b.ah k=none):az b0.ah k=none:=by
 rcases h.ev.pt k with e | ⟨_,r,e1,e2,e3,e4 | e4⟩ | ⟨_,e2,c,e3,_⟩
 ·
  exact e.symm.trans a
 ·
  rw [a] at e4;cases e4
 ·
  rw [a] at e4;cases e4
 rw [a] at e3;cases e3
theorem iN.aI{val:Key→ByteArray}{N:Key→Prop}{cz:List Key}{b b':cW}(h:iN val N cz b.ad b.ah b'.ah) (hr:b'.ad=b.ad) (hu:Rc.aI b k=true):Rc.aI b' k=true:=by
 obtain⟨r,h1,a⟩:=bU.1 hu
 rcases h.pt k with e | ⟨_,q,e1,e2,e3,_⟩ | ⟨_,e2,_⟩
 ·
  exact bU.2 ⟨r,e.trans h1,a.trans hr.symm⟩
 ·
  grind
 have:=e2 r h1
 omega
theorem Hl{G:List Key}(hu:Rc.aI b k=false) (c:Rc.aI (de b G false) k=true):k∈G:=by
 obtain⟨d,h1,a⟩:=bU.1 c;have f:(az b.ah k).map (bK b.ad G false)=some d:=dM.symm.trans h1;obtain⟨r,hr,rfl⟩:=Option.map_eq_some_iff.1 f;have e:=(aO hr).2;refine Classical.byContradiction fun hk=>?_
 unfold bK at a
 rw [if_neg (by rw [e];exact hk)] at a
 have:=bU.2 ⟨r,hr,a⟩
 rw [hu] at this
 cases this
theorem Ey{G:List Key}:Rc.aI (de b G true) k=Rc.aI b k:=by
 have e:az (de b G true).ah k=(az b.ah k).map (bK b.ad G true):=dM
 have hm:∀r:Rec,(bK b.ad G true r).av=r.av:=fun r=>by
  unfold bK
  grind
 rw [Bool.eq_iff_iff,bU,bU,e]
 constructor
 ·
  rintro⟨c,h1,a⟩;obtain⟨r,hr,rfl⟩:=Option.map_eq_some_iff.1 h1;rw [hm] at a;exact⟨r,hr,a⟩
 rintro⟨r,h1,a⟩;exact⟨_,by rw [h1];rfl,by rw [hm];exact a⟩
theorem CE{l:List Key}(h:l.Nodup) (hk:k∉l):(l++[k]).Nodup:=by grind
theorem Wy.step{s':ES}(h:Wy aa b0 s) (h1:s'.b.ad=s.b.ad) (e:s'.b.ab=s.b.ab) (c:iN (valOf aa b0.ab) (fun _=>True) s'.cz b0.ad s.b.ah s'.b.ah) (hr:∀y∈s.cz,y∈s'.cz)
  (f:∀y r,az s'.b.ah y=some r→r.bp=true→(aF b0.ah y).bp=true∨KL (valOf aa b0.ab) b0 y) (hw:∀y∈s'.cz,Jc (valOf aa b0.ab) b0 y) (hn:∀y∈s'.cz,y∈s.cz∨Rc.aI s'.b y=true)
  (hm:∀y,Rc.aI s.b y=false→Rc.aI s'.b y=true→y∈s'.cz∨¬KL (valOf aa b0.ab) b0 y) (g:s'.cz.Nodup):Wy aa b0 s':=by
 have i:iN (valOf aa b0.ab) (fun _=>True) s'.cz s.b.ad s.b.ah s'.b.ah:=by rw [h.rev];exact c
 refine⟨h1.trans h.rev,e.trans h.aA,(h.ev.mono hr fun _ h=>h).trans c,f,hw,fun y hy=>?_,fun y hu j=>?_,g⟩
 ·
  rcases hn y hy with a | a
  ·
   exact i.aI h1 (h.TR y a)
  exact a
 cases d:Rc.aI s.b y with
 | true=>exact(h.TS y hu d).imp (hr y) id
 | false=>exact hm y d j
theorem Wy.Ez(h:Wy aa b0 s) (hu:aI s.b k=false):aI b0 k=false:=by
 cases hb:aI b0 k with
 | false=>rfl
 | true=>
  have:=h.ev.aI h.rev hb
  rw [hu] at this
  cases this
theorem rz(h:az b.ah k=none):aI b k=false:=by
 unfold aI
 rw [h]
 rfl
theorem lM{r:Rec}(h:az b.ah k=some r) (a:r.av<b.ad):aI b k=false:=by grind [bU]
theorem Bi.answer(a:Bi aa H on b) (hk:eB aa k) (ht:aw k=true∨aB k=true∨aI b k=true):dt (valOf aa b.ab) b k=valOf aa b.ab k:=by
 unfold dt
 by_cases hc:aB k=true
 ·
  rw [if_pos hc]
 rw [if_neg hc]
 unfold nG
 by_cases hi:aw k=true
 ·
  rw [if_pos hi]
  unfold valOf cellOf
  rw [if_pos hi]
 rw [if_neg hi]
 have hu:aI b k=true:=by grind
 obtain⟨r,d,g,e⟩:=a.c.up hu
 have f:jh b k=true:=by grind [jh,aS]
 rw [if_pos f,aS d,e]
theorem nN(h:dj s k=true):aw k=true∨(s.on k=true∧aB k=true)∨aI s.b k=true:=by
 unfold dj at h
 grind
theorem EB(h:aw k=true∨(s.on k=true∧aB k=true)∨aI s.b k=true):dj s k=true:=by
 unfold dj
 grind
theorem Bi.len(a:Bi aa H on b):b.ah.length≤aa.length:=by
 have h1:(b.ah.map (·.key)).Nodup:=by
  refine List.pairwise_map.2 (a.st.imp fun {x y} h e=>?_);rw [e,gD] at h
  omega
 have c:=ez (S:=(List.range aa.length).map fun i:Nat=>aH aa (i:Int)) h1 fun x d=>by
  obtain⟨r,hr,rfl⟩:=List.mem_map.1 d;obtain⟨i,hi,e⟩:=a.kr r hr
  grind
 simpa using c
/-! ### the order of what is asked -/
theorem lN(c:ao aa) {aA:List cj}{i:Nat}(hi:i<aa.length) {a:Key}(d:a∈cO aa aA i):dJ aa i a∧∀m:Nat,m<aa.length→a=aH aa (m:Int)→Lw aa m (j4 aa i)∧∀b,Lw aa i b→Lw aa m b:=by grind [List.mem_iff_getElem?,mR,j6,BD,ru,Ew]
theorem CH(c:ao aa) {aA:List cj}{i:Nat}(hi:i<aa.length) (hr:ax aa i=true) {a:Key}(d:a∈cO aa aA i) (hc:aB a=true):∃j:Nat,j<aa.length∧a=aH aa (j:Int)∧eC aa i j:=by grind [List.mem_iff_getElem?,mR,j6,da,ru,Ew,gA,fK]
theorem pr(f:ao aa) (g:Bi aa H on b) {i:Nat}(hi:i<aa.length) (h:bD b.ah b.ad (aH aa (i:Int))=true) {x:Key}(hl:bj b.ah b.ad (aH aa (i:Int)) x):∃j:Nat,j<aa.length∧x=aH aa (j:Int)∧cv aa i j:=by
 have A:=f.len
 have step:∀(m:Nat) y,m<aa.length→bD b.ah b.ad (aH aa (m:Int))=true→Ld b.ah b.ad (aH aa (m:Int)) y→∃j:Nat,j<aa.length∧y=aH aa (j:Int)∧eC aa m j:=by
  intro m y hm n hy;obtain⟨r,h1,a,d,e⟩:=bC.1 n;obtain⟨q,g1,g2,_⟩:=bC.1 hy.2;have o:=hy.1;rw [aS h1,(g.c.vr r (aO h1).1).2,(aO h1).2,dL f hm] at o
  grind [bd,CH]
 induction hl with
 | one h1=>
  obtain⟨j,a,d,e⟩:=step i _ hi h h1;exact⟨j,a,d,.step .refl e⟩
 | step h1 a p=>
  obtain⟨j,d,rfl,e⟩:=p;obtain⟨q,u,v,w⟩:=step j _ d h1.eY a;exact⟨q,u,v,.step e w⟩
theorem BG(a:ao aa) (d:Bi aa H on b) {i j:Nat}(hi:i<aa.length) (c:j<aa.length) (hl:Live b.ah b.ad (aH aa (i:Int))) (hm:aH aa (j:Int)∈aC b.ah b.ad (aH aa (i:Int))):j4 aa j=j4 aa i∧∀b,Lw aa i b→Lw aa j b:=by
 have o:=a.len
 rcases bH.1 hm with e | ⟨f,m1,m2⟩
 ·
  have:=dh a c hi e
  grind
 obtain⟨q,g,eq,h1⟩:=pr a d hi f m1
 have:=dh a c g eq
 subst this;obtain⟨p,h,m,n⟩:=pr a d c m1.eY m2
 have:=dh a hi h m
 subst this;have r:=iD a h1;have u:=iD a n;obtain⟨_,_,c1,_⟩:=bC.1 f;obtain⟨_,_,c2,_⟩:=bC.1 m1.eY;rw [bd hi (by omega)] at c1;rw [bd c (by omega)] at c2
 unfold j4 Lw
 grind
end
/-! ### a request -/
section
variable {aa:List aD}{H:Int→List cj}{b0:cW}
structure Rs (aa:List aD) (H:Int→List cj) (b0:cW) (N:Key→Prop) (s s':ES):Prop where
 e:s'.e=0
 bi:Bi aa H s.wL s'.b
 ev:iN (valOf aa b0.ab) N s'.cz b0.ad s.b.ah s'.b.ah
 wy:Wy aa b0 s'
theorem Rs.refl{N:Key→Prop}{s:ES}(he:s.e=0) (a:Bi aa H s.wL s.b) (c:Wy aa b0 s):Rs aa H b0 N s s:=⟨he,a,.refl _,c⟩
theorem Rs.trans{N:Key→Prop}{s t u:ES}(h:Rs aa H b0 N s t) (a:Rs aa H b0 N t u) (hr:∀y∈t.cz,y∈u.cz) (c:∀k,t.on k=s.on k):Rs aa H b0 N s u:=
 ⟨a.e,a.bi.Pw fun k hk=>by grind [ES.wL],(h.ev.mono hr fun _ h=>h).trans a.ev,a.wy⟩
def Ps(aa:List aD) (H:Int→List cj) (b0:cW) (s:ES) (k:Key) (n:Nat):Prop:=
 Live s.b.ah s.b.ad k→∀j c,j<n→(bP s.b.ah (aC s.b.ah s.b.ad k))[j]?=some c→
  valOf aa (H (aF s.b.ah c.eQ).av) c.read=valOf aa b0.ab c.read∧(aw c.read=true∨(s.on c.read=true∧aB c.read=true)∨aI s.b c.read=true)∧aP (valOf aa b0.ab) b0 c.read≤(aF s.b.ah c.eQ).av
theorem rA{val:Key→ByteArray}:∀f,(∀s k s',hY aa val f s k=some s'→∀y∈s.cz,y∈s'.cz)∧(∀s k n s' b,cm aa val f s k n=some (s',b)→∀y∈s.cz,y∈s'.cz)∧(∀s k r a s',eG aa val f s k r a=some s'→∀y∈s.cz,y∈s'.cz):=by
 intro f
 induction f with
 | zero=>grind [hY,cm,eG]
 | succ f c=>
  obtain⟨g,d,i⟩:=c;refine⟨?_,?_,?_⟩
  ·
   intro s k s' h y hy
   unfold hY at h
   split at h
   ·
    cases h;exact hy
   split at h
   ·
    cases h;exact hy
   split at h
   ·
    grind
   obtain⟨p,e,h⟩:=Option.bind_eq_some_iff.1 h;obtain⟨t,ht,h⟩:=Option.bind_eq_some_iff.1 h
   cases h
   have h1:=d _ _ _ p.1 p.2 e y hy
   grind
  ·
   grind [cm,Option.bind_eq_some_iff]
  grind [eG,Option.bind_eq_some_iff]
def UpR(aa:List aD) (H:Int→List cj) (b0:cW) (f:Nat):Prop:=∀s k s',hY aa (valOf aa b0.ab) f s k=some s'→Good aa b0.ab s→s.e=0→Bi aa H s.wL s.b→Wy aa b0 s→eB aa k→(∀i:Nat,i<aa.length→k=aH aa (i:Int)→Ve aa s i)→Rs aa H b0 (fun y=>s.on y=false) s s'
def ChR(aa:List aD) (H:Int→List cj) (b0:cW) (f:Nat):Prop:=∀s (i n:Nat) s' c,cm aa (valOf aa b0.ab) f s (aH aa (i:Int)) n=some (s',c)→Good aa b0.ab s→s.e=0→Bi aa H s.wL s.b→Wy aa b0 s→i<aa.length→s.on (aH aa (i:Int))=true→Oa aa s i→Ps aa H b0 s (aH aa (i:Int)) n→
 Rs aa H b0 (fun y=>s.on y=false∨y=aH aa (i:Int)) s s'∧(c=true→bD s'.b.ah b0.ad (aH aa (i:Int))=false∧aI s'.b (aH aa (i:Int))=false∧Jc (valOf aa b0.ab) b0 (aH aa (i:Int)))
def RuR(aa:List aD) (H:Int→List cj) (b0:cW) (f:Nat):Prop:=∀s (i n:Nat) s',eG aa (valOf aa b0.ab) f s (aH aa (i:Int)) (dG (ca aa (aH aa (i:Int))) (valOf aa b0.ab) n).1 (dG (ca aa (aH aa (i:Int))) (valOf aa b0.ab) n).2=some s'→Good aa b0.ab s→s.e=0→Bi aa H s.wL s.b→Wy aa b0 s→i<aa.length→n≤cy aa i→s.on (aH aa (i:Int))=true→Oa aa s i→
 bD s.b.ah b0.ad (aH aa (i:Int))=false→aI s.b (aH aa (i:Int))=false→Jc (valOf aa b0.ab) b0 (aH aa (i:Int))→(∀a∈(dG (ca aa (aH aa (i:Int))) (valOf aa b0.ab) n).1,dj s a=true)→
 Rs aa H b0 (fun y=>s.on y=false∨y=aH aa (i:Int)) s s'
theorem Bi.kV{s t:ES}(h:Bi aa H s.wL t.b) (hk:fV s t):Bi aa H t.wL t.b:=h.Pw fun k a=>by grind [ES.wL,fV.on]
theorem Oa.kV{s t:ES}{i:Nat}(h:Oa aa s i) (hk:fV s t):Oa aa t i:=fun j a c=>h j a (by rw [← hk.on];exact c)
theorem Rs.mono{N N':Key→Prop}{s s':ES}(h:Rs aa H b0 N s s') (a:∀y,N y→N' y):Rs aa H b0 N' s s':=⟨h.e,h.bi,h.ev.mono (fun _ h=>h) a,h.wy⟩
theorem xL(rev:Int) (G:List Key) (r:Rec):(bK rev G false r).bp=r.bp:=by
 unfold bK
 grind
theorem vm(w:ao aa):∀f,UpR aa H b0 f∧ChR aa H b0 f∧RuR aa H b0 f:=by
 have Cs:=w.len;intro f
 induction f with
 | zero=>exact⟨fun s k s' h=>by simp [hY] at h,fun s i n s' c h=>by simp [cm] at h,fun s i n s' h=>by simp [eG] at h⟩
 | succ f ih=>
  obtain⟨ihu,Vj,ihr⟩:=ih;have gd:=bR (val:=valOf aa b0.ab) (aA:=b0.ab) w f;have W:=fT (val:=valOf aa b0.ab) (aA:=b0.ab) w f;have rn:=rA (aa:=aa) (val:=valOf aa b0.ab) f;refine⟨?_,?_,?_⟩
  ·
   intro s k s' h B he g d hk N9
   unfold hY at h
   split at h
   ·
    cases h;exact .refl he g d
   rename_i TO
   have L:aw k=false:=by simp at TO;exact TO.2
   split at h
   ·
    cases h;exact .refl he g d
   rename_i hu
   obtain⟨i,hi,rfl,_⟩:=hk.gx L
   split at h
   ·
    rename_i ho
    split at h
    ·
     cases h;exact .refl he g d
    rename_i hc
    have h1:=N9 i hi rfl i hi ho
    grind [bd,Lw,j4]
   rename_i ho
   have Gr:s.on (aH aa (i:Int))=false:=by simpa using ho
   obtain⟨⟨s2,c2⟩,G,h⟩:=Option.bind_eq_some_iff.1 h;obtain⟨s3,ht,h⟩:=Option.bind_eq_some_iff.1 h;simp only [Option.some.injEq] at h;subst h;have KO:∀y,ES.on {s with busy:=bZ s.busy (aH aa (i:Int)) (.bool true)} y=(decide (aH aa (i:Int)=y) || s.on y):=fun y=>k9 s _ y;have X:=B.on (aH aa (i:Int))
   generalize oh:({s with busy:=bZ s.busy (aH aa (i:Int)) (.bool true)}:ES)=s1 at G KO X
   have e1:s1.b=s.b:=by rw [← oh]
   have e2:s1.cz=s.cz:=by rw [← oh]
   have e3:s1.e=0:=by rw [← oh];exact he
   have Py:s1.on (aH aa (i:Int))=true:=by rw [KO];simp
   have hB1:Bi aa H s1.wL s1.b:=by
    rw [e1];refine g.Pw fun y hy=>?_
    unfold ES.wL at hy ⊢
    grind
   have hW1:Wy aa b0 s1:=⟨by rw [e1];exact d.rev,by rw [e1];exact d.aA,by rw [e1,e2];exact d.ev,by rw [e1];exact d.Ob,by rw [e2];exact d.cz,by rw [e1,e2];exact d.TR,by rw [e1,e2];exact d.TS,by rw [e2];exact d.ie⟩
   have hr1:Oa aa s1 i:=fun j u D=>by
    rw [KO] at D;simp only [Bool.or_eq_true,decide_eq_true_eq] at D
    rcases D with D | D
    ·
     exact .inl (dh w u hi D.symm)
    exact .inr (N9 i hi rfl j u D)
   obtain⟨c1,c3⟩:=Vj s1 i 0 s2 c2 G X e3 hB1 hW1 hi Py hr1 fun _ j c u=>by omega
   obtain⟨k1,k2,_⟩:=W.2.1 _ _ _ _ _ G X;have hg2:=(gd.2.1 _ _ _ _ _ G X).1
   have key:Rs aa H b0 (fun y=>s1.on y=false∨y=aH aa (i:Int)) s1 s3∧aI s3.b (aH aa (i:Int))=true:=by
    cases c2 with
    | false=>
     simp only [Bool.false_eq_true,if_false,Option.some.injEq] at ht;subst ht;exact⟨c1,(k2 c1.e).2 rfl⟩
    | true=>
     simp only [if_true] at ht;obtain⟨d1,d2,d3⟩:=c3 rfl
     have r2:=ihr s2 i 0 s3 ht hg2 c1.e (c1.bi.kV k1) c1.wy hi (Nat.zero_le _) (by rw [k1.on];exact Py) (hr1.kV k1) d1 d2 d3 fun a v=>by simp [dG] at v
     refine⟨c1.trans (r2.mono fun y hy=>by rw [← k1.on];exact hy) (rn.2.2 _ _ _ _ _ ht) k1.on,?_⟩;exact((W.2.2 _ _ _ _ _ ht hg2 (hk.gx L)).2.1 r2.e).2
   obtain⟨r3,hu3⟩:=key;refine⟨r3.e,?_,?_,⟨r3.wy.rev,r3.wy.aA,r3.wy.ev,r3.wy.Ob,r3.wy.cz,r3.wy.TR,r3.wy.TS,r3.wy.ie⟩⟩
   ·
    refine r3.bi.off hu3 fun y hy=>?_
    unfold ES.wL at hy ⊢
    grind
   have:=r3.ev
   rw [e1] at this;refine this.mono (fun _ h=>h) fun y hy=>?_
   grind
  ·
   intro s i n s' c h B he g d hi R M O;have L:aw (aH aa (i:Int))=false:=bX hi (by omega)
   unfold cm at h
   rw [if_neg (by simp [he])] at h
   split at h
   ·
    rename_i hc
    simp only [Option.some.injEq,Prod.mk.injEq] at h;obtain⟨rfl,rfl⟩:=h;refine⟨.refl he g d,fun _=>?_⟩
    cases o:az s.b.ah (aH aa (i:Int)) with
    | none=>
     refine⟨?_,rz o,L,d.Ez (rz o),.inl (d.none o)⟩;rw [Bool.eq_false_iff]
     grind [bC]
    | some r=>
     rw [o,aS o] at hc
     have A:r.bp=true:=by simpa using hc
     have S:=g.dv r (aO o).1 A;refine⟨?_,lM o S,L,d.Ez (lM o S),.inr (d.Ob _ r o A)⟩;rw [Bool.eq_false_iff]
     grind [bC]
   rename_i hc
   split at h
   ·
    simp only [Option.some.injEq,Prod.mk.injEq] at h;obtain⟨rfl,rfl⟩:=h;exact⟨.refl he g d,fun e=>by cases e⟩
   rename_i S
   have hl:Live s.b.ah s.b.ad (aH aa (i:Int)):=by
    cases o:az s.b.ah (aH aa (i:Int)) with
    | none=>rw [o] at hc;simp at hc
    | some r=>
     rw [o,aS o] at hc;rw [aS o] at S;have h1:=(g.c.CC r (aO o).1).1;exact⟨r,o,by simpa using hc,by omega⟩
   have O:=O hl
   have Pz:aI s.b (aH aa (i:Int))=false:=by
    obtain⟨r,h1,_,P⟩:=hl;exact lM h1 P
   split at h
   ·
    rename_i hn
    simp only [Option.some.injEq,Prod.mk.injEq] at h;obtain⟨rfl,rfl⟩:=h
    have G:∀m∈aC s.b.ah s.b.ad (aH aa (i:Int)),∀a∈(aF s.b.ah m).reads,a∉aC s.b.ah s.b.ad (aH aa (i:Int))→valOf aa (H (aF s.b.ah m).av) a=valOf aa s.b.ab a∧(aw a=true∨(s.wL a=true∧aB a=true)∨aI s.b a=true):=fun m hm a v T=>by
     have vn:(⟨m,a⟩:ph)∈bP s.b.ah (aC s.b.ah s.b.ad (aH aa (i:Int))):=fo.2 ⟨hm,v,T⟩;obtain⟨j,u⟩:=List.mem_iff_getElem?.1 vn;have h1:=(List.getElem?_eq_some_iff.1 u).1;have P:=List.getElem?_eq_none_iff.1 hn;have Y:=O j ⟨m,a⟩ (by omega) u;rw [d.aA];exact⟨Y.1,Y.2.1.imp id (Or.imp (fun p=>⟨zM p,p.2⟩) id)⟩
    have zn:=d.Px hl fun m hm a v T=>by
     have vn:(⟨m,a⟩:ph)∈bP s.b.ah (aC s.b.ah s.b.ad (aH aa (i:Int))):=fo.2 ⟨hm,v,T⟩;obtain⟨j,u⟩:=List.mem_iff_getElem?.1 vn;have h1:=(List.getElem?_eq_some_iff.1 u).1;have P:=List.getElem?_eq_none_iff.1 hn;exact(O j ⟨m,a⟩ (by omega) u).2.2
    have C:∀N:Key→Prop,N (aH aa (i:Int))→iN (valOf aa b0.ab) N s.cz b0.ad s.b.ah (de s.b (aC s.b.ah s.b.ad (aH aa (i:Int))) false).ah:=fun N hN=>by
     rw [← d.rev];exact iN.mark hl false (.inr hN)
    refine⟨⟨he,g.mark w hl G,C _ (.inr rfl),d.step rfl rfl (C _ trivial) (fun _ h=>h) (fun y r' o A=>?_) d.cz (fun _ h=>.inl h) (fun y hu Z=>.inr (zn y (Hl hu Z))) d.ie⟩,fun e=>by cases e⟩;have I:(az s.b.ah y).map (bK s.b.ad (aC s.b.ah s.b.ad (aH aa (i:Int))) false)=some r':=dM.symm.trans o;obtain⟨r,hr,rfl⟩:=Option.map_eq_some_iff.1 I;rw [xL] at A;exact d.Ob y r hr A
   rename_i c0 TT
   obtain⟨hm,v,T⟩:=fo.1 (List.mem_of_getElem? TT);obtain⟨j,u,ej⟩:=g.key (lL hl hm);obtain⟨rm,g1,g2,g3⟩:=lL hl hm;have J:eB aa c0.read:=fm B TT
   split at h
   ·
    obtain⟨t,ht,h⟩:=Option.bind_eq_some_iff.1 h
    have Vk:=lN w (aA:=H rm.av) u (a:=c0.read) (by
     have h1:=(g.c.vr rm (aO g1).1).2;rw [(aO g1).2,ej,dL w u] at h1
     grind [aS])
    have r1:=ihu s c0.read t ht B he g d J fun q hq eq p G hpo=>by
     obtain⟨E,h5⟩:=Vk.2 q hq eq;obtain⟨g4,g5⟩:=BG w g hi u hl (ej ▸ hm)
     rcases M p G hpo with rfl | h6
     ·
      rw [← g4];exact E
     exact h5 _ (g5 _ h6)
    obtain⟨k1,_,_⟩:=W.1 _ _ _ ht B J;have gt:=(gd.1 _ _ _ ht B J).1;have e1:t.b.ad=s.b.ad:=r1.wy.rev.trans d.rev.symm
    have C:iN (valOf aa b0.ab) (fun y=>s.on y=false) t.cz s.b.ad s.b.ah t.b.ah:=by
     rw [d.rev];exact r1.ev
    obtain⟨r2,r3⟩:=Vj t i n s' c h gt r1.e (r1.bi.kV k1) r1.wy hi (by rw [k1.on];exact R) (M.kV k1) fun F U V hjn K=>by
     rw [e1] at F K;rw [C.KJ F] at K;obtain⟨p1,p2,p3⟩:=O U V hjn K;have hm':=(fo.1 (List.mem_of_getElem? K)).1
     have e3:aF t.b.ah V.eQ=aF s.b.ah V.eQ:=by
      unfold aF
      rw [(C.group F).2 _ hm']
     rw [e3];refine⟨p1,?_,p3⟩
     rcases p2 with p | p | p
     ·
      exact .inl p
     ·
      grind [fV.on]
     exact .inr (.inr (k1.up _ p))
    exact⟨(r1.mono fun y hy=>.inl hy).trans (r2.mono fun y hy=>by rw [← k1.on];exact hy) (rn.2.1 _ _ _ _ _ h) k1.on,r3⟩
   rename_i Pk
   have KP:=nN (s:=s) (k:=c0.read) (by simpa using Pk)
   split at h
   ·
    rename_i F
    have PA:=d.KN g hl hm v T F;have Hm:Jc (valOf aa b0.ab) b0 (aH aa (i:Int)):=⟨L,d.Ez Pz,.inr (.inr (PA _ lk))⟩;simp only [Option.some.injEq,Prod.mk.injEq] at h;obtain⟨h,rfl⟩:=h
    cases PC:aB (aH aa (i:Int)) with
    | false=>
     rw [PC] at h;simp only [Bool.false_eq_true,if_false] at h;subst h;refine⟨.refl he g d,fun _=>⟨?_,Pz,Hm⟩⟩;rw [Bool.eq_false_iff]
     grind [bC]
    | true=>
     rw [PC] at h;simp only [if_true] at h;subst h
     have C:∀N:Key→Prop,iN (valOf aa b0.ab) N s.cz b0.ad s.b.ah (de s.b (aC s.b.ah s.b.ad (aH aa (i:Int))) true).ah:=fun N=>by
      rw [← d.rev];exact iN.mark hl true (.inl PC)
     obtain⟨r,f1,f2,f3⟩:=hl
     have hfk:az (de s.b (aC s.b.ah s.b.ad (aH aa (i:Int))) true).ah (aH aa (i:Int))=some {r with bp:=true}:=by
      refine dM.trans ?_;rw [f1]
      show some (bK _ _ _ r)=_
      unfold bK
      rw [if_pos (by rw [(aO f1).2];exact lk)]
      rfl
     refine⟨⟨he,g.bp fun m hm=>lL ⟨r,f1,f2,f3⟩ hm,C _,d.step rfl rfl (C _) (fun _ h=>h) (fun y r' o A=>?_) d.cz (fun _ h=>.inl h) (fun y hu Z=>by grind [Ey]) d.ie⟩,fun _=>⟨?_,lM hfk f3,Hm⟩⟩
     ·
      have I:(az s.b.ah y).map (bK s.b.ad (aC s.b.ah s.b.ad (aH aa (i:Int))) true)=some r':=dM.symm.trans o;obtain⟨q,hq,rfl⟩:=Option.map_eq_some_iff.1 I
      by_cases hy:y∈aC s.b.ah s.b.ad (aH aa (i:Int))
      ·
       exact .inr (PA y hy)
      unfold bK at A
      rw [if_neg (by rw [(aO hq).2];exact hy)] at A;exact d.Ob y q hq A
     rw [Bool.eq_false_iff]
     grind [bC]
   rename_i hle
   refine Vj s i (n+1) s' c h B he g d hi R M fun _ U V hjn K=>?_
   rcases Nat.lt_or_ge U n with F | KQ
   ·
    exact O U V F K
   have:U=n:=by omega
   subst this;rw [TT] at K
   have:=Option.some.inj K
   subst this;refine⟨?_,KP,by rw [← d.changed g c0.read];exact Int.not_lt.1 hle⟩;rw [aS g1] at hle v ⊢;have h1:=g.c.changed (aO g1).1 g3 v (by rw [d.aA];omega)
   grind [Wy.aA]
  intro s i n s' h B he g d hi hn R M PD gJ Hm Pk
  have gq:i≤99:=by omega
  unfold eG at h
  rw [if_neg (by simp [he]),ey hi gq] at h
  rcases Nat.lt_or_ge n (cy aa i) with F | KQ
  ·
   obtain⟨a,h1,P,Y⟩:=BD w hi (ai:=(dG (ca aa (aH aa (i:Int))) (valOf aa b0.ab) n).2) (by grind [ed]);rw [h1] at h;simp only [Bool.false_eq_true,if_false] at h;obtain⟨t,ht,h⟩:=Option.bind_eq_some_iff.1 h;have J:=P.vf w
   have r1:=ihu s a t ht B he g d J fun m hm ham j u D=>by
    obtain⟨E,h5⟩:=Y m hm ham
    rcases M j u D with rfl | h6
    ·
     exact E
    exact h5 _ h6
   obtain⟨k1,k2,_⟩:=W.1 _ _ _ ht B J;have gt:=(gd.1 _ _ _ ht B J).1
   have BH:dj t a=true:=by grind [Rs.e,EB]
   have Vl:dt (valOf aa b0.ab) t.b a=valOf aa b0.ab a:=by
    rw [← r1.wy.aA];refine r1.bi.answer J ?_
    rcases nN BH with E | E | E
    ·
     exact .inl E
    ·
     exact .inr (.inl E.2)
    exact .inr (.inr E)
   rw [if_pos r1.e,Vl] at h
   have EC:az t.b.ah (aH aa (i:Int))=az s.b.ah (aH aa (i:Int)):=by
    rcases r1.ev.pt (aH aa (i:Int)) with e | ⟨e0,r,e1,e2,e3,_⟩ | ⟨⟨_,e0⟩,_⟩
    ·
     exact e
    ·
     grind [bC]
    grind
   have r2:=ihr t i (n+1) s' (by grind [dG]) gt r1.e (r1.bi.kV k1) r1.wy hi F (by rw [k1.on];exact R) (M.kV k1) (by grind [bD,aF]) (by
    rw [← gJ]
    unfold aI aF
    rw [EC,r1.wy.rev,d.rev]) Hm (fun x Q=>by
    simp only [dG] at Q;rw [h1] at Q
    rcases List.mem_append.1 Q with Q | Q
    ·
     exact k1.there (Pk x Q)
    grind)
   exact(r1.mono fun y hy=>.inl hy).trans (r2.mono fun y hy=>by rw [← k1.on];exact hy) (rn.2.2 _ _ _ _ _ h) k1.on
  have I1:n=cy aa i:=by omega
  subst I1;rw [fL w hi] at h;simp only [if_true] at h;rw [if_neg (by have:=g.len;simp;omega)] at h;simp only [Option.some.injEq] at h;subst h;have Vm:∀a∈cO aa b0.ab i,aw a=true∨(s.on a=true∧aB a=true)∨aI s.b a=true:=fun a v=>nN (Pk a v);have Jd:=g.put w hi (fun hc=>zM ⟨R,hc⟩) (by rw [d.aA];exact fun a v=>(Vm a v).imp id (Or.imp (fun p=>⟨zM p,p.2⟩) id));rw [d.aA] at Jd
  have C:∀N:Key→Prop,N (aH aa (i:Int))→iN (valOf aa b0.ab) N (s.cz++[aH aa (i:Int)]) b0.ad s.b.ah (eN s.b.ah (di s.b (aH aa (i:Int)) (valOf aa b0.ab (aH aa (i:Int))) (cO aa b0.ab i))):=fun N hN=>by
   refine iN.put PD (fun r hr=>?_) ⟨by simp [di],hN⟩ d.rev rfl rfl (fun r hr=>?_) fun hn=>?_
   ·
    have h1:=(g.c.CC r (aO hr).1).1
    have P:r.av≠s.b.ad:=fun e=>by
     have:aI s.b (aH aa (i:Int))=true:=bU.2 ⟨r,hr,e⟩
     grind
    have:=d.rev
    omega
   ·
    have TU:az s.b.ah (aH aa (i:Int))=some r:=hr
    unfold di
    simp only [TU,aS TU,d.rev]
    grind
   grind [di,Wy.rev]
  refine⟨he,by show Bi aa H s.wL ⟨s.b.ad,s.b.ab,_⟩;rw [d.aA];exact Jd,C _ (.inr rfl),d.step rfl rfl (C _ trivial) (fun y hy=>by simp [hy]) (fun y r o A=>?_) (fun y hy=>?_) (fun y hy=>?_) (fun y hu Z=>?_) (CE d.ie fun hr=>by have:=d.TR _ hr;rw [gJ] at this;cases this)⟩
  ·
   have I:az (eN s.b.ah (di s.b (aH aa (i:Int)) (valOf aa b0.ab (aH aa (i:Int))) (cO aa b0.ab i))) y=some r:=o;rw [eR] at I
   split at I
   ·
    have:=Option.some.inj I
    subst this
    cases A
   exact d.Ob y r I A
  ·
   rcases List.mem_append.1 hy with hy | hy
   ·
    exact d.cz y hy
   grind
  ·
   rcases List.mem_append.1 hy with hy | hy
   ·
    exact .inl hy
   rw [List.mem_singleton] at hy;rw [hy];exact .inr (q9 (r:=di s.b (aH aa (i:Int)) (valOf aa b0.ab (aH aa (i:Int))) (cO aa b0.ab i)) rfl)
  refine .inl ?_
  by_cases e:y=aH aa (i:Int)
  ·
   rw [e]
   simp
  obtain⟨r,hr,S⟩:=bU.1 Z;have TU:az (eN s.b.ah (di s.b (aH aa (i:Int)) (valOf aa b0.ab (aH aa (i:Int))) (cO aa b0.ab i))) y=some r:=hr;rw [eR,if_neg (show ¬y=(di s.b (aH aa (i:Int)) (valOf aa b0.ab (aH aa (i:Int))) (cO aa b0.ab i)).key from e)] at TU
  grind [bU]
theorem BI{val:Key→ByteArray}{f:Nat}:∀{l:List Key}{s s':ES},cI aa val f s l=some s'→∀y∈s.cz,y∈s'.cz
 | [],s,s',h,y,hy=>by grind [cI]
 | k::r,s,s',h,y,hy=>by
  simp only [cI] at h;obtain⟨t,h1,a⟩:=Option.bind_eq_some_iff.1 h;exact BI a y ((rA f).1 _ _ _ h1 y hy)
theorem um(g:ao aa) {f:Nat}:∀{l:List Key}{s s':ES},cI aa (valOf aa b0.ab) f s l=some s'→Good aa b0.ab s→s.e=0→Bi aa H s.wL s.b→Wy aa b0 s→(∀k∈l,eB aa k)→(∀k,s.on k=false)→Rs aa H b0 (fun _=>True) s s'∧(∀k,s'.on k=false)∧(∀k,aI s.b k=true→aI s'.b k=true)∧∀k∈l,aw k=false→aI s'.b k=true
 | [],s,s',h,m,he,o,p,_,c=>by
  simp only [cI,Option.some.injEq] at h;subst h;exact⟨.refl he o p,c,fun _ h=>h,fun k hk=>by cases hk⟩
 | k::r,s,s',h,m,he,o,p,hk,c=>by
  simp only [cI] at h;obtain⟨t,h1,A⟩:=Option.bind_eq_some_iff.1 h;have u:=hk k (by simp);have D:=((bR (val:=valOf aa b0.ab) g f).1 _ _ _ h1 m u).1;obtain⟨d,kt,_⟩:=(fT (val:=valOf aa b0.ab) g f).1 _ _ _ h1 m u
  have r1:=(vm (H:=H) (b0:=b0) g f).1 s k t h1 m he o p u fun i _ _ j _ B=>by rw [c] at B;cases B
  obtain⟨r2,E,C,g2⟩:=um g A D r1.e (r1.bi.kV d) r1.wy (fun k F=>hk k (by simp [F])) fun k=>by rw [d.on];exact c k
  have G:=BI A;refine⟨(r1.mono fun _ _=>trivial).trans r2 G d.on,E,fun y hy=>C y (d.up y hy),fun q v w=>?_⟩
  rcases List.mem_cons.1 v with rfl | v
  ·
   refine C _ ?_
   rcases(kt r1.e).2 with n | n
   ·
    rw [w] at n
    cases n
   rcases nN n with a | a | a
   ·
    rw [w] at a
    cases a
   ·
    rw [d.on,c] at a
    cases a.1
   exact a
  exact g2 q v w
end
end Go.Rc

namespace Go.Rc
open Go
def Bh(aa:List aD) (b:cW):Prop:=∃H:Int→List cj,Bi aa H (fun _=>false) b
section
variable {aa:List aD}{H:Int→List cj}{on:Key→Bool}{x y b:cW}{k:Key}
theorem Bh.new(aa:List aD) (rev:Int) (aA:List cj):Bh aa ⟨rev,aA,[]⟩:=
 ⟨fun _=>aA,⟨⟨rfl,fun _ _ _ _ _=>rfl,fun r hr=>(by cases hr),fun r hr=>(by cases hr),fun r hr=>(by cases hr),fun r hr=>(by cases hr)⟩,List.Pairwise.nil,fun r hr=>(by cases hr),fun r hr=>(by cases hr)⟩⟩
theorem Bh.apply(h:Bh aa x) (hr:y.ah=x.ah) (m:y.ad=x.ad+1) (hk:∀k,bs y.ab k=bs x.ab k∨(bs y.ab k).changed=y.ad):Bh aa y:=by
 obtain⟨H,h⟩:=h;have hH:∀t,t≤x.ad→(if t≤x.ad then H t else y.ab)=H t:=fun t ht=>if_pos ht;refine⟨fun t=>if t≤x.ad then H t else y.ab,⟨⟨?_,fun k t hi h1 f=>?_,fun r d=>?_,fun r d=>?_,fun r d a i hi ra g=>?_,fun r d hc a i hi ra g=>?_⟩,by rw [hr];exact h.st,by rw [hr];exact h.kr,fun r d j=>?_⟩⟩
 ·
  grind
 ·
  by_cases ht:t≤x.ad
  ·
   show cellOf (if t≤x.ad then H t else y.ab) k=_
   rw [if_pos ht]
   rcases hk k with e | e
   ·
    rw [e] at h1;rw [h.c.eJ k t hi h1 ht]
    unfold cellOf
    rw [e]
   omega
  grind
 ·
  rw [hr] at d
  have:=h.c.CC r d
  omega
 ·
  rw [hr] at d;have h1:=h.c.CC r d;rw [hH _ h1.1];exact h.c.vr r d
 ·
  rw [hr] at d g;have h1:=h.c.CC r d;rw [hH _ h1.1]
  rcases h.c.rr r d a i hi ra g with⟨_,f⟩ | f
  ·
   cases f
  exact .inr f
 ·
  rw [hr] at d g
  rcases h.c.rs r d hc a i hi ra g with⟨_,f⟩ | f
  ·
   cases f
  exact .inr f
 rw [hr] at d
 have:=h.dv r d j
 omega
theorem Wy.start(b:cW):Wy aa b ⟨b,[],[],0⟩:=⟨rfl,rfl,.refl _,fun y r c d=>.inl (by rw [aS c];exact d),fun y hy=>(by cases hy),fun y hy=>(by cases hy),fun y h1 a=>(by rw [h1] at a;cases a),List.nodup_nil⟩
theorem Bh.request(d:ao aa) (h:Bh aa b) {f:Nat}{l:List Key}{s':ES}(g:Good aa b.ab ⟨b,[],[],0⟩) (hk:∀k∈l,eB aa k) (i:cI aa (valOf aa b.ab) f ⟨b,[],[],0⟩ l=some s') :
  s'.e=0∧Bh aa s'.b∧Wy aa b s'∧(∀k,aI b k=true→aI s'.b k=true)∧(∀k∈l,aw k=false→aI s'.b k=true)∧∀r∈s'.b.ah,r.av=s'.b.ad→r.value=valOf aa b.ab r.key:=by
 obtain⟨H,h⟩:=h;have j:Wy aa b ⟨b,[],[],0⟩:=Wy.start b
 obtain⟨h1,p,m,n⟩:=um (H:=H) (b0:=b) d i g rfl (h.Pw fun k hk=>by cases hk) j hk fun k=>rfl
 have a:Bi aa H (fun _=>false) s'.b:=h1.bi.Pw fun k hk=>by grind [ES.wL,ES.on,aX]
 refine⟨h1.e,⟨H,a⟩,h1.wy,m,n,fun r hr o=>?_⟩;rw [(a.c.vr r hr).1,o,a.c.now,h1.wy.aA]
end
end Go.Rc

namespace Go.Rc
open Go
end Go.Rc

