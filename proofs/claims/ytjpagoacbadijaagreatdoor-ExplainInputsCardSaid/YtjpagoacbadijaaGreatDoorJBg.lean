/- Base of the proof: frames, memory, ownership, and the plain meaning of rule systems. Conditions: as each lemma says. -/
import Derived.Test.YtjpagoacbadijaaGreatDoorJBf
set_option linter.all false
namespace Go.Rc
open Go
/-! ### lists of keys in order -/
def GN(l:List Key):Prop:=l.Pairwise fun a b=>bm a b<0
theorem mA{a b:Key}(h:bm a b<0) (c:bm b a<0):False:=by grind [fK,gF]
theorem Bj{k:Key}:∀{l:List Key},GN l→GN (kq k l)
 | [],_=>by simp [kq,GN]
 | x::r,h=>by
  obtain⟨h1,d⟩:=List.pairwise_cons.1 h
  unfold kq
  split
  ·
   rename_i c
   refine List.pairwise_cons.2 ⟨fun y hy=>?_,Bj d⟩
   grind [wW]
  rename_i c
  split
  ·
   exact h
  rename_i e
  have f:bm k x<0:=by grind [gG,jZ]
  refine List.pairwise_cons.2 ⟨fun y hy=>?_,h⟩
  grind [fK]
theorem D4(l:List Key):GN (iv l):=by
 have key:∀(l acc:List Key),GN acc→GN (l.foldl (fun out k=>kq k out) acc):=by
  intro l
  induction l with
  | nil=>intro acc h;exact h
  | cons x r c=>grind [Bj]
 exact key l [] List.Pairwise.nil
theorem zo:∀{a b:List Key},GN a→GN b→(∀x,x∈a↔x∈b)→a=b
 | [],[],_,_,_=>rfl
 | [],y::b,_,_,h=>by have:=(h y).2 (by simp);cases this
 | x::a,[],_,_,h=>by have:=(h x).1 (by simp);cases this
 | x::a,y::b,h1,c,h=>by
  obtain⟨i,d⟩:=List.pairwise_cons.1 h1;obtain⟨j,f⟩:=List.pairwise_cons.1 c
  have e:x=y:=by
   rcases List.mem_cons.1 ((h x).1 (by simp)) with e | e
   ·
    exact e
   rcases List.mem_cons.1 ((h y).2 (by simp)) with e2 | e2
   ·
    exact e2.symm
   grind [mA]
  subst e
  congr 1
  refine zo d f fun z=>⟨fun g=>?_,fun g=>?_⟩
  ·
   grind [mA]
  grind [mA]
/-! ### rings that belong together -/
section
variable {l l':List Rec}{rev:Int}{k x y z:Key}
theorem bK:bD l rev k=true↔∃r,ay l k=some r∧aA k=true∧r.aq<rev∧r.bq=false:=by
 unfold bD aD
 cases h:ay l k with
 | none=>simp
 | some r=>simp
theorem bu.trans(h:bu l rev k x) (c:bu l rev x y):bu l rev k y:=by
 induction c with
 | one c=>exact .step h c
 | step _ d e=>exact .step e d
def tM(l:List Rec) (rev:Int) (x y:Key):Prop:=bu l rev x y∧bu l rev y x
theorem tM.symm(h:tM l rev x y):tM l rev y x:=⟨h.2,h.1⟩
theorem tM.trans(h:tM l rev x y) (c:tM l rev y z):tM l rev x z:=⟨h.1.trans c.1,c.2.trans h.2⟩
theorem tM.eQ(h:tM l rev x y):bD l rev y=true:=h.1.eQ
theorem zp:y∈gE l rev k l↔y≠k∧tM l rev k y:=by
 unfold gE wY
 rw [List.mem_map]
 constructor
 ·
  rintro⟨r,hr,rfl⟩;rw [List.mem_filter] at hr;simp only [Bool.and_eq_true,decide_eq_true_eq,iw] at hr;exact⟨hr.2.1,hr.2.2.1,hr.2.2.2⟩
 rintro⟨h1,c⟩;obtain⟨r,hr,rfl⟩:=List.mem_map.1 (kL c.eQ);exact⟨r,List.mem_filter.2 ⟨hr,by simp only [Bool.and_eq_true,decide_eq_true_eq,iw];exact⟨h1,c.1,c.2⟩⟩,rfl⟩
theorem cj:y∈aB l rev k↔y=k∨(bD l rev k=true∧tM l rev k y):=by
 unfold aB
 split
 ·
  rename_i h
  rw [oa,List.mem_cons,zp]
  grind
 grind
theorem oU:k∈aB l rev k:=cj.2 (.inl rfl)
theorem oe(l:List Rec) (rev:Int) (k:Key):GN (aB l rev k):=by
 unfold aB
 split
 ·
  exact D4 _
 exact List.pairwise_singleton _ _
theorem gS(h:aA k=false):aB l rev k=[k]:=by
 unfold aB
 rw [if_neg]
 grind [bK]
theorem tN(hk:bD l rev k=true) (h:tM l rev k y) (z:Key):z∈aB l rev y↔z∈aB l rev k:=by
 rw [cj,cj]
 constructor
 ·
  rintro(rfl | ⟨_,h1⟩)
  ·
   exact .inr ⟨hk,h⟩
  exact .inr ⟨hk,h.trans h1⟩
 rintro(rfl | ⟨_,h1⟩)
 ·
  exact .inr ⟨h.eQ,h.symm⟩
 exact .inr ⟨h.eQ,h.symm.trans h1⟩
theorem gT{g:List Key}{c:nf}:c∈bU l g↔c.eP∈g∧c.read∈(aD l c.eP).reads∧c.read∉g:=by
 unfold bU cp
 grind
theorem ss{g:List Key}(h:∀m∈g,aD l' m=aD l m):bU l' g=bU l g:=by
 unfold bU
 have key:∀s:List Key,(∀m∈s,aD l' m=aD l m)→(s.flatMap fun m=>cp g m (aD l' m).reads)=s.flatMap fun m=>cp g m (aD l m).reads:=by
  intro s
  induction s with
  | nil=>intro _;rfl
  | cons m r c=>grind
 exact key g h
end
/-! ### the change of records -/
def Pt(val:Key→ByteArray) (N:Key→Prop) (rev:Int) (cw:List Key) (y:Key) (o o':Option Rec):Prop:=
 o'=o∨((aA y=true∨N y)∧∃r,o=some r∧r.bq=false∧r.aq<rev∧(o'=some {r with aq:=rev}∨o'=some {r with bq:=true}))∨
 ((y∈cw∧N y)∧(∀r,o=some r→r.aq<rev)∧∃r',o'=some r'∧r'.aq=rev∧r'.bq=false∧r'.value=val y∧(∀r,o=some r→r'.changed=if r.value=r'.value then r.changed else rev)∧(o=none→r'.changed=rev))
structure iD (val:Key→ByteArray) (N:Key→Prop) (cw:List Key) (rev:Int) (l l':List Rec):Prop where
 pt:∀y,Pt val N rev cw y (ay l y) (ay l' y)
 scc:∀y z,tM l rev y z→bD l' rev y=true→bD l' rev z=true
def Live(l:List Rec) (rev:Int) (k:Key):Prop:=∃r,ay l k=some r∧r.bq=false∧r.aq<rev
theorem Live.uW{l:List Rec}{rev:Int}{k:Key}(h:bD l rev k=true):Live l rev k:=by
 obtain⟨r,h1,_,c,d⟩:=bK.1 h;exact⟨r,h1,d,c⟩
theorem Live.eQ{l:List Rec}{rev:Int}{k:Key}(h:Live l rev k) (hc:aA k=true):bD l rev k=true:=by
 obtain⟨r,h1,c,d⟩:=h
 grind [bK]
section
variable {val:Key→ByteArray}{N N':Key→Prop}{cw Ot:List Key}{rev:Int}{l l' l2:List Rec}{k x y z:Key}
theorem iD.refl(l:List Rec):iD val N cw rev l l:=⟨fun _=>.inl rfl,fun _ _ h _=>h.eQ⟩
theorem iD.mono(h:iD val N cw rev l l') (hr:∀y∈cw,y∈Ot) (d:∀y,N y→N' y):iD val N' Ot rev l l':=
 ⟨fun y=>by
  rcases h.pt y with h | ⟨h1,c⟩ | ⟨⟨h1,c⟩,e⟩
  ·
   exact .inl h
  ·
   exact .inr (.inl ⟨h1.imp id (d y),c⟩)
  exact .inr (.inr ⟨⟨hr y h1,d y c⟩,e⟩),h.scc⟩
theorem iD.live(h:iD val N cw rev l l') (hl:Live l' rev y):ay l' y=ay l y:=by
 obtain⟨r,h1,c,d⟩:=hl
 rcases h.pt y with e | ⟨_,q,_,_,_,e | e⟩ | ⟨_,_,q,e,f,_⟩
 ·
  exact e
 ·
  grind
 ·
  grind
 grind
theorem iD.Ou(h:iD val N cw rev l l') (hl:Live l' rev y):Live l rev y:=by
 obtain⟨r,h1,c,d⟩:=id hl;exact⟨r,by rw [← h.live hl];exact h1,c,d⟩
theorem iD.eQ(h:iD val N cw rev l l') (c:bD l' rev y=true):ay l' y=ay l y:=h.live (.uW c)
theorem iD.GO(h:iD val N cw rev l l') (c:bD l' rev y=true):bD l rev y=true:=by
 obtain⟨r,h1,d,e,f⟩:=bK.1 c;exact bK.2 ⟨r,by rw [← h.eQ c];exact h1,d,e,f⟩
theorem iD.aD(h:iD val N cw rev l l') (c:bD l' rev y=true):aD l' y=Rc.aD l y:=by
 unfold Rc.aD
 rw [h.eQ c]
theorem iD.leads(h:iD val N cw rev l l') (hk:bD l' rev k=true) (hl:bu l' rev k x):bu l rev k x:=by
 induction hl with
 | one h1=>exact .one ⟨by rw [← h.aD hk];exact h1.1,h.GO h1.2⟩
 | step h1 c d=>exact .step d ⟨by rw [← h.aD h1.eQ];exact c.1,h.GO c.2⟩
theorem iD.back(h:iD val N cw rev l l') (hk:bD l' rev k=true) (hl:bu l rev k x):bu l rev x k→bu l' rev k x:=by
 induction hl with
 | one h1=>exact fun c=>.one ⟨by rw [h.aD hk];exact h1.1,h.scc k _ ⟨.one h1,c⟩ hk⟩
 | step h1 d e=>
  intro c;have g:=e ((bu.one d).trans c);exact .step g ⟨by rw [h.aD g.eQ];exact d.1,h.scc k _ ⟨.step h1 d,c⟩ hk⟩
theorem iD.mut(h:iD val N cw rev l l') (hk:bD l' rev k=true):tM l' rev k y↔tM l rev k y:=
 ⟨fun m=>⟨h.leads hk m.1,h.leads m.eQ m.2⟩,fun m=>⟨h.back hk m.1 m.2,h.back (h.scc k y m hk) m.2 m.1⟩⟩
theorem iD.group(h:iD val N cw rev l l') (hk:Live l' rev k):aB l' rev k=aB l rev k∧∀m∈aB l rev k,ay l' m=ay l m:=by
 cases hc:aA k with
 | false=>
  rw [gS hc,gS hc];refine⟨rfl,fun m hm=>?_⟩;rw [List.mem_singleton.1 hm];exact h.live hk
 | true=>
  have c:=hk.eQ hc;refine⟨zo (oe _ _ _) (oe _ _ _) fun y=>?_,fun m hm=>?_⟩
  ·
   rw [cj,cj,h.mut c,c,h.GO c]
  rcases cj.1 hm with rfl | ⟨_,m2⟩
  ·
   exact h.live hk
  exact h.eQ (h.scc _ _ m2 c)
theorem iD.JX(h:iD val N cw rev l l') (hk:Live l' rev k):bU l' (aB l' rev k)=bU l (aB l rev k):=by
 obtain⟨h1,c⟩:=h.group hk;rw [h1];refine ss fun m hm=>?_
 unfold Rc.aD
 rw [c m hm]
theorem iD.trans(h:iD val N cw rev l l') (d:iD val N cw rev l' l2):iD val N cw rev l l2:=by
 refine⟨fun y=>?_,fun y z m f=>?_⟩
 ·
  have g2:=d.pt y
  rcases h.pt y with e | ⟨e0,r,e1,e2,c,e4 | e4⟩ | ⟨e1,e2,i,c,e4,e5,j,n,o⟩
  ·
   rw [e] at g2;exact g2
  ·
   rcases g2 with g | ⟨_,q,g1,g2,g3,_⟩ | ⟨_,g1,_⟩
   ·
    exact .inr (.inl ⟨e0,r,e1,e2,c,.inl (g.trans e4)⟩)
   ·
    grind
   grind
  ·
   rcases g2 with g | ⟨_,q,g1,g2,g3,_⟩ | ⟨g1,g2,q,g3,g4,g5,g6,g7,g8⟩
   ·
    exact .inr (.inl ⟨e0,r,e1,e2,c,.inr (g.trans e4)⟩)
   ·
    grind
   refine .inr (.inr ⟨g1,fun r2 p=>?_,q,g3,g4,g5,g6,fun r2 p=>?_,fun hn=>?_⟩)
   ·
    grind
   ·
    grind
   grind
  rcases g2 with g | ⟨_,q,g1,g2,g3,_⟩ | ⟨_,g1,_⟩
  ·
   exact .inr (.inr ⟨e1,e2,i,g.trans c,e4,e5,j,n,o⟩)
  ·
   grind
  have:=g1 _ c
  omega
 have u:=d.GO f;exact d.scc y z ((h.mut u).2 m) f
theorem dK{g:List Key}{d:Bool}:ay (l.map (bH rev g d)) y=(ay l y).map (bH rev g d):=ob _ (fun r=>(ck rev g d r).1) y l
theorem iD.mark(hl:Live l rev k) (d:Bool) (i:aA k=true∨N k):iD val N cw rev l (l.map (bH rev (aB l rev k) d)):=by
 have eS:∀y∈aB l rev k,Live l rev y:=fun y hy=>by
  rcases cj.1 hy with rfl | ⟨_,m⟩
  ·
   exact hl
  exact .uW m.eQ
 have j:∀y,y∉aB l rev k→ay (l.map (bH rev (aB l rev k) d)) y=ay l y:=fun y hy=>by
  rw [dK]
  cases n:ay l y with
  | none=>rfl
  | some r=>
   have e:=(aT n).2
   show some (bH rev (aB l rev k) d r)=some r
   unfold bH
   rw [if_neg (by rw [e];exact hy)]
 have o:∀y∈aB l rev k,∃r,ay l y=some r∧r.bq=false∧r.aq<rev∧ay (l.map (bH rev (aB l rev k) d)) y=some (if d then {r with bq:=true} else {r with aq:=rev}):=fun y hy=>by
  obtain⟨r,h1,c,f⟩:=eS y hy;refine⟨r,h1,c,f,?_⟩;rw [dK,h1]
  show some (bH rev (aB l rev k) d r)=_
  unfold bH
  rw [if_pos (by rw [(aT h1).2];exact hy)]
 refine⟨fun y=>?_,fun y z m q=>?_⟩
 ·
  by_cases hy:y∈aB l rev k
  ·
   obtain⟨r,h1,c,f,p⟩:=o y hy;refine .inr (.inl ⟨?_,r,h1,c,f,?_⟩)
   ·
    rcases cj.1 hy with rfl | ⟨_,m⟩
    ·
     exact i
    obtain⟨_,_,g,_⟩:=bK.1 m.eQ;exact .inl g
   grind
  exact .inl (j y hy)
 have hy:y∉aB l rev k:=fun hy=>by grind [bK]
 have h:z∉aB l rev k:=fun h=>hy (by
  rcases cj.1 h with rfl | ⟨h1,c⟩
  ·
   grind [cj,tM.eQ,tM.symm]
  exact cj.2 (.inr ⟨h1,c.trans m.symm⟩))
 obtain⟨r,h1,c,f,p⟩:=bK.1 m.eQ
 grind [bK]
theorem iD.put{c:Rec}(hk:bD l rev c.key=false) (d:∀r,ay l c.key=some r→r.aq<rev) (f:c.key∈cw∧N c.key) (g:c.aq=rev) (h:c.bq=false) (i:c.value=val c.key)
  (hc:∀r,ay l c.key=some r→c.changed=if r.value=c.value then r.changed else rev) (hn:ay l c.key=none→c.changed=rev):iD val N cw rev l (eA l c):=by
 refine⟨fun y=>?_,fun y z m q=>?_⟩
 ·
  rw [eF]
  by_cases e:y=c.key
  ·
   rw [if_pos e,e];exact .inr (.inr ⟨f,d,c,rfl,g,h,i,hc,hn⟩)
  rw [if_neg e];exact .inl rfl
 have j:z≠c.key:=fun e=>by grind [tM.eQ]
 obtain⟨r,h1,n,o,p⟩:=bK.1 m.eQ;exact bK.2 ⟨r,by rw [eF,if_neg j];exact h1,n,o,p⟩
end
end Go.Rc

namespace Go.Rc
open Go
theorem aS{l:List Rec}{k:Key}{r:Rec}(h:ay l k=some r):aD l k=r:=by
 unfold aD
 rw [h]
 rfl
theorem iz:∀{l:List Rec},pA l→∀{r:Rec},r∈l→ay l r.key=some r
 | [],_,r,hr=>by cases hr
 | x::xs,h,r,hr=>by
  obtain⟨h1,c⟩:=List.pairwise_cons.1 h
  unfold ay
  rw [List.find?_cons]
  rcases List.mem_cons.1 hr with rfl | hr
  ·
   simp
  have d:=h1 r hr
  have f:x.key≠r.key:=fun e=>by rw [e,gF] at d;omega
  have:(x.key == r.key)=false:=by simpa using f
  rw [this];exact iz c hr
structure Bi (aa:List az) (H:Int→List ca) (on:Key→Bool) (b:cI):Prop where
 c:Cons aa H on b
 st:pA b.ah
 kr:∀r∈b.ah,∃i:Nat,i<aa.length∧r.key=aH aa (i:Int)
 dv:∀r∈b.ah,r.bq=true→r.aq<b.ad
section
variable {aa:List az}{H:Int→List ca}{on S5:Key→Bool}{b:cI}{k:Key}
theorem Bi.Ov(h:Bi aa H on b) (f:∀k,on k=true→S5 k=true):Bi aa H S5 b:=
 ⟨{h.c with
   rr:=fun r hr a d hi ra e=>(h.c.rr r hr a d hi ra e).imp (fun⟨x,y⟩=>⟨x,f _ y⟩) id
   rs:=fun r hr hc a d hi ra e=>(h.c.rs r hr hc a d hi ra e).imp (fun⟨x,y⟩=>⟨x,f _ y⟩) id},h.st,h.kr,h.dv⟩
theorem Bi.off(h:Bi aa H on b) (hu:aI b k=true) (g:∀y,on y=true→y=k∨S5 y=true):Bi aa H S5 b:=by
 obtain⟨q,f,j,i⟩:=h.c.up hu;refine⟨{h.c with rr:=fun r hr a e hi ra d=>?_,rs:=fun r hr hc a e hi ra d=>?_},h.st,h.kr,h.dv⟩
 ·
  rcases h.c.rr r hr a e hi ra d with⟨x,y⟩ | z
  ·
   rcases g a y with rfl | y
   ·
    rw [d] at f
    have:=Option.some.inj f
    subst this;refine .inr fun _=>?_;rw [x,h.c.now];exact i.symm
   exact .inl ⟨x,y⟩
  exact .inr z
 rcases h.c.rs r hr hc a e hi ra d with⟨x,y⟩ | z
 ·
  grind
 exact .inr z
theorem Cf(e:ao aa) {aC:List ca}{i:Nat}(hi:i<aa.length) (hr:ax aa i=true) {x:Ask}(c:x∈aa[i].asks):bs aa x∈da aa aC i:=by
 obtain⟨q,f⟩:=List.mem_iff_getElem?.1 c
 have d:q<cH aa i:=by grind [cH]
 have h1:=j1 (aC:=aC) d
 grind [dq,qL,D3]
theorem Cons.lead(h:Cons aa H on b) {x y:Key}(c:bD b.ah b.ad x=true) (hl:bu b.ah b.ad x y):(aD b.ah x).aq≤(aD b.ah y).aq:=by
 have step:∀x y,bD b.ah b.ad x=true→Ld b.ah b.ad x y→(aD b.ah x).aq≤(aD b.ah y).aq:=by
  intro x y c hy;obtain⟨r,h1,d,g,i⟩:=bK.1 c;obtain⟨q,g1,g2,g3,g4⟩:=bK.1 hy.2;have f:=hy.1;rw [aS h1] at f;rw [aS h1,aS g1]
  rcases h.rs r (aT h1).1 (by rw [(aT h1).2];exact d) y f g2 q g1 with⟨e,_⟩ | e
  ·
   omega
  exact e
 induction hl with
 | one h1=>exact step _ _ c h1
 | step h1 d j=>grind [bu.eQ]
theorem Bi.key(h:Bi aa H on b) (hl:Live b.ah b.ad k):∃i:Nat,i<aa.length∧k=aH aa (i:Int):=by
 obtain⟨r,h1,_⟩:=hl;obtain⟨c,d⟩:=aT h1;obtain⟨i,hi,e⟩:=h.kr r c
 grind
theorem nq{l:List Rec}{rev:Int}{y:Key}(hl:Live l rev k) (hy:y∈aB l rev k):Live l rev y:=by
 rcases cj.1 hy with rfl | ⟨_,m⟩
 ·
  exact hl
 exact .uW m.eQ
theorem Bi.fixed(g:ao aa) (h:Bi aa H on b) (hl:Live b.ah b.ad k)
  (p:∀m∈aB b.ah b.ad k,∀a∈(aD b.ah m).reads,a∉aB b.ah b.ad k→valOf aa (H (aD b.ah m).aq) a=valOf aa b.ab a) :
  ∀m∈aB b.ah b.ad k,valOf aa b.ab m=valOf aa (H (aD b.ah m).aq) m∧n9 aa b.ab m=n9 aa (H (aD b.ah m).aq) m:=by
 have C:=g.len
 have f:∀m∈aB b.ah b.ad k,∃i:Nat,i<aa.length∧m=aH aa (i:Int)∧(aD b.ah m).reads=da aa (H (aD b.ah m).aq) i:=fun m hm=>by
  have q:=nq hl hm;obtain⟨i,hi,e⟩:=h.key q;obtain⟨r,h1,_⟩:=q;refine⟨i,hi,e,?_⟩;have u:=(h.c.vr r (aT h1).1).2;rw [aS h1,u,(aT h1).2,e,gD g hi]
 cases hc:aA k with
 | false=>
  rw [gS hc] at p f ⊢;intro m hm;rw [List.mem_singleton] at hm;subst hm;obtain⟨i,hi,e,f⟩:=f m (by simp)
  have v:=qM g hi (aC:=H (aD b.ah m).aq) (nn:=b.ab) fun a o=>by
   refine p m (by simp) a (by rw [f];exact o) fun hm=>?_;rw [List.mem_singleton] at hm;rw [e] at hm;rw [e,bf hi (by omega)] at hc
   rcases qI g hi a o with⟨n,hn,rfl⟩ | ⟨j,d,rfl,_,D,_⟩
   ·
    grind [aZ,bT]
   grind [dy]
  grind [gD]
 | true=>
  have w:=hl.eQ hc
  have ht:∀m∈aB b.ah b.ad k,(aD b.ah m).aq=(aD b.ah k).aq:=fun m hm=>by
   rcases cj.1 hm with rfl | ⟨_,m1,m2⟩
   ·
    rfl
   have a1:=h.c.lead w m1;have a2:=h.c.lead m1.eQ m2
   omega
  have A:∀j:Nat,j<aa.length→aH aa (j:Int)∈aB b.ah b.ad k→ax aa j=true:=fun j d hm=>by
   have h1:bD b.ah b.ad (aH aa (j:Int))=true:=by grind [cj,tM.eQ]
   grind [bK,bf]
  have B:∀j:Nat,j<aa.length→aH aa (j:Int)∈aB b.ah b.ad k→valOf aa (H (aD b.ah k).aq) (aH aa (j:Int))=valOf aa b.ab (aH aa (j:Int)):=fun j d hm=>by
   refine zn g (G:=fun j=>j<aa.length∧aH aa (j:Int)∈aB b.ah b.ad k) (fun j d=>⟨d.1,A j d.1 d.2⟩) (fun j d r x hr E F=>?_) ⟨d,hm⟩
   grind [dy,Cf]
  intro m hm;obtain⟨i,hi,e,f⟩:=f m hm;have h1:=B i hi (e ▸ hm);rw [ht m hm] at f ⊢;refine⟨by rw [e];exact h1.symm,?_⟩
  have v:=qM g hi (aC:=H (aD b.ah k).aq) (nn:=b.ab) fun a o=>by grind
  grind [gD]
theorem fS(rev:Int) (g:List Key) (d:Bool) (r:Rec):(bH rev g d r).value=r.value∧(bH rev g d r).changed=r.changed:=by
 unfold bH
 grind
theorem Bi.mark(E:ao aa) (h:Bi aa H on b) (hl:Live b.ah b.ad k)
  (w:∀m∈aB b.ah b.ad k,∀a∈(aD b.ah m).reads,a∉aB b.ah b.ad k→valOf aa (H (aD b.ah m).aq) a=valOf aa b.ab a∧(aw a=true∨(on a=true∧aA a=true)∨aI b a=true)) :
  Bi aa H on (cU b (aB b.ah b.ad k) false):=by
 have B:=h.fixed E hl fun m hm a d F=>(w m hm a d F).1
 generalize I:aB b.ah b.ad k=G at B w
 have J:∀a ra,a∈G→ay b.ah a=some ra→ra.value=valOf aa b.ab a:=fun a ra d f=>by
  have h1:=(h.c.vr ra (aT f).1).1;have n:=(B a d).1;rw [aS f] at n;rw [h1,(aT f).2,n]
 have A:∀r:Rec,r.key∈G→(bH b.ad G false r).aq=b.ad:=fun r hr=>by
  unfold bH
  rw [if_pos hr]
  rfl
 have o:∀r:Rec,r.key∉G→bH b.ad G false r=r:=fun r hr=>by
  unfold bH
  rw [if_neg hr]
 refine⟨⟨h.c.now,h.c.eS,fun p g=>?_,fun p g=>?_,fun p g a d hi K u=>?_,fun p g hc a d hi K u=>?_⟩,h.st.map fun r=>(ck _ _ _ r).1,fun p g=>?_,fun p g C=>?_⟩
 ·
  obtain⟨r,hr,rfl⟩:=List.mem_map.1 g;have h1:=h.c.Ce r hr
  by_cases e:r.key∈G
  ·
   rw [A r e,(fS _ _ _ r).2];exact⟨Int.le_refl _,by omega⟩
  rw [o r e];exact h1
 ·
  obtain⟨r,hr,rfl⟩:=List.mem_map.1 g;have h1:=h.c.vr r hr
  by_cases e:r.key∈G
  ·
   have i:=iz h.st hr;have n:=B r.key e;rw [aS i] at n;rw [A r e,(fS _ _ _ r).1,(ck _ _ _ r).1,(ck _ _ _ r).2,h.c.now,n.1,n.2];exact h1
  rw [o r e];exact h1
 ·
  obtain⟨r,hr,rfl⟩:=List.mem_map.1 g;rw [show(cU b G false).ah=b.ah.map (bH b.ad G false) from rfl,dK] at u;obtain⟨ra,f,rfl⟩:=Option.map_eq_some_iff.1 u;have i:=iz h.st hr;rw [(ck _ _ _ r).2] at d;rw [(fS _ _ _ ra).1,(fS _ _ _ ra).2]
  show((bH b.ad G false r).aq=b.ad∧_)∨_
  by_cases e:r.key∈G
  ·
   rw [A r e]
   by_cases v:a∈G
   ·
    refine .inr fun _=>?_;rw [h.c.now];exact(J a ra v f).symm
   rcases(w r.key e a (by rw [aS i];exact d) v).2 with h1 | h1 | h1
   ·
    rw [hi] at h1
    cases h1
   ·
    exact .inl ⟨rfl,h1.1⟩
   refine .inr fun _=>?_;obtain⟨q,D,_,L⟩:=h.c.up h1;rw [f] at D
   have:=Option.some.inj D
   subst this;rw [h.c.now];exact L.symm
  rw [o r e];exact h.c.rr r hr a d hi ra f
 ·
  obtain⟨r,hr,rfl⟩:=List.mem_map.1 g;rw [show(cU b G false).ah=b.ah.map (bH b.ad G false) from rfl,dK] at u;obtain⟨ra,f,rfl⟩:=Option.map_eq_some_iff.1 u;have i:=iz h.st hr;rw [(ck _ _ _ r).2] at d;rw [(ck _ _ _ r).1] at hc
  show((bH b.ad G false r).aq=b.ad∧_)∨_
  have M:=(aT f).2;have hle:=(h.c.Ce r hr).1
  by_cases e:r.key∈G
  ·
   rw [A r e]
   by_cases v:a∈G
   ·
    grind
   rcases(w r.key e a (by rw [aS i];exact d) v).2 with h1 | h1 | h1
   ·
    obtain⟨j,O,P⟩:=h.kr ra (aT f).1
    grind [ao.len,bT]
   ·
    exact .inl ⟨rfl,h1.1⟩
   obtain⟨q,D,Q⟩:=bV.1 h1
   grind
  rw [o r e]
  rcases h.c.rs r hr hc a d hi ra f with h1 | h1
  ·
   exact .inl h1
  refine .inr ?_
  by_cases v:ra.key∈G
  ·
   grind
  grind
 ·
  obtain⟨r,hr,rfl⟩:=List.mem_map.1 g;rw [(ck _ _ _ r).1];exact h.kr r hr
 obtain⟨r,hr,rfl⟩:=List.mem_map.1 g
 by_cases e:r.key∈G
 ·
  have i:=iz h.st hr;obtain⟨q,g1,g2,_⟩:=nq hl (y:=r.key) (by rw [I];exact e);rw [i] at g1
  have:=Option.some.inj g1
  subst this
  unfold bH at C
  grind
 rw [o r e] at C ⊢;exact h.dv r hr C
theorem Bi.bq(h:Bi aa H on b) {G:List Key}(o:∀m∈G,Live b.ah b.ad m):Bi aa H on (cU b G true):=by
 have hm:∀r:Rec,(bH b.ad G true r).aq=r.aq:=fun r=>by
  unfold bH
  grind
 refine⟨⟨h.c.now,h.c.eS,fun f d=>?_,fun f d=>?_,fun f d a g hi p i=>?_,fun f d hc a g hi p i=>?_⟩,h.st.map fun r=>(ck _ _ _ r).1,fun f d=>?_,fun f d j=>?_⟩
 ·
  obtain⟨r,hr,rfl⟩:=List.mem_map.1 d;rw [hm,(fS _ _ _ r).2];exact h.c.Ce r hr
 ·
  obtain⟨r,hr,rfl⟩:=List.mem_map.1 d;rw [hm,(fS _ _ _ r).1,(ck _ _ _ r).1,(ck _ _ _ r).2];exact h.c.vr r hr
 ·
  obtain⟨r,hr,rfl⟩:=List.mem_map.1 d;rw [show(cU b G true).ah=b.ah.map (bH b.ad G true) from rfl,dK] at i;obtain⟨ra,n,rfl⟩:=Option.map_eq_some_iff.1 i;rw [(ck _ _ _ r).2] at g;rw [hm,(fS _ _ _ ra).1,(fS _ _ _ ra).2];exact h.c.rr r hr a g hi ra n
 ·
  obtain⟨r,hr,rfl⟩:=List.mem_map.1 d;rw [show(cU b G true).ah=b.ah.map (bH b.ad G true) from rfl,dK] at i;obtain⟨ra,n,rfl⟩:=Option.map_eq_some_iff.1 i;rw [(ck _ _ _ r).2] at g;rw [(ck _ _ _ r).1] at hc;rw [hm,hm];exact h.c.rs r hr hc a g hi ra n
 ·
  obtain⟨r,hr,rfl⟩:=List.mem_map.1 d;rw [(ck _ _ _ r).1];exact h.kr r hr
 obtain⟨r,hr,rfl⟩:=List.mem_map.1 d;rw [hm]
 by_cases e:r.key∈G
 ·
  obtain⟨q,g1,_,g2⟩:=o _ e;rw [iz h.st hr] at g1
  have:=Option.some.inj g1
  subst this;exact g2
 unfold bH at j
 rw [if_neg e] at j;exact h.dv r hr j
theorem Bi.put(w:ao aa) (h:Bi aa H on b) {i:Nat}(hi:i<aa.length) (F:aA (aH aa (i:Int))=true→on (aH aa (i:Int))=true)
  (B:∀a∈da aa b.ab i,aw a=true∨(on a=true∧aA a=true)∨aI b a=true) :
  Bi aa H on {b with ah:=eA b.ah (cZ b (aH aa (i:Int)) (valOf aa b.ab (aH aa (i:Int))) (da aa b.ab i))}:=by
 have K:=w.len
 generalize g:cZ b (aH aa (i:Int)) (valOf aa b.ab (aH aa (i:Int))) (da aa b.ab i)=q
 have q1:q.key=aH aa (i:Int):=by rw [← g];rfl
 have m:q.aq=b.ad:=by rw [← g];rfl
 have C:q.value=valOf aa b.ab (aH aa (i:Int)):=by rw [← g];rfl
 have v:q.reads=da aa b.ab i:=by rw [← g];rfl
 have D:(∃r,ay b.ah q.key=some r∧r.value=q.value∧q.changed=r.changed)∨q.changed=b.ad:=by
  rw [← g]
  unfold cZ
  simp only
  split
  ·
   rename_i hc
   simp only [Bool.and_eq_true,decide_eq_true_eq] at hc;obtain⟨r,hr⟩:=Option.isSome_iff_exists.1 hc.1;rw [aS hr] at hc ⊢;exact .inl ⟨r,hr,hc.2,rfl⟩
  exact .inr rfl
 refine⟨⟨h.c.now,h.c.eS,fun r hr=>?_,fun r hr=>?_,fun r hr a f u ra d=>?_,fun r hr hc a f u ra d=>?_⟩,pA.put h.st,fun r hr=>?_,fun r hr A=>?_⟩
 ·
  rcases eN _ _ _ _ hr with rfl | hr
  ·
   refine⟨by rw [m];exact Int.le_refl _,?_⟩
   rcases D with⟨p,o,_,e⟩ | e
   ·
    have:=h.c.Ce p (aT o).1
    omega
   omega
  exact h.c.Ce r hr
 ·
  rcases eN _ _ _ _ hr with rfl | hr
  ·
   rw [q1,m,C,v,h.c.now,gD w hi];exact⟨rfl,rfl⟩
  exact h.c.vr r hr
 ·
  rw [show({b with ah:=eA b.ah q}:cI).ah=eA b.ah q from rfl,eF] at d
  show(r.aq=b.ad∧_)∨_
  rcases eN _ _ _ _ hr with rfl | hr
  ·
   by_cases e:a=r.key
   ·
    refine .inl ⟨m,?_⟩;rw [e,q1];refine F ?_;rw [v] at f;rw [bf hi (by omega)]
    cases L:ax aa i with
    | true=>rfl
    | false=>
     rcases qI w hi a f with⟨n,hn,h1⟩ | ⟨j,E,h1,_,M,_⟩
     ·
      grind [aZ]
     grind [dy]
   rw [if_neg e] at d
   rcases B a (by rw [← v];exact f) with h1 | h1 | h1
   ·
    rw [u] at h1
    cases h1
   ·
    exact .inl ⟨m,h1.1⟩
   refine .inr fun _=>?_;obtain⟨p,o,_,G⟩:=h.c.up h1;rw [d] at o
   have:=Option.some.inj o
   subst this;rw [m,h.c.now];exact G.symm
  by_cases e:a=q.key
  ·
   rw [if_pos e] at d
   have:=Option.some.inj d
   subst this
   rcases D with⟨p,o,e2,O⟩ | e2
   ·
    rcases h.c.rr r hr a f u p (by rw [e];exact o) with h1 | h1
    ·
     exact .inl h1
    grind
   refine .inr fun hc=>?_;have h1:=(h.c.Ce r hr).1
   have I:r.aq=b.ad:=by omega
   rw [I,h.c.now,C,e,q1]
  rw [if_neg e] at d;exact h.c.rr r hr a f u ra d
 ·
  rw [show({b with ah:=eA b.ah q}:cI).ah=eA b.ah q from rfl,eF] at d
  show(r.aq=b.ad∧_)∨_
  rcases eN _ _ _ _ hr with rfl | hr
  ·
   by_cases e:a=r.key
   ·
    grind
   rw [if_neg e] at d
   rcases B a (by rw [← v];exact f) with h1 | h1 | h1
   ·
    obtain⟨j,E,J⟩:=h.kr ra (aT d).1;rw [← (aT d).2,J,bT E (by omega)] at h1
    cases h1
   ·
    exact .inl ⟨m,h1.1⟩
   grind [bV]
  by_cases e:a=q.key
  ·
   rw [if_pos e] at d
   have:=Option.some.inj d
   subst this
   have:=(h.c.Ce r hr).1
   exact .inr (by omega)
  rw [if_neg e] at d;exact h.c.rs r hr hc a f u ra d
 ·
  rcases eN _ _ _ _ hr with rfl | hr
  ·
   exact⟨i,hi,q1⟩
  exact h.kr r hr
 rcases eN _ _ _ _ hr with rfl | hr
 ·
  have:r.bq=false:=by rw [← g];rfl
  rw [this] at A
  cases A
 exact h.dv r hr A
end
end Go.Rc

namespace Go.Rc
open Go
def JY(val:Key→ByteArray) (b:cI) (y:Key):Prop:=∃m a,m∈aB b.ah b.ad y∧a∈(aD b.ah m).reads∧a∉aB b.ah b.ad y∧(aD b.ah m).aq<aQ val b a
def Ox(val:Key→ByteArray) (b:cI) (y:Key):Prop:=aw y=false∧aI b y=false∧(ay b.ah y=none∨(aD b.ah y).bq=true∨JY val b y)
section
variable {aa:List az}{H:Int→List ca}{on:Key→Bool}{b b0:cI}{k:Key}{s t:ES}
def ES.vZ(s:ES) (k:Key):Bool:=s.on k && aA k
theorem zq(h:s.on k=true∧aA k=true):s.vZ k=true:=by grind [ES.vZ]
structure Wy (aa:List az) (b0:cI) (s:ES):Prop where
 rev:s.b.ad=b0.ad
 aC:s.b.ab=b0.ab
 ev:iD (valOf aa b0.ab) (fun _=>True) s.cw b0.ad b0.ah s.b.ah
 Nc:∀y r,ay s.b.ah y=some r→r.bq=true→(aD b0.ah y).bq=true∨JY (valOf aa b0.ab) b0 y
 cw:∀y∈s.cw,Ox (valOf aa b0.ab) b0 y
 S6:∀y∈s.cw,aI s.b y=true
 Uu:∀y,aI b0 y=false→aI s.b y=true→y∈s.cw∨¬JY (valOf aa b0.ab) b0 y
 i6:s.cw.Nodup
theorem lT{val:Key→ByteArray}(hi:aw k=false) (h:ay b.ah k=none):aQ val b k=b.ad:=by grind [aQ]
theorem dB{val:Key→ByteArray}(hi:aw k=false) {r:Rec}(h:ay b.ah k=some r):aQ val b k=if r.aq=b.ad∨val k=r.value then r.changed else b.ad:=by
 unfold aQ
 rw [hi,aS h,h]
 grind
theorem Wy.changed(j:Bi aa H on s.b) (h:Wy aa b0 s) (a:Key):aQ (valOf aa b0.ab) s.b a=aQ (valOf aa b0.ab) b0 a:=by
 cases hi:aw a with
 | true=>
  unfold aQ
  rw [hi,if_pos rfl,if_pos rfl,h.aC]
 | false=>
  rcases h.ev.pt a with e | ⟨_,r,e1,e2,f,e4 | e4⟩ | ⟨_,e2,p,f,e4,e5,m,n,o⟩
  ·
   cases d:ay b0.ah a with
   | none=>grind [lT,rev]
   | some r=>rw [dB hi (e.trans d),dB hi d,h.rev]
  ·
   have hu:aI s.b a=true:=bV.2 ⟨_,e4,h.rev.symm⟩;obtain⟨q,g,_,i⟩:=j.c.up hu;rw [e4] at g
   have:=Option.some.inj g
   subst this;rw [h.aC] at i;rw [dB hi e4,dB hi e1,if_pos (.inl h.rev.symm),if_pos (.inr i.symm)]
  ·
   rw [dB hi e4,dB hi e1,h.rev]
  rw [dB hi f,if_pos (.inl (e4.trans h.rev.symm))]
  cases d:ay b0.ah a with
  | none=>rw [lT hi d,o d]
  | some r=>
   rw [dB hi d,n r d,m]
   grind
theorem Wy.JZ(i:Bi aa H on s.b) (h:Wy aa b0 s) (hl:Live s.b.ah s.b.ad k) {m a:Key}(hm:m∈aB s.b.ah s.b.ad k) (f:a∈(aD s.b.ah m).reads) (c:a∉aB s.b.ah s.b.ad k)
  (hc:(aD s.b.ah m).aq<aQ (valOf aa b0.ab) s.b a):∀y∈aB s.b.ah s.b.ad k,JY (valOf aa b0.ab) b0 y:=by
 intro y hy;rw [h.rev] at hl hm c hy;obtain⟨h1,j⟩:=h.ev.group hl;rw [h1] at hm c hy;have o:=h.ev.Ou hl
 have e:aD s.b.ah m=aD b0.ah m:=by
  unfold aD
  rw [j m hm]
 rw [e] at f hc
 have g:∀z,z∈aB b0.ah b0.ad y↔z∈aB b0.ah b0.ad k:=fun z=>by
  rcases cj.1 hy with rfl | ⟨d,n⟩
  ·
   exact Iff.rfl
  exact tN d n z
 exact⟨m,a,(g m).2 hm,f,fun d=>c ((g a).1 d),by rw [← h.changed i a];exact hc⟩
theorem Wy.Oy(h:Wy aa b0 s) (hl:Live s.b.ah s.b.ad k) (c:∀m∈aB s.b.ah s.b.ad k,∀a∈(aD s.b.ah m).reads,a∉aB s.b.ah s.b.ad k→aQ (valOf aa b0.ab) b0 a≤(aD s.b.ah m).aq):∀y∈aB s.b.ah s.b.ad k,¬JY (valOf aa b0.ab) b0 y:=by
 rintro y hy ⟨m,a,hm,g,i,hc⟩;rw [h.rev] at hl c hy;obtain⟨h1,j⟩:=h.ev.group hl;rw [h1] at c hy
 have n:∀z,z∈aB b0.ah b0.ad y↔z∈aB b0.ah b0.ad k:=fun z=>by
  rcases cj.1 hy with rfl | ⟨d,f⟩
  ·
   exact Iff.rfl
  exact tN d f z
 have e:aD s.b.ah m=aD b0.ah m:=by grind [aD]
 grind
theorem Wy.none(h:Wy aa b0 s) (c:ay s.b.ah k=none):ay b0.ah k=none:=by
 rcases h.ev.pt k with e | ⟨_,r,e1,e2,d,e4 | e4⟩ | ⟨_,e2,f,d,_⟩
 ·
  exact e.symm.trans c
 ·
  rw [c] at e4;cases e4
 ·
  rw [c] at e4;cases e4
 rw [c] at d;cases d
theorem iD.aI{val:Key→ByteArray}{N:Key→Prop}{cw:List Key}{b b':cI}(h:iD val N cw b.ad b.ah b'.ah) (hr:b'.ad=b.ad) (hu:Rc.aI b k=true):Rc.aI b' k=true:=by
 obtain⟨r,h1,c⟩:=bV.1 hu
 rcases h.pt k with e | ⟨_,q,e1,e2,d,_⟩ | ⟨_,e2,_⟩
 ·
  exact bV.2 ⟨r,e.trans h1,c.trans hr.symm⟩
 ·
  grind
 have:=e2 r h1
 omega
theorem GP{G:List Key}(hu:Rc.aI b k=false) (d:Rc.aI (cU b G false) k=true):k∈G:=by
 obtain⟨f,h1,c⟩:=bV.1 d;have g:(ay b.ah k).map (bH b.ad G false)=some f:=dK.symm.trans h1;obtain⟨r,hr,rfl⟩:=Option.map_eq_some_iff.1 g;have e:=(aT hr).2;refine Classical.byContradiction fun hk=>?_
 unfold bH at c
 rw [if_neg (by rw [e];exact hk)] at c
 have:=bV.2 ⟨r,hr,c⟩
 rw [hu] at this
 cases this
theorem D5{G:List Key}:Rc.aI (cU b G true) k=Rc.aI b k:=by
 have e:ay (cU b G true).ah k=(ay b.ah k).map (bH b.ad G true):=dK
 have hm:∀r:Rec,(bH b.ad G true r).aq=r.aq:=fun r=>by
  unfold bH
  grind
 rw [Bool.eq_iff_iff,bV,bV,e]
 constructor
 ·
  rintro⟨d,h1,c⟩;obtain⟨r,hr,rfl⟩:=Option.map_eq_some_iff.1 h1;rw [hm] at c;exact⟨r,hr,c⟩
 rintro⟨r,h1,c⟩;exact⟨_,by rw [h1];rfl,by rw [hm];exact c⟩
theorem Cg{l:List Key}(h:l.Nodup) (hk:k∉l):(l++[k]).Nodup:=by grind
theorem Wy.step{s':ES}(h:Wy aa b0 s) (h1:s'.b.ad=s.b.ad) (f:s'.b.ab=s.b.ab) (d:iD (valOf aa b0.ab) (fun _=>True) s'.cw b0.ad s.b.ah s'.b.ah) (hr:∀y∈s.cw,y∈s'.cw)
  (g:∀y r,ay s'.b.ah y=some r→r.bq=true→(aD b0.ah y).bq=true∨JY (valOf aa b0.ab) b0 y) (hw:∀y∈s'.cw,Ox (valOf aa b0.ab) b0 y) (hn:∀y∈s'.cw,y∈s.cw∨Rc.aI s'.b y=true)
  (hm:∀y,Rc.aI s.b y=false→Rc.aI s'.b y=true→y∈s'.cw∨¬JY (valOf aa b0.ab) b0 y) (i:s'.cw.Nodup):Wy aa b0 s':=by
 have j:iD (valOf aa b0.ab) (fun _=>True) s'.cw s.b.ad s.b.ah s'.b.ah:=by rw [h.rev];exact d
 refine⟨h1.trans h.rev,f.trans h.aC,(h.ev.mono hr fun _ h=>h).trans d,g,hw,fun y hy=>?_,fun y hu m=>?_,i⟩
 ·
  rcases hn y hy with c | c
  ·
   exact j.aI h1 (h.S6 y c)
  exact c
 cases e:Rc.aI s.b y with
 | true=>exact(h.Uu y hu e).imp (hr y) id
 | false=>exact hm y e m
theorem Wy.D6(h:Wy aa b0 s) (hu:aI s.b k=false):aI b0 k=false:=by
 cases hb:aI b0 k with
 | false=>rfl
 | true=>
  have:=h.ev.aI h.rev hb
  rw [hu] at this
  cases this
theorem qN(h:ay b.ah k=none):aI b k=false:=by
 unfold aI
 rw [h]
 rfl
theorem lx{r:Rec}(h:ay b.ah k=some r) (c:r.aq<b.ad):aI b k=false:=by grind [bV]
theorem Bi.answer(d:Bi aa H on b) (hk:eU aa k) (ht:aw k=true∨aA k=true∨aI b k=true):dm (valOf aa b.ab) b k=valOf aa b.ab k:=by
 unfold dm
 by_cases hc:aA k=true
 ·
  rw [if_pos hc]
 rw [if_neg hc]
 unfold dO
 by_cases hi:aw k=true
 ·
  rw [if_pos hi]
  unfold valOf cellOf
  rw [if_pos hi]
 rw [if_neg hi]
 have hu:aI b k=true:=by grind
 obtain⟨r,e,h,f⟩:=d.c.up hu
 have g:eO b k=true:=by grind [eO,aS]
 rw [if_pos g,aS e,f]
theorem nr(h:db s k=true):aw k=true∨(s.on k=true∧aA k=true)∨aI s.b k=true:=by
 unfold db at h
 grind
theorem D7(h:aw k=true∨(s.on k=true∧aA k=true)∨aI s.b k=true):db s k=true:=by
 unfold db
 grind
theorem Bi.len(c:Bi aa H on b):b.ah.length≤aa.length:=by
 have h1:(b.ah.map (·.key)).Nodup:=by
  refine List.pairwise_map.2 (c.st.imp fun {x y} h e=>?_);rw [e,gF] at h
  omega
 have d:=eM (S:=(List.range aa.length).map fun i:Nat=>aH aa (i:Int)) h1 fun x f=>by
  obtain⟨r,hr,rfl⟩:=List.mem_map.1 f;obtain⟨i,hi,e⟩:=c.kr r hr
  grind
 simpa using d
/-! ### the order of what is asked -/
theorem tO(c:ao aa) {aC:List ca}{i:Nat}(hi:i<aa.length) {a:Key}(d:a∈da aa aC i):dI aa i a∧∀m:Nat,m<aa.length→a=aH aa (m:Int)→Lw aa m (sk aa i)∧∀b,Lw aa i b→Lw aa m b:=by grind [List.mem_iff_getElem?,qH,j1,Bf,qL,D3]
theorem Ch(c:ao aa) {aC:List ca}{i:Nat}(hi:i<aa.length) (hr:ax aa i=true) {a:Key}(d:a∈da aa aC i) (hc:aA a=true):∃j:Nat,j<aa.length∧a=aH aa (j:Int)∧ed aa i j:=by grind [List.mem_iff_getElem?,qH,j1,dq,qL,D3,gB,fH]
theorem oV(g:ao aa) (h:Bi aa H on b) {i:Nat}(hi:i<aa.length) (n:bD b.ah b.ad (aH aa (i:Int))=true) {x:Key}(hl:bu b.ah b.ad (aH aa (i:Int)) x):∃j:Nat,j<aa.length∧x=aH aa (j:Int)∧cq aa i j:=by
 have B:=g.len
 have step:∀(m:Nat) y,m<aa.length→bD b.ah b.ad (aH aa (m:Int))=true→Ld b.ah b.ad (aH aa (m:Int)) y→∃j:Nat,j<aa.length∧y=aH aa (j:Int)∧ed aa m j:=by
  intro m y hm o hy;obtain⟨r,h1,d,e,f⟩:=bK.1 o;obtain⟨q,g1,g2,_⟩:=bK.1 hy.2;have p:=hy.1;rw [aS h1,(h.c.vr r (aT h1).1).2,(aT h1).2,gD g hm] at p
  grind [bf,Ch]
 induction hl with
 | one h1=>
  obtain⟨j,d,e,f⟩:=step i _ hi n h1;exact⟨j,d,e,.step .refl f⟩
 | step h1 d u=>
  obtain⟨j,e,rfl,f⟩:=u;obtain⟨q,v,w,A⟩:=step j _ e h1.eQ d;exact⟨q,v,w,.step f A⟩
theorem GQ(c:ao aa) (f:Bi aa H on b) {i j:Nat}(hi:i<aa.length) (d:j<aa.length) (hl:Live b.ah b.ad (aH aa (i:Int))) (hm:aH aa (j:Int)∈aB b.ah b.ad (aH aa (i:Int))):sk aa j=sk aa i∧∀b,Lw aa i b→Lw aa j b:=by
 have r:=c.len
 rcases cj.1 hm with e | ⟨g,m1,m2⟩
 ·
  have:=dy c d hi e
  grind
 obtain⟨q,h,eq,h1⟩:=oV c f hi g m1
 have:=dy c d h eq
 subst this;obtain⟨p,m,n,o⟩:=oV c f d m1.eQ m2
 have:=dy c hi m n
 subst this;have u:=ir c h1;have v:=ir c o;obtain⟨_,_,c1,_⟩:=bK.1 g;obtain⟨_,_,c2,_⟩:=bK.1 m1.eQ;rw [bf hi (by omega)] at c1;rw [bf d (by omega)] at c2
 unfold sk Lw
 grind
end
/-! ### a request -/
section
variable {aa:List az}{H:Int→List ca}{b0:cI}
structure Rs (aa:List az) (H:Int→List ca) (b0:cI) (N:Key→Prop) (s s':ES):Prop where
 e:s'.e=0
 bi:Bi aa H s.vZ s'.b
 ev:iD (valOf aa b0.ab) N s'.cw b0.ad s.b.ah s'.b.ah
 wy:Wy aa b0 s'
theorem Rs.refl{N:Key→Prop}{s:ES}(he:s.e=0) (c:Bi aa H s.vZ s.b) (d:Wy aa b0 s):Rs aa H b0 N s s:=⟨he,c,.refl _,d⟩
theorem Rs.trans{N:Key→Prop}{s t u:ES}(h:Rs aa H b0 N s t) (c:Rs aa H b0 N t u) (hr:∀y∈t.cw,y∈u.cw) (d:∀k,t.on k=s.on k):Rs aa H b0 N s u:=
 ⟨c.e,c.bi.Ov fun k hk=>by grind [ES.vZ],(h.ev.mono hr fun _ h=>h).trans c.ev,c.wy⟩
def Ps(aa:List az) (H:Int→List ca) (b0:cI) (s:ES) (k:Key) (n:Nat):Prop:=
 Live s.b.ah s.b.ad k→∀j c,j<n→(bU s.b.ah (aB s.b.ah s.b.ad k))[j]?=some c→
  valOf aa (H (aD s.b.ah c.eP).aq) c.read=valOf aa b0.ab c.read∧(aw c.read=true∨(s.on c.read=true∧aA c.read=true)∨aI s.b c.read=true)∧aQ (valOf aa b0.ab) b0 c.read≤(aD s.b.ah c.eP).aq
theorem qO{val:Key→ByteArray}:∀f,(∀s k s',hM aa val f s k=some s'→∀y∈s.cw,y∈s'.cw)∧(∀s k n s' b,cc aa val f s k n=some (s',b)→∀y∈s.cw,y∈s'.cw)∧(∀s k r a s',ei aa val f s k r a=some s'→∀y∈s.cw,y∈s'.cw):=by
 intro f
 induction f with
 | zero=>grind [hM,cc,ei]
 | succ f c=>
  obtain⟨g,d,i⟩:=c;refine⟨?_,?_,?_⟩
  ·
   intro s k s' h y hy
   unfold hM at h
   split at h
   ·
    cases h;exact hy
   split at h
   ·
    cases h;exact hy
   split at h
   ·
    grind
   obtain⟨p,e,h⟩:=Option.bind_eq_some_iff.1 h;obtain⟨t,ht,h⟩:=Option.bind_eq_some_iff.1 h
   cases h
   have h1:=d _ _ _ p.1 p.2 e y hy
   grind
  ·
   grind [cc,Option.bind_eq_some_iff]
  grind [ei,Option.bind_eq_some_iff]
def UpR(aa:List az) (H:Int→List ca) (b0:cI) (f:Nat):Prop:=∀s k s',hM aa (valOf aa b0.ab) f s k=some s'→Good aa b0.ab s→s.e=0→Bi aa H s.vZ s.b→Wy aa b0 s→eU aa k→(∀i:Nat,i<aa.length→k=aH aa (i:Int)→Uq aa s i)→Rs aa H b0 (fun y=>s.on y=false) s s'
def ChR(aa:List az) (H:Int→List ca) (b0:cI) (f:Nat):Prop:=∀s (i n:Nat) s' c,cc aa (valOf aa b0.ab) f s (aH aa (i:Int)) n=some (s',c)→Good aa b0.ab s→s.e=0→Bi aa H s.vZ s.b→Wy aa b0 s→i<aa.length→s.on (aH aa (i:Int))=true→Na aa s i→Ps aa H b0 s (aH aa (i:Int)) n→
 Rs aa H b0 (fun y=>s.on y=false∨y=aH aa (i:Int)) s s'∧(c=true→bD s'.b.ah b0.ad (aH aa (i:Int))=false∧aI s'.b (aH aa (i:Int))=false∧Ox (valOf aa b0.ab) b0 (aH aa (i:Int)))
def RuR(aa:List az) (H:Int→List ca) (b0:cI) (f:Nat):Prop:=∀s (i n:Nat) s',ei aa (valOf aa b0.ab) f s (aH aa (i:Int)) (dT (cm aa (aH aa (i:Int))) (valOf aa b0.ab) n).1 (dT (cm aa (aH aa (i:Int))) (valOf aa b0.ab) n).2=some s'→Good aa b0.ab s→s.e=0→Bi aa H s.vZ s.b→Wy aa b0 s→i<aa.length→n≤cH aa i→s.on (aH aa (i:Int))=true→Na aa s i→
 bD s.b.ah b0.ad (aH aa (i:Int))=false→aI s.b (aH aa (i:Int))=false→Ox (valOf aa b0.ab) b0 (aH aa (i:Int))→(∀a∈(dT (cm aa (aH aa (i:Int))) (valOf aa b0.ab) n).1,db s a=true)→
 Rs aa H b0 (fun y=>s.on y=false∨y=aH aa (i:Int)) s s'
theorem Bi.kJ{s t:ES}(h:Bi aa H s.vZ t.b) (hk:fT s t):Bi aa H t.vZ t.b:=h.Ov fun k c=>by grind [ES.vZ,fT.on]
theorem Na.kJ{s t:ES}{i:Nat}(h:Na aa s i) (hk:fT s t):Na aa t i:=fun j c d=>h j c (by rw [← hk.on];exact d)
theorem Rs.mono{N N':Key→Prop}{s s':ES}(h:Rs aa H b0 N s s') (c:∀y,N y→N' y):Rs aa H b0 N' s s':=⟨h.e,h.bi,h.ev.mono (fun _ h=>h) c,h.wy⟩
theorem xl(rev:Int) (G:List Key) (r:Rec):(bH rev G false r).bq=r.bq:=by
 unfold bH
 grind
theorem uX(w:ao aa):∀f,UpR aa H b0 f∧ChR aa H b0 f∧RuR aa H b0 f:=by
 have C3:=w.len;intro f
 induction f with
 | zero=>exact⟨fun s k s' h=>by simp [hM] at h,fun s i n s' c h=>by simp [cc] at h,fun s i n s' h=>by simp [ei] at h⟩
 | succ f ih=>
  obtain⟨ihu,Uv,ihr⟩:=ih;have gd:=bM (val:=valOf aa b0.ab) (aC:=b0.ab) w f;have W:=fR (val:=valOf aa b0.ab) (aC:=b0.ab) w f;have rn:=qO (aa:=aa) (val:=valOf aa b0.ab) f;refine⟨?_,?_,?_⟩
  ·
   intro s k s' h B he g d hk MZ
   unfold hM at h
   split at h
   ·
    cases h;exact .refl he g d
   rename_i S1
   have L:aw k=false:=by simp at S1;exact S1.2
   split at h
   ·
    cases h;exact .refl he g d
   rename_i hu
   obtain⟨i,hi,rfl,_⟩:=hk.gu L
   split at h
   ·
    rename_i ho
    split at h
    ·
     cases h;exact .refl he g d
    rename_i hc
    have h1:=MZ i hi rfl i hi ho
    grind [bf,Lw,sk]
   rename_i ho
   have FW:s.on (aH aa (i:Int))=false:=by simpa using ho
   obtain⟨⟨s2,c2⟩,G,h⟩:=Option.bind_eq_some_iff.1 h;obtain⟨s3,ht,h⟩:=Option.bind_eq_some_iff.1 h;simp only [Option.some.injEq] at h;subst h;have J0:∀y,ES.on {s with busy:=bY s.busy (aH aa (i:Int)) (.bool true)} y=(decide (aH aa (i:Int)=y) || s.on y):=fun y=>kN s _ y;have X:=B.on (aH aa (i:Int))
   generalize nZ:({s with busy:=bY s.busy (aH aa (i:Int)) (.bool true)}:ES)=s1 at G J0 X
   have e1:s1.b=s.b:=by rw [← nZ]
   have e2:s1.cw=s.cw:=by rw [← nZ]
   have Y:s1.e=0:=by rw [← nZ];exact he
   have Oz:s1.on (aH aa (i:Int))=true:=by rw [J0];simp
   have hB1:Bi aa H s1.vZ s1.b:=by
    rw [e1];refine g.Ov fun y hy=>?_
    unfold ES.vZ at hy ⊢
    grind
   have hW1:Wy aa b0 s1:=⟨by rw [e1];exact d.rev,by rw [e1];exact d.aC,by rw [e1,e2];exact d.ev,by rw [e1];exact d.Nc,by rw [e2];exact d.cw,by rw [e1,e2];exact d.S6,by rw [e1,e2];exact d.Uu,by rw [e2];exact d.i6⟩
   have hr1:Na aa s1 i:=fun j u D=>by
    rw [J0] at D;simp only [Bool.or_eq_true,decide_eq_true_eq] at D
    rcases D with D | D
    ·
     exact .inl (dy w u hi D.symm)
    exact .inr (MZ i hi rfl j u D)
   obtain⟨c1,c3⟩:=Uv s1 i 0 s2 c2 G X Y hB1 hW1 hi Oz hr1 fun _ j c u=>by omega
   obtain⟨k1,k2,_⟩:=W.2.1 _ _ _ _ _ G X;have hg2:=(gd.2.1 _ _ _ _ _ G X).1
   have key:Rs aa H b0 (fun y=>s1.on y=false∨y=aH aa (i:Int)) s1 s3∧aI s3.b (aH aa (i:Int))=true:=by
    cases c2 with
    | false=>
     simp only [Bool.false_eq_true,if_false,Option.some.injEq] at ht;subst ht;exact⟨c1,(k2 c1.e).2 rfl⟩
    | true=>
     simp only [if_true] at ht;obtain⟨d1,d2,d3⟩:=c3 rfl
     have r2:=ihr s2 i 0 s3 ht hg2 c1.e (c1.bi.kJ k1) c1.wy hi (Nat.zero_le _) (by rw [k1.on];exact Oz) (hr1.kJ k1) d1 d2 d3 fun a v=>by simp [dT] at v
     refine⟨c1.trans (r2.mono fun y hy=>by rw [← k1.on];exact hy) (rn.2.2 _ _ _ _ _ ht) k1.on,?_⟩;exact((W.2.2 _ _ _ _ _ ht hg2 (hk.gu L)).2.1 r2.e).2
   obtain⟨r3,hu3⟩:=key;refine⟨r3.e,?_,?_,⟨r3.wy.rev,r3.wy.aC,r3.wy.ev,r3.wy.Nc,r3.wy.cw,r3.wy.S6,r3.wy.Uu,r3.wy.i6⟩⟩
   ·
    refine r3.bi.off hu3 fun y hy=>?_
    unfold ES.vZ at hy ⊢
    grind
   have:=r3.ev
   rw [e1] at this;refine this.mono (fun _ h=>h) fun y hy=>?_
   grind
  ·
   intro s i n s' c h B he g d hi R M O;have L:aw (aH aa (i:Int))=false:=bT hi (by omega)
   unfold cc at h
   rw [if_neg (by simp [he])] at h
   split at h
   ·
    rename_i hc
    simp only [Option.some.injEq,Prod.mk.injEq] at h;obtain⟨rfl,rfl⟩:=h;refine⟨.refl he g d,fun _=>?_⟩
    cases o:ay s.b.ah (aH aa (i:Int)) with
    | none=>
     refine⟨?_,qN o,L,d.D6 (qN o),.inl (d.none o)⟩;rw [Bool.eq_false_iff]
     grind [bK]
    | some r=>
     rw [o,aS o] at hc
     have A:r.bq=true:=by simpa using hc
     have S:=g.dv r (aT o).1 A;refine⟨?_,lx o S,L,d.D6 (lx o S),.inr (d.Nc _ r o A)⟩;rw [Bool.eq_false_iff]
     grind [bK]
   rename_i hc
   split at h
   ·
    simp only [Option.some.injEq,Prod.mk.injEq] at h;obtain⟨rfl,rfl⟩:=h;exact⟨.refl he g d,fun e=>by cases e⟩
   rename_i S
   have hl:Live s.b.ah s.b.ad (aH aa (i:Int)):=by
    cases o:ay s.b.ah (aH aa (i:Int)) with
    | none=>rw [o] at hc;simp at hc
    | some r=>
     rw [o,aS o] at hc;rw [aS o] at S;have h1:=(g.c.Ce r (aT o).1).1;exact⟨r,o,by simpa using hc,by omega⟩
   have O:=O hl
   have OA:aI s.b (aH aa (i:Int))=false:=by
    obtain⟨r,h1,_,P⟩:=hl;exact lx h1 P
   split at h
   ·
    rename_i hn
    simp only [Option.some.injEq,Prod.mk.injEq] at h;obtain⟨rfl,rfl⟩:=h
    have G:∀m∈aB s.b.ah s.b.ad (aH aa (i:Int)),∀a∈(aD s.b.ah m).reads,a∉aB s.b.ah s.b.ad (aH aa (i:Int))→valOf aa (H (aD s.b.ah m).aq) a=valOf aa s.b.ab a∧(aw a=true∨(s.vZ a=true∧aA a=true)∨aI s.b a=true):=fun m hm a v T=>by
     have qe:(⟨m,a⟩:nf)∈bU s.b.ah (aB s.b.ah s.b.ad (aH aa (i:Int))):=gT.2 ⟨hm,v,T⟩;obtain⟨j,u⟩:=List.mem_iff_getElem?.1 qe;have h1:=(List.getElem?_eq_some_iff.1 u).1;have P:=List.getElem?_eq_none_iff.1 hn;have Z:=O j ⟨m,a⟩ (by omega) u;rw [d.aC];exact⟨Z.1,Z.2.1.imp id (Or.imp (fun p=>⟨zq p,p.2⟩) id)⟩
    have yY:=d.Oy hl fun m hm a v T=>by
     have qe:(⟨m,a⟩:nf)∈bU s.b.ah (aB s.b.ah s.b.ad (aH aa (i:Int))):=gT.2 ⟨hm,v,T⟩;obtain⟨j,u⟩:=List.mem_iff_getElem?.1 qe;have h1:=(List.getElem?_eq_some_iff.1 u).1;have P:=List.getElem?_eq_none_iff.1 hn;exact(O j ⟨m,a⟩ (by omega) u).2.2
    have C:∀N:Key→Prop,N (aH aa (i:Int))→iD (valOf aa b0.ab) N s.cw b0.ad s.b.ah (cU s.b (aB s.b.ah s.b.ad (aH aa (i:Int))) false).ah:=fun N hN=>by
     rw [← d.rev];exact iD.mark hl false (.inr hN)
    refine⟨⟨he,g.mark w hl G,C _ (.inr rfl),d.step rfl rfl (C _ trivial) (fun _ h=>h) (fun y r' o A=>?_) d.cw (fun _ h=>.inl h) (fun y hu Nd=>.inr (yY y (GP hu Nd))) d.i6⟩,fun e=>by cases e⟩;have I:(ay s.b.ah y).map (bH s.b.ad (aB s.b.ah s.b.ad (aH aa (i:Int))) false)=some r':=dK.symm.trans o;obtain⟨r,hr,rfl⟩:=Option.map_eq_some_iff.1 I;rw [xl] at A;exact d.Nc y r hr A
   rename_i c0 S7
   obtain⟨hm,v,T⟩:=gT.1 (List.mem_of_getElem? S7);obtain⟨j,u,ej⟩:=g.key (nq hl hm);obtain⟨rm,g1,g2,g3⟩:=nq hl hm;have J:eU aa c0.read:=fc B S7
   split at h
   ·
    obtain⟨t,ht,h⟩:=Option.bind_eq_some_iff.1 h
    have D8:=tO w (aC:=H rm.aq) u (a:=c0.read) (by
     have h1:=(g.c.vr rm (aT g1).1).2;rw [(aT g1).2,ej,gD w u] at h1
     grind [aS])
    have r1:=ihu s c0.read t ht B he g d J fun q hq eq p G hpo=>by
     obtain⟨E,h5⟩:=D8.2 q hq eq;obtain⟨g4,g5⟩:=GQ w g hi u hl (ej ▸ hm)
     rcases M p G hpo with rfl | h6
     ·
      rw [← g4];exact E
     exact h5 _ (g5 _ h6)
    obtain⟨k1,_,_⟩:=W.1 _ _ _ ht B J;have gt:=(gd.1 _ _ _ ht B J).1;have e1:t.b.ad=s.b.ad:=r1.wy.rev.trans d.rev.symm
    have C:iD (valOf aa b0.ab) (fun y=>s.on y=false) t.cw s.b.ad s.b.ah t.b.ah:=by
     rw [d.rev];exact r1.ev
    obtain⟨r2,r3⟩:=Uv t i n s' c h gt r1.e (r1.bi.kJ k1) r1.wy hi (by rw [k1.on];exact R) (M.kJ k1) fun F U V hjn K=>by
     rw [e1] at F K;rw [C.JX F] at K;obtain⟨p1,p2,p3⟩:=O U V hjn K;have hm':=(gT.1 (List.mem_of_getElem? K)).1
     have Y:aD t.b.ah V.eP=aD s.b.ah V.eP:=by
      unfold aD
      rw [(C.group F).2 _ hm']
     rw [Y];refine⟨p1,?_,p3⟩
     rcases p2 with p | p | p
     ·
      exact .inl p
     ·
      grind [fT.on]
     exact .inr (.inr (k1.up _ p))
    exact⟨(r1.mono fun y hy=>.inl hy).trans (r2.mono fun y hy=>by rw [← k1.on];exact hy) (rn.2.1 _ _ _ _ _ h) k1.on,r3⟩
   rename_i Oj
   have J1:=nr (s:=s) (k:=c0.read) (by simpa using Oj)
   split at h
   ·
    rename_i F
    have OB:=d.JZ g hl hm v T F;have Ci:Ox (valOf aa b0.ab) b0 (aH aa (i:Int)):=⟨L,d.D6 OA,.inr (.inr (OB _ oU))⟩;simp only [Option.some.injEq,Prod.mk.injEq] at h;obtain⟨h,rfl⟩:=h
    cases OC:aA (aH aa (i:Int)) with
    | false=>
     rw [OC] at h;simp only [Bool.false_eq_true,if_false] at h;subst h;refine⟨.refl he g d,fun _=>⟨?_,OA,Ci⟩⟩;rw [Bool.eq_false_iff]
     grind [bK]
    | true=>
     rw [OC] at h;simp only [if_true] at h;subst h
     have C:∀N:Key→Prop,iD (valOf aa b0.ab) N s.cw b0.ad s.b.ah (cU s.b (aB s.b.ah s.b.ad (aH aa (i:Int))) true).ah:=fun N=>by
      rw [← d.rev];exact iD.mark hl true (.inl OC)
     obtain⟨r,f1,f2,f3⟩:=hl
     have hfk:ay (cU s.b (aB s.b.ah s.b.ad (aH aa (i:Int))) true).ah (aH aa (i:Int))=some {r with bq:=true}:=by
      refine dK.trans ?_;rw [f1]
      show some (bH _ _ _ r)=_
      unfold bH
      rw [if_pos (by rw [(aT f1).2];exact oU)]
      rfl
     refine⟨⟨he,g.bq fun m hm=>nq ⟨r,f1,f2,f3⟩ hm,C _,d.step rfl rfl (C _) (fun _ h=>h) (fun y r' o A=>?_) d.cw (fun _ h=>.inl h) (fun y hu Nd=>by grind [D5]) d.i6⟩,fun _=>⟨?_,lx hfk f3,Ci⟩⟩
     ·
      have I:(ay s.b.ah y).map (bH s.b.ad (aB s.b.ah s.b.ad (aH aa (i:Int))) true)=some r':=dK.symm.trans o;obtain⟨q,hq,rfl⟩:=Option.map_eq_some_iff.1 I
      by_cases hy:y∈aB s.b.ah s.b.ad (aH aa (i:Int))
      ·
       exact .inr (OB y hy)
      unfold bH at A
      rw [if_neg (by rw [(aT hq).2];exact hy)] at A;exact d.Nc y q hq A
     rw [Bool.eq_false_iff]
     grind [bK]
   rename_i hle
   refine Uv s i (n+1) s' c h B he g d hi R M fun _ U V hjn K=>?_
   rcases Nat.lt_or_ge U n with F | J2
   ·
    exact O U V F K
   have:U=n:=by omega
   subst this;rw [S7] at K
   have:=Option.some.inj K
   subst this;refine⟨?_,J1,by rw [← d.changed g c0.read];exact Int.not_lt.1 hle⟩;rw [aS g1] at hle v ⊢;have h1:=g.c.changed (aT g1).1 g3 v (by rw [d.aC];omega)
   grind [Wy.aC]
  intro s i n s' h B he g d hi hn R M OD xm Ci Oj
  have gR:i≤99:=by omega
  unfold ei at h
  rw [if_neg (by simp [he]),eE hi gR] at h
  rcases Nat.lt_or_ge n (cH aa i) with F | J2
  ·
   obtain⟨a,h1,P,Z⟩:=Bf w hi (ai:=(dT (cm aa (aH aa (i:Int))) (valOf aa b0.ab) n).2) (by grind [eJ]);rw [h1] at h;simp only [Bool.false_eq_true,if_false] at h;obtain⟨t,ht,h⟩:=Option.bind_eq_some_iff.1 h;have J:=P.Il w
   have r1:=ihu s a t ht B he g d J fun m hm ham j u D=>by
    obtain⟨E,h5⟩:=Z m hm ham
    rcases M j u D with rfl | h6
    ·
     exact E
    exact h5 _ h6
   obtain⟨k1,k2,_⟩:=W.1 _ _ _ ht B J;have gt:=(gd.1 _ _ _ ht B J).1
   have C6:db t a=true:=by grind [Rs.e,D7]
   have Uw:dm (valOf aa b0.ab) t.b a=valOf aa b0.ab a:=by
    rw [← r1.wy.aC];refine r1.bi.answer J ?_
    rcases nr C6 with E | E | E
    ·
     exact .inl E
    ·
     exact .inr (.inl E.2)
    exact .inr (.inr E)
   rw [if_pos r1.e,Uw] at h
   have D9:ay t.b.ah (aH aa (i:Int))=ay s.b.ah (aH aa (i:Int)):=by
    rcases r1.ev.pt (aH aa (i:Int)) with e | ⟨e0,r,e1,e2,Y,_⟩ | ⟨⟨_,e0⟩,_⟩
    ·
     exact e
    ·
     grind [bK]
    grind
   have r2:=ihr t i (n+1) s' (by grind [dT]) gt r1.e (r1.bi.kJ k1) r1.wy hi F (by rw [k1.on];exact R) (M.kJ k1) (by grind [bD,aD]) (by
    rw [← xm]
    unfold aI aD
    rw [D9,r1.wy.rev,d.rev]) Ci (fun x Q=>by
    simp only [dT] at Q;rw [h1] at Q
    rcases List.mem_append.1 Q with Q | Q
    ·
     exact k1.there (Oj x Q)
    grind)
   exact(r1.mono fun y hy=>.inl hy).trans (r2.mono fun y hy=>by rw [← k1.on];exact hy) (rn.2.2 _ _ _ _ _ h) k1.on
  have Dp:n=cH aa i:=by omega
  subst Dp;rw [fI w hi] at h;simp only [if_true] at h;rw [if_neg (by have:=g.len;simp;omega)] at h;simp only [Option.some.injEq] at h;subst h;have Ux:∀a∈da aa b0.ab i,aw a=true∨(s.on a=true∧aA a=true)∨aI s.b a=true:=fun a v=>nr (Oj a v);have Ir:=g.put w hi (fun hc=>zq ⟨R,hc⟩) (by rw [d.aC];exact fun a v=>(Ux a v).imp id (Or.imp (fun p=>⟨zq p,p.2⟩) id));rw [d.aC] at Ir
  have C:∀N:Key→Prop,N (aH aa (i:Int))→iD (valOf aa b0.ab) N (s.cw++[aH aa (i:Int)]) b0.ad s.b.ah (eA s.b.ah (cZ s.b (aH aa (i:Int)) (valOf aa b0.ab (aH aa (i:Int))) (da aa b0.ab i))):=fun N hN=>by
   refine iD.put OD (fun r hr=>?_) ⟨by simp [cZ],hN⟩ d.rev rfl rfl (fun r hr=>?_) fun hn=>?_
   ·
    have h1:=(g.c.Ce r (aT hr).1).1
    have P:r.aq≠s.b.ad:=fun e=>by
     have:aI s.b (aH aa (i:Int))=true:=bV.2 ⟨r,hr,e⟩
     grind
    have:=d.rev
    omega
   ·
    have S8:ay s.b.ah (aH aa (i:Int))=some r:=hr
    unfold cZ
    simp only [S8,aS S8,d.rev]
    grind
   grind [cZ,Wy.rev]
  refine⟨he,by show Bi aa H s.vZ ⟨s.b.ad,s.b.ab,_⟩;rw [d.aC];exact Ir,C _ (.inr rfl),d.step rfl rfl (C _ trivial) (fun y hy=>by simp [hy]) (fun y r o A=>?_) (fun y hy=>?_) (fun y hy=>?_) (fun y hu Nd=>?_) (Cg d.i6 fun hr=>by have:=d.S6 _ hr;rw [xm] at this;cases this)⟩
  ·
   have I:ay (eA s.b.ah (cZ s.b (aH aa (i:Int)) (valOf aa b0.ab (aH aa (i:Int))) (da aa b0.ab i))) y=some r:=o;rw [eF] at I
   split at I
   ·
    have:=Option.some.inj I
    subst this
    cases A
   exact d.Nc y r I A
  ·
   rcases List.mem_append.1 hy with hy | hy
   ·
    exact d.cw y hy
   grind
  ·
   rcases List.mem_append.1 hy with hy | hy
   ·
    exact .inl hy
   rw [List.mem_singleton] at hy;rw [hy];exact .inr (qD (r:=cZ s.b (aH aa (i:Int)) (valOf aa b0.ab (aH aa (i:Int))) (da aa b0.ab i)) rfl)
  refine .inl ?_
  by_cases e:y=aH aa (i:Int)
  ·
   rw [e]
   simp
  obtain⟨r,hr,S⟩:=bV.1 Nd;have S8:ay (eA s.b.ah (cZ s.b (aH aa (i:Int)) (valOf aa b0.ab (aH aa (i:Int))) (da aa b0.ab i))) y=some r:=hr;rw [eF,if_neg (show ¬y=(cZ s.b (aH aa (i:Int)) (valOf aa b0.ab (aH aa (i:Int))) (da aa b0.ab i)).key from e)] at S8
  grind [bV]
theorem Bk{val:Key→ByteArray}{f:Nat}:∀{l:List Key}{s s':ES},cD aa val f s l=some s'→∀y∈s.cw,y∈s'.cw
 | [],s,s',h,y,hy=>by grind [cD]
 | k::r,s,s',h,y,hy=>by
  simp only [cD] at h;obtain⟨t,h1,c⟩:=Option.bind_eq_some_iff.1 h;exact Bk c y ((qO f).1 _ _ _ h1 y hy)
theorem tP(m:ao aa) {f:Nat}:∀{l:List Key}{s s':ES},cD aa (valOf aa b0.ab) f s l=some s'→Good aa b0.ab s→s.e=0→Bi aa H s.vZ s.b→Wy aa b0 s→(∀k∈l,eU aa k)→(∀k,s.on k=false)→Rs aa H b0 (fun _=>True) s s'∧(∀k,s'.on k=false)∧(∀k,aI s.b k=true→aI s'.b k=true)∧∀k∈l,aw k=false→aI s'.b k=true
 | [],s,s',h,n,he,p,u,_,d=>by
  simp only [cD,Option.some.injEq] at h;subst h;exact⟨.refl he p u,d,fun _ h=>h,fun k hk=>by cases hk⟩
 | k::r,s,s',h,n,he,p,u,hk,d=>by
  simp only [cD] at h;obtain⟨t,h1,B⟩:=Option.bind_eq_some_iff.1 h;have v:=hk k (by simp);have E:=((bM (val:=valOf aa b0.ab) m f).1 _ _ _ h1 n v).1;obtain⟨g,kt,_⟩:=(fR (val:=valOf aa b0.ab) m f).1 _ _ _ h1 n v
  have r1:=(uX (H:=H) (b0:=b0) m f).1 s k t h1 n he p u v fun i _ _ j _ C=>by rw [d] at C;cases C
  obtain⟨r2,F,D,g2⟩:=tP m B E r1.e (r1.bi.kJ g) r1.wy (fun k G=>hk k (by simp [G])) fun k=>by rw [g.on];exact d k
  have I:=Bk B;refine⟨(r1.mono fun _ _=>trivial).trans r2 I g.on,F,fun y hy=>D y (g.up y hy),fun q w A=>?_⟩
  rcases List.mem_cons.1 w with rfl | w
  ·
   refine D _ ?_
   rcases(kt r1.e).2 with o | o
   ·
    rw [A] at o
    cases o
   rcases nr o with c | c | c
   ·
    rw [A] at c
    cases c
   ·
    rw [g.on,d] at c
    cases c.1
   exact c
  exact g2 q w A
end
end Go.Rc

namespace Go.Rc
open Go
def Bh(aa:List az) (b:cI):Prop:=∃H:Int→List ca,Bi aa H (fun _=>false) b
section
variable {aa:List az}{H:Int→List ca}{on:Key→Bool}{x y b:cI}{k:Key}
theorem Bh.new(aa:List az) (rev:Int) (aC:List ca):Bh aa ⟨rev,aC,[]⟩:=
 ⟨fun _=>aC,⟨⟨rfl,fun _ _ _ _ _=>rfl,fun r hr=>(by cases hr),fun r hr=>(by cases hr),fun r hr=>(by cases hr),fun r hr=>(by cases hr)⟩,List.Pairwise.nil,fun r hr=>(by cases hr),fun r hr=>(by cases hr)⟩⟩
theorem Bh.apply(h:Bh aa x) (hr:y.ah=x.ah) (m:y.ad=x.ad+1) (hk:∀k,bw y.ab k=bw x.ab k∨(bw y.ab k).changed=y.ad):Bh aa y:=by
 obtain⟨H,h⟩:=h;have hH:∀t,t≤x.ad→(if t≤x.ad then H t else y.ab)=H t:=fun t ht=>if_pos ht;refine⟨fun t=>if t≤x.ad then H t else y.ab,⟨⟨?_,fun k t hi h1 f=>?_,fun r d=>?_,fun r d=>?_,fun r d a i hi ra g=>?_,fun r d hc a i hi ra g=>?_⟩,by rw [hr];exact h.st,by rw [hr];exact h.kr,fun r d j=>?_⟩⟩
 ·
  grind
 ·
  by_cases ht:t≤x.ad
  ·
   show cellOf (if t≤x.ad then H t else y.ab) k=_
   rw [if_pos ht]
   rcases hk k with e | e
   ·
    rw [e] at h1;rw [h.c.eS k t hi h1 ht]
    unfold cellOf
    rw [e]
   omega
  grind
 ·
  rw [hr] at d
  have:=h.c.Ce r d
  omega
 ·
  rw [hr] at d;have h1:=h.c.Ce r d;rw [hH _ h1.1];exact h.c.vr r d
 ·
  rw [hr] at d g;have h1:=h.c.Ce r d;rw [hH _ h1.1]
  rcases h.c.rr r d a i hi ra g with⟨_,f⟩ | f
  ·
   cases f
  exact .inr f
 ·
  rw [hr] at d g
  rcases h.c.rs r d hc a i hi ra g with⟨_,f⟩ | f
  ·
   cases f
  exact .inr f
 rw [hr] at d
 have:=h.dv r d j
 omega
theorem Wy.start(b:cI):Wy aa b ⟨b,[],[],0⟩:=⟨rfl,rfl,.refl _,fun y r d e=>.inl (by rw [aS d];exact e),fun y hy=>(by cases hy),fun y hy=>(by cases hy),fun y h1 c=>(by rw [h1] at c;cases c),List.nodup_nil⟩
theorem Bh.request(g:ao aa) (h:Bh aa b) {f:Nat}{l:List Key}{s':ES}(i:Good aa b.ab ⟨b,[],[],0⟩) (hk:∀k∈l,eU aa k) (j:cD aa (valOf aa b.ab) f ⟨b,[],[],0⟩ l=some s') :
  s'.e=0∧Bh aa s'.b∧Wy aa b s'∧(∀k,aI b k=true→aI s'.b k=true)∧(∀k∈l,aw k=false→aI s'.b k=true)∧∀r∈s'.b.ah,r.aq=s'.b.ad→r.value=valOf aa b.ab r.key:=by
 obtain⟨H,h⟩:=h;have m:Wy aa b ⟨b,[],[],0⟩:=Wy.start b
 obtain⟨h1,q,n,o⟩:=tP (H:=H) (b0:=b) g j i rfl (h.Ov fun k hk=>by cases hk) m hk fun k=>rfl
 have d:Bi aa H (fun _=>false) s'.b:=h1.bi.Ov fun k hk=>by grind [ES.vZ,ES.on,ba]
 refine⟨h1.e,⟨H,d⟩,h1.wy,n,o,fun r hr p=>?_⟩;rw [(d.c.vr r hr).1,p,d.c.now,h1.wy.aC]
end
end Go.Rc

namespace Go.Rc
open Go
section
variable {x b b':cI}{k a:Key}
end
section
variable {aa:List az}{H:Int→List ca}{b0 b b':cI}{cw:List Key}
end
end Go.Rc

