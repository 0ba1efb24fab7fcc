/- Base of the proof: frames, memory, ownership, and the plain meaning of rule systems. Conditions: as each lemma says. -/
import Derived.Test.YtcongbofepbmeaaGreatDoorFBe
import Derived.Test.YtcongbofepbmeaaGreatDoorFBd
import Derived.Test.YtcongbofepbmeaaGreatDoorFBc
import Derived.Laws.IdiomRangeMap
set_option linter.all false
namespace Go.Rc
open Go
/-! ### counting -/
def CC(p:Nat→Bool):Nat→Nat
 | 0=>0
 | n+1=>CC p n+(p n).toNat
theorem tt{p q:Nat→Bool}:∀{n:Nat},(∀i,i<n→p i=true→q i=true)→CC p n≤CC q n
 | 0,_=>Nat.le_refl _
 | n+1,h=>by
  have h1:=tt (n:=n) fun i hi=>h i (by omega)
  have a:=h n (by omega);simp only [CC]
  cases c:p n with
  | false=>simp;omega
  | true=>rw [a c];omega
theorem tu{p q:Nat→Bool}{j:Nat}:∀{n:Nat},(∀i,i<n→p i=true→q i=true)→j<n→q j=true→p j=false→CC p n+1≤CC q n
 | 0,_,c,_,_=>by omega
 | n+1,h,c,h1,a=>by
  simp only [CC]
  rcases Nat.lt_or_ge j n with f | v
  ·
   have o:=tu (n:=n) (fun i hi=>h i (by omega)) f h1 a;have r:=h n (by omega)
   cases u:p n with
   | false=>simp;omega
   | true=>rw [r u];omega
  have e:j=n:=by omega
  subst e
  have o:=tt (n:=j) (p:=p) (q:=q) fun i hi=>h i (by omega)
  rw [h1,a];simp;omega
theorem Ei{p q:Nat→Bool}{j:Nat}:∀{n:Nat},(∀i,i<n→i≠j→p i=true→q i=true)→CC p n≤CC q n+1
 | 0,_=>by simp [CC]
 | n+1,h=>by
  simp only [CC]
  by_cases e:n=j
  ·
   subst e
   have f:=tt (n:=n) (p:=p) (q:=q) fun i hi=>h i (by omega) (by omega)
   cases p n <;> cases q n <;> simp <;> omega
  have h1:=Ei (n:=n) fun i hi=>h i (by omega)
  have a:=h n (by omega) e
  cases c:p n with
  | false=>simp;omega
  | true=>rw [a c];simp;omega
theorem L7(p:Nat→Bool):∀n,CC p n≤n
 | 0=>Nat.le_refl _
 | n+1=>by have:=L7 p n;simp only [CC];cases p n <;> simp <;> omega
/-! ### what is found in what was put -/
theorem Ej:∀(a b:List UInt8),Lib.compareBytes a b=0→a=b
 | [],[],_=>rfl
 | [],_::_,h=>by simp [Lib.compareBytes] at h
 | _::_,[],h=>by simp [Lib.compareBytes] at h
 | x::a,y::b,h=>by
  simp only [Lib.compareBytes] at h
  split at h
  ·
   cases h
  split at h
  ·
   cases h
  rename_i h1 c
  have e:x=y:=by grind
  rw [e,Ej a b h]
theorem lG{a b:Key}(h:bp a b=0):a=b:=by
 unfold bp at h
 split at h
 ·
  cases h
 split at h
 ·
  cases h
 rename_i h1 c
 have f:=Ej _ _ h;obtain⟨o,i⟩:=a;obtain⟨p,q⟩:=b;simp only at h1 c f
 congr 1
 ·
  omega
 cases i;simp_all
theorem Ac(r:Rec) (k:Key):∀(l:List Rec) (b:Bool),aH (eL r l b) k=if k=r.key then (if b then none else some r) else aH l k:=by
 intro l
 induction l with
 | nil=>
  intro b
  unfold eL aH
  grind
 | cons x xs a=>
  intro b;have h1:=a (b || decide (0≤bp x.key r.key))
  unfold eL
  unfold aH at h1 ⊢
  rw [List.find?_append,List.find?_append,h1]
  by_cases h:k=r.key
  ·
   subst h;simp only [if_true]
   by_cases hc:bp x.key r.key=0
   ·
    grind
   have f:x.key≠r.key:=fun e=>hc (by rw [e];exact gL _)
   grind
  simp only [if_neg h]
  have hr:(r.key == k)=false:=by simp;exact fun e=>h e.symm
  have c:(List.find? (fun y=>y.key == k) (if (decide (0≤bp x.key r.key) && !b)=true then [r] else []))=none:=by split <;> simp [hr]
  rw [c]
  by_cases hc:bp x.key r.key=0
  ·
   have e:x.key=r.key:=lG hc
   grind
  grind
theorem eC(l:List Rec) (r:Rec) (k:Key):aH (fb l r) k=if k=r.key then some r else aH l k:=by grind [fb,Ac]
theorem pZ(f:Rec→Rec) (a:∀r,(f r).key=r.key) (k:Key) (l:List Rec):aH (l.map f) k=(aH l k).map f:=by
 unfold aH
 rw [List.find?_map,show((fun x:Rec=>x.key == k)∘f)=(fun x:Rec=>x.key == k) from funext fun x=>by simp [a]]
/-! ### what goes on being so -/
theorem bF{x:cA}{k:Key}:aM x k=true↔∃r,aH x.ah k=some r∧r.av=x.ab:=by
 unfold aM aF
 cases a:aH x.ah k with
 | none=>simp
 | some r=>simp
theorem CD{x:cA}{g:List Key}{d:Bool}{k:Key}(h:aM x k=true):aM (cE x g d) k=true:=by
 obtain⟨r,h1,a⟩:=bF.1 h;refine bF.2 ⟨bC x.ab g d r,?_,?_⟩
 ·
  show aH (x.ah.map (bC x.ab g d)) k=_
  grind [pZ,cz]
 show _=x.ab
 unfold bC
 grind
theorem pa{x:cA}{g:List Key}{k:Key}(h:(aH x.ah k).isSome=true) (hk:k∈g):aM (cE x g false) k=true:=by
 obtain⟨r,h1⟩:=Option.isSome_iff_exists.1 h;have a:=List.find?_some h1
 simp at a
 refine bF.2 ⟨bC x.ab g false r,?_,?_⟩
 ·
  show aH (x.ah.map (bC x.ab g false)) k=_
  grind [pZ,cz]
 show _=x.ab
 grind [bC]
theorem Fy{x:cA}{r:Rec}{k:Key}(hr:r.av=x.ab) (h:aM x k=true):aM {x with ah:=fb x.ah r} k=true:=by
 obtain⟨q,h1,a⟩:=bF.1 h
 by_cases e:k=r.key
 ·
  exact bF.2 ⟨r,by show aH (fb x.ah r) k=_;rw [eC,if_pos e],hr⟩
 exact bF.2 ⟨q,by show aH (fb x.ah r) k=_;rw [eC,if_neg e,h1],a⟩
theorem ov{x:cA}{r:Rec}(hr:r.av=x.ab):aM {x with ah:=fb x.ah r} r.key=true:=
 bF.2 ⟨r,by show aH (fb x.ah r) r.key=_;rw [eC,if_pos rfl],hr⟩
theorem CE(l:List Rec) (rev:Int) (k:Key):k∈aC l rev k:=by grind [aC,nB]
structure gQ (s s':ES):Prop where
 on:∀k,s'.on k=s.on k
 up:∀k,aM s.b k=true→aM s'.b k=true
theorem gQ.refl(s:ES):gQ s s:=⟨fun _=>rfl,fun _ h=>h⟩
theorem gQ.trans{s t u:ES}(h:gQ s t) (a:gQ t u):gQ s u:=⟨fun k=>(a.on k).trans (h.on k),fun k hk=>a.up k (h.up k hk)⟩
theorem gQ.there{s s':ES}(h:gQ s s') {k:Key}(ht:dQ s k=true):dQ s' k=true:=by
 unfold dQ at ht ⊢
 rw [h.on k];simp only [Bool.or_eq_true] at ht ⊢
 rcases ht with h1 | h1 | h1
 ·
  exact .inl h1
 ·
  exact .inr (.inl h1)
 exact .inr (.inr (h.up k h1))
def fK(aa:List aA) (s:ES):Nat:=CC (fun i=>!aM s.b (aD aa (i:Int)) && !s.on (aD aa (i:Int))) aa.length
def off(aa:List aA) (s:ES):Nat:=CC (fun i=>!s.on (aD aa (i:Int))) aa.length
theorem gQ.fK{aa:List aA}{s s':ES}(h:gQ s s'):fK aa s'≤fK aa s:=tt fun i _ a=>by
 simp only [Bool.and_eq_true,Bool.not_eq_true'] at a ⊢;rw [h.on] at a;refine⟨?_,a.2⟩
 cases hu:aM s.b (aD aa (i:Int)) with
 | false=>rfl
 | true=>rw [h.up _ hu] at a;exact absurd a.1 (by simp)
theorem gQ.off{aa:List aA}{s s':ES}(h:gQ s s'):Go.Rc.off aa s'=Go.Rc.off aa s:=by
 unfold Go.Rc.off
 congr 1
 funext i
 rw [h.on]
section
variable {aa:List aA}{val:Key→ByteArray}{az:List bU}
theorem mD(s:ES) (k k':Key):ES.on {s with busy:=cO s.busy k (.bool true)} k'=(decide (k=k') || s.on k'):=by
 unfold ES.on
 simp only [ey]
 by_cases h:k=k' <;> simp [h]
theorem CH{s:ES}(hn:(s.busy.map (·.1)).Nodup) (k k':Key):ES.on {s with busy:=hU s.busy k} k'=(!decide (k=k') && s.on k'):=by
 unfold ES.on
 simp only [zA hn]
 by_cases h:k=k' <;> simp [h]
def UpK(aa:List aA) (val:Key→ByteArray) (az:List bU) (f:Nat):Prop:=∀s k s',kB aa val f s k=some s'→Good aa az s→eu aa k→gQ s s'∧(s'.e=0→s.e=0∧(aB k=true∨dQ s' k=true))∧s'.bM.length+fK aa s'≤s.bM.length+fK aa s
def ChK(aa:List aA) (val:Key→ByteArray) (az:List bU) (f:Nat):Prop:=∀s k n s' b,cw aa val f s k n=some (s',b)→Good aa az s→gQ s s'∧(s'.e=0→s.e=0∧(b=false→aM s'.b k=true))∧s'.bM.length+fK aa s'≤s.bM.length+fK aa s
def RuK(aa:List aA) (val:Key→ByteArray) (az:List bU) (f:Nat):Prop:=∀s k reads ae s',fQ aa val f s k reads ae=some s'→Good aa az s→gj aa k ae.length→gQ s s'∧(s'.e=0→s.e=0∧aM s'.b k=true)∧(s'.bM.length+fK aa s'≤s.bM.length+fK aa s∨(aM s'.b k=true∧s'.bM.length+fK aa s'≤s.bM.length+fK aa s+1))
theorem gQ.err(s:ES) (e:Int):gQ s {s with e:=e}:=⟨fun _=>rfl,fun _ h=>h⟩
theorem gQ.mark(s:ES) (g:List Key) (d:Bool):gQ s {s with b:=cE s.b g d}:=⟨fun _=>rfl,fun _ h=>CD h⟩
theorem gM(I:aq aa):∀f,UpK aa val az f∧ChK aa val az f∧RuK aa val az f:=by
 intro f
 induction f with
 | zero=>exact⟨fun s k s' h=>by simp [kB] at h,fun s k n s' b h=>by simp [cw] at h,fun s k r a s' h=>by simp [fQ] at h⟩
 | succ f R=>
  obtain⟨J,A,B⟩:=R;have gd:=bS (val:=val) (az:=az) I f;refine⟨?_,?_,?_⟩
  ·
   intro s k s' h o hk
   unfold kB at h
   split at h
   ·
    rename_i he
    cases h
    refine⟨.refl _,fun h0=>⟨h0,?_⟩,Nat.le_refl _⟩
    grind
   rename_i he
   have S:s.e=0:=by simp at he;exact he.1
   have C:aB k=false:=by simp at he;exact he.2
   split at h
   ·
    rename_i hu
    cases h
    exact⟨.refl _,fun h0=>⟨h0,.inr (by unfold dQ;rw [hu];simp)⟩,Nat.le_refl _⟩
   rename_i hu
   split at h
   ·
    rename_i D
    split at h
    ·
     rename_i hc
     cases h
     exact⟨.refl _,fun h0=>⟨h0,.inr (by unfold dQ;rw [D,hc];simp)⟩,Nat.le_refl _⟩
    cases h
    exact⟨.err _ _,fun h0=>by simp at h0,Nat.le_refl _⟩
   rename_i D
   have hu':aM s.b k=false:=by simpa using hu
   have Jl:s.on k=false:=by simpa using D
   obtain⟨⟨s2,b2⟩,v,h⟩:=Option.bind_eq_some_iff.1 h;obtain⟨s3,ht,h⟩:=Option.bind_eq_some_iff.1 h;simp only [Option.some.injEq] at h;subst h;obtain⟨i,hi,J2,_⟩:=hk.gy C;obtain⟨E,_⟩:=gd.2.1 _ _ _ _ _ v (o.on k);obtain⟨L,U,V⟩:=A _ _ _ _ _ v (o.on k)
   -- the state before, with k under way
   have h1:fK aa {s with busy:=cO s.busy k (.bool true)}+1≤fK aa s:=by
    refine tu (j:=i) (fun j _ q=>?_) hi ?_ ?_
    ·
     simp only [mD,Bool.and_eq_true,Bool.not_eq_true',Bool.or_eq_false_iff] at q ⊢;exact⟨q.1,q.2.2⟩
    ·
     grind
    grind [mD]
   have y:Good aa az s3∧gQ s2 s3∧(s3.e=0→s2.e=0∧aM s3.b k=true)∧(s3.bM.length+fK aa s3≤s2.bM.length+fK aa s2∨(aM s3.b k=true∧s3.bM.length+fK aa s3≤s2.bM.length+fK aa s2+1)):=by
    split at ht
    ·
     obtain⟨a,b,c⟩:=B _ _ _ _ _ ht E (hk.gy C);exact⟨(gd.2.2 _ _ _ _ _ ht E (hk.gy C) rfl (fun a z=>by cases z)).1,a,b,c⟩
    rename_i hb
    simp only [Option.some.injEq] at ht;subst ht;exact⟨E,.refl _,fun h0=>⟨h0,(U h0).2 (by simpa using hb)⟩,.inl (Nat.le_refl _)⟩
   obtain⟨F,M,W,ht3⟩:=y
   have X:∀k',s3.on k'=(decide (k=k') || s.on k'):=fun k'=>by rw [M.on,L.on,mD]
   have p:gQ s {s3 with busy:=hU s3.busy k}:=⟨fun k'=>by
    rw [CH F.j6,X]
    grind,fun k' h=>M.up _ (L.up _ h)⟩
   refine⟨p,fun h0=>⟨S,.inr ?_⟩,?_⟩
   ·
    have:=(W h0).2
    show dQ {s3 with busy:=hU s3.busy k} k=true
    unfold dQ
    grind
   show s3.bM.length+fK aa {s3 with busy:=hU s3.busy k}≤_
   have agR:s2.bM.length+fK aa s2≤s.bM.length+fK aa {s with busy:=cO s.busy k (.bool true)}:=V
   by_cases Sj:aM s3.b k=true
   ·
    have:fK aa {s3 with busy:=hU s3.busy k}≤fK aa s3:=tt fun j _ q=>by
     simp only [CH F.j6,Bool.and_eq_true,Bool.not_eq_true',Bool.and_eq_false_iff] at q ⊢
     grind
    omega
   have u:fK aa {s3 with busy:=hU s3.busy k}≤fK aa s3+1:=Ei (j:=i) fun j q LY v=>by
    simp only [CH F.j6,Bool.and_eq_true,Bool.not_eq_true',Bool.and_eq_false_iff] at v ⊢
    grind [dD]
   grind
  ·
   intro s k n s' b h o
   unfold cw at h
   split at h
   ·
    rename_i he
    cases h;exact⟨.refl _,fun h0=>absurd h0 he,Nat.le_refl _⟩
   split at h
   ·
    cases h;exact⟨.refl _,fun h0=>⟨h0,fun hb=>by cases hb⟩,Nat.le_refl _⟩
   rename_i hf
   have N:(aH s.b.ah k).isSome=true:=by grind
   split at h
   ·
    rename_i Y
    cases h;exact⟨.refl _,fun h0=>⟨h0,fun _=>by unfold aM;rw [N,Y];simp⟩,Nat.le_refl _⟩
   split at h
   ·
    cases h
    have p:gQ s {s with b:=cE s.b (aC s.b.ah s.b.ab k) false}:=.mark _ _ _;exact⟨p,fun h0=>⟨h0,fun _=>pa N (CE _ _ _)⟩,Nat.add_le_add_left p.fK _⟩
   rename_i c hc
   split at h
   ·
    obtain⟨t,ht,h⟩:=Option.bind_eq_some_iff.1 h;obtain⟨h1,G,y⟩:=J _ _ _ ht o (fy o hc);obtain⟨H,u,O⟩:=A _ _ _ _ _ h (gd.1 _ _ _ ht o (fy o hc)).1;exact⟨h1.trans H,fun h0=>⟨(G (u h0).1).1,(u h0).2⟩,Nat.le_trans O y⟩
   split at h
   ·
    split at h <;> cases h
    ·
     have p:gQ s {s with b:=cE s.b (aC s.b.ah s.b.ab k) true}:=.mark _ _ _;exact⟨p,fun h0=>⟨h0,fun hb=>by cases hb⟩,Nat.add_le_add_left p.fK _⟩
    exact⟨.refl _,fun h0=>⟨h0,fun hb=>by cases hb⟩,Nat.le_refl _⟩
   exact A _ _ _ _ _ h o
  intro s k reads ae s' h o z
  unfold fQ at h
  split at h
  ·
   rename_i he
   cases h;exact⟨.refl _,fun h0=>absurd h0 he,.inl (Nat.le_refl _)⟩
  rename_i he
  split at h
  ·
   split at h
   ·
    cases h;exact⟨.err _ _,fun h0=>by simp at h0,.inl (Nat.le_refl _)⟩
   cases h
   have p:gQ s {s with b:={s.b with ah:=fb s.b.ah (cP s.b k (aL aa k ae).value reads)},bM:=s.bM++[k]}:=⟨fun _=>rfl,fun _ h=>Fy rfl h⟩;have hu:aM ({s.b with ah:=fb s.b.ah (cP s.b k (aL aa k ae).value reads)}:cA) k=true:=ov (r:=cP s.b k (aL aa k ae).value reads) rfl;refine⟨p,fun h0=>⟨h0,hu⟩,.inr ⟨hu,?_⟩⟩
   have:=p.fK (aa:=aa)
   grind
  rename_i Z
  obtain⟨t,ht,h⟩:=Option.bind_eq_some_iff.1 h;have hn:=z.next I (by simpa using Z);obtain⟨h1,G,y⟩:=J _ _ _ ht o hn.2;have Q:=(gd.1 _ _ _ ht o hn.2).1
  have h7:gQ t s'∧(s'.e=0→t.e=0∧aM s'.b k=true)∧(s'.bM.length+fK aa s'≤t.bM.length+fK aa t∨(aM s'.b k=true∧s'.bM.length+fK aa s'≤t.bM.length+fK aa t+1)):=by
   split at h
   ·
    exact B _ _ _ _ _ h Q (by simpa using hn.1)
   exact B _ _ _ _ _ h Q z
  obtain⟨H,u,O⟩:=h7;refine⟨h1.trans H,fun h0=>⟨(G (u h0).1).1,(u h0).2⟩,?_⟩
  grind
/-! ### more fuel does no harm -/
theorem mE:∀f,(∀s k s',kB aa val f s k=some s'→kB aa val (f+1) s k=some s')∧(∀s k n p,cw aa val f s k n=some p→cw aa val (f+1) s k n=some p)∧(∀s k r a s',fQ aa val f s k r a=some s'→fQ aa val (f+1) s k r a=some s'):=by
 intro f
 induction f with
 | zero=>grind [kB,cw,fQ]
 | succ f q=>
  obtain⟨v,y,z⟩:=q;refine⟨?_,?_,?_⟩
  ·
   intro s k s' h
   unfold kB at h ⊢
   split at h
   ·
    grind
   rename_i h1;rw [if_neg h1]
   split at h
   ·
    grind
   rename_i i;rw [if_neg i]
   split at h
   ·
    grind
   rename_i o;rw [if_neg o]
   obtain⟨p,A,h⟩:=Option.bind_eq_some_iff.1 h;obtain⟨s3,ht,h⟩:=Option.bind_eq_some_iff.1 h
   grind
  ·
   intro s k n p h
   unfold cw at h ⊢
   split at h
   ·
    grind
   rename_i h1;rw [if_neg h1]
   split at h
   ·
    grind
   rename_i i;rw [if_neg i]
   split at h
   ·
    grind
   rename_i o;rw [if_neg o]
   split at h
   ·
    exact h
   rename_i c hc
   split at h
   ·
    rename_i u;rw [if_pos u]
    grind [Option.bind_eq_some_iff]
   grind
  intro s k r a s' h
  unfold fQ at h ⊢
  split at h
  ·
   grind
  rename_i h1;rw [if_neg h1]
  split at h
  ·
   grind
  rename_i i;rw [if_neg i]
  obtain⟨t,ht,h⟩:=Option.bind_eq_some_iff.1 h
  grind
theorem nC{f g:Nat}(h:f≤g) {s:ES}{k:Key}{s':ES}(hu:kB aa val f s k=some s'):kB aa val g s k=some s':=by
 induction h with
 | refl=>exact hu
 | step _ a=>exact(mE _).1 _ _ _ a
theorem ox{f g:Nat}(h:f≤g) {s:ES}{k:Key}{n:Nat}{p:ES × Bool}(hu:cw aa val f s k n=some p):cw aa val g s k n=some p:=by
 induction h with
 | refl=>exact hu
 | step _ a=>exact(mE _).2.1 _ _ _ _ a
theorem tv{f g:Nat}(h:f≤g) {s:ES}{k:Key}{r:List Key}{a:List ByteArray}{s':ES}(hu:fQ aa val f s k r a=some s'):fQ aa val g s k r a=some s':=by
 induction h with
 | refl=>exact hu
 | step _ c=>exact(mE _).2.2 _ _ _ _ _ c
/-! ### there is fuel enough -/
theorem CI(y:aq aa) {d:Nat}(B:∀s k,Good aa az s→eu aa k→off aa s≤d→∃f s',kB aa val f s k=some s') (k:Key) :
  ∀(m:Nat) (s:ES) (n:Nat),fK aa s*200000000+(200000000 - n)≤m→n≤100000000→Good aa az s→off aa s≤d→∃f p,cw aa val f s k n=some p:=by
 intro m
 induction m using Nat.strongRecOn with
 | _ m z=>
  intro s n hm hn a r
  by_cases h1:s.e≠0
  ·
   exact⟨1,(s,false),by unfold cw;rw [if_pos h1]⟩
  by_cases h:(!(aH s.b.ah k).isSome || (aF s.b.ah k).bJ)=true
  ·
   exact⟨1,(s,true),by unfold cw;rw [if_neg h1,if_pos h]⟩
  by_cases q:(aF s.b.ah k).av=s.b.ab
  ·
   exact⟨1,(s,false),by unfold cw;grind⟩
  have C:(aC s.b.ah s.b.ab k).length≤4001:=by grind [ou,Good.len]
  have N:=xY a C
  cases hc:(ct s.b.ah (aC s.b.ah s.b.ab k))[n]? with
  | none=>exact⟨1,_,by unfold cw;rw [if_neg h1,if_neg h,if_neg q,hc]⟩
  | some c=>
   have O:n<(ct s.b.ah (aC s.b.ah s.b.ab k)).length:=(List.getElem?_eq_some_iff.1 hc).1
   by_cases u:dQ s c.read=false
   ·
    obtain⟨f,t,ht⟩:=B s c.read a (fy a hc) r;obtain⟨v,Q,_⟩:=(gM (val:=val) y f).1 _ _ _ ht a (fy a hc);have D:=((bS (val:=val) y f).1 _ _ _ ht a (fy a hc)).1
    have E:aB c.read=false:=by grind [dQ]
    by_cases F:t.e=0
    ·
     obtain⟨i,hi,A,_⟩:=(fy a hc).gy E
     have R:dQ t c.read=true:=by grind
     have S:fK aa t+1≤fK aa s:=by
      have G:aM s.b c.read=false:=by grind [dQ]
      have U:(s.on c.read && ax c.read)=false:=by grind [dQ]
      have H:aM t.b c.read=true:=by grind [dQ,gQ.on]
      have I:s.on c.read=false:=by
       cases V:s.on c.read with
       | false=>rfl
       | true=>
        exfalso
        cases f with
        | zero=>simp [kB] at ht
        | succ f=>
         unfold kB at ht
         grind
      refine tu (j:=i) (fun j _ o=>?_) hi ?_ ?_
      ·
       simp only [Bool.and_eq_true,Bool.not_eq_true'] at o ⊢;rw [v.on] at o;refine⟨?_,o.2⟩
       cases J:aM s.b (aD aa (j:Int)) with
       | false=>rfl
       | true=>rw [v.up _ J] at o;exact absurd o.1 (by simp)
      ·
       rw [← A,G,I];rfl
      rw [← A,H];rfl
     obtain⟨f2,p,L⟩:=z (fK aa t*200000000+(200000000 - n)) (by omega) t n (Nat.le_refl _) hn D (by rw [v.off];exact r);refine⟨max f f2+1,p,?_⟩
     unfold cw
     rw [if_neg h1,if_neg h,if_neg q,hc]
     simp only
     rw [if_pos u,nC (Nat.le_max_left _ _) ht]
     grind [ox,Nat.le_max_right]
    refine⟨max f 1+1,(t,false),?_⟩
    unfold cw
    rw [if_neg h1,if_neg h,if_neg q,hc]
    simp only
    rw [if_pos u,nC (Nat.le_max_left _ _) ht];refine ox (f:=1) (Nat.le_max_right _ _) ?_
    unfold cw
    rw [if_pos F]
   by_cases M:(aF s.b.ah c.eO).av<bR val s.b c.read
   ·
    exact⟨1,_,by unfold cw;rw [if_neg h1,if_neg h,if_neg q,hc];simp only;rw [if_neg u,if_pos M]⟩
   obtain⟨f2,p,L⟩:=z (fK aa s*200000000+(200000000 - (n+1))) (by omega) s (n+1) (Nat.le_refl _) (by omega) a r;refine⟨f2+1,p,?_⟩
   unfold cw
   grind
theorem HG(h:aq aa) {d:Nat}(v:∀s k,Good aa az s→eu aa k→off aa s≤d→∃f s',kB aa val f s k=some s') (k:Key) :
  ∀(m:Nat) (s:ES) (reads:List Key) (ae:List ByteArray),7 - ae.length≤m→Good aa az s→gj aa k ae.length→off aa s≤d→∃f s',fQ aa val f s k reads ae=some s':=by
 intro m
 induction m with
 | zero=>intro s r a hm _ i _;have:=i.le h;omega
 | succ m y=>
  intro s reads ae hm o i q
  by_cases h1:s.e≠0
  ·
   exact⟨1,s,by unfold fQ;rw [if_pos h1]⟩
  by_cases c:(aL aa k ae).done=true
  ·
   by_cases u:(!(aH s.b.ah k).isSome && decide (4000≤s.b.ah.length))=true
   ·
    exact⟨1,_,by unfold fQ;rw [if_neg h1,if_pos c,if_pos u]⟩
   exact⟨1,_,by unfold fQ;rw [if_neg h1,if_pos c,if_neg u]⟩
  have hn:=i.next h (by simpa using c);obtain⟨f,t,ht⟩:=v s _ o hn.2 q;obtain⟨z,_,_⟩:=(gM (val:=val) h f).1 _ _ _ ht o hn.2;have A:=((bS (val:=val) h f).1 _ _ _ ht o hn.2).1
  by_cases p:t.e=0
  ·
   obtain⟨f2,s',B⟩:=y t (reads++[(aL aa k ae).ask]) (ae++[da val t.b (aL aa k ae).ask]) (by simp;omega) A (by simpa using hn.1) (by rw [z.off];exact q);refine⟨max f f2+1,s',?_⟩
   unfold fQ
   rw [if_neg h1,if_neg c,nC (Nat.le_max_left _ _) ht];simp only [Option.bind_some];rw [if_pos p]
   grind [tv,Nat.le_max_right]
  refine⟨max f 1+1,t,?_⟩
  unfold fQ
  rw [if_neg h1,if_neg c,nC (Nat.le_max_left _ _) ht];simp only [Option.bind_some];rw [if_neg p];refine tv (f:=1) (Nat.le_max_right _ _) ?_
  unfold fQ
  rw [if_pos p]
theorem J3(h:aq aa):∀(d:Nat) (s:ES) (k:Key),Good aa az s→eu aa k→off aa s≤d→∃f s',kB aa val f s k=some s':=by
 intro d
 induction d with
 | zero=>
  intro s k o hk y
  by_cases h1:s.e≠0∨aB k=true
  ·
   exact⟨1,s,by unfold kB;rw [if_pos h1]⟩
  by_cases a:aM s.b k=true
  ·
   exact⟨1,s,by unfold kB;rw [if_neg h1,if_pos a]⟩
  by_cases c:s.on k=true
  ·
   by_cases p:ax k=true
   ·
    exact⟨1,s,by unfold kB;grind⟩
   exact⟨1,_,by unfold kB;rw [if_neg h1,if_neg a,if_pos c,if_neg p]⟩
  exfalso
  obtain⟨i,hi,q,_⟩:=hk.gy (by simp at h1;exact h1.2)
  have:off aa {s with busy:=cO s.busy k (.bool true)}+1≤off aa s:=by
   refine tu (j:=i) (fun j _ z=>?_) hi ?_ ?_
   ·
    grind [mD]
   ·
    rw [← q];simpa using c
   grind [mD]
  omega
 | succ d u=>
  intro s k o hk y
  by_cases h1:s.e≠0∨aB k=true
  ·
   exact⟨1,s,by unfold kB;rw [if_pos h1]⟩
  by_cases a:aM s.b k=true
  ·
   exact⟨1,s,by unfold kB;rw [if_neg h1,if_pos a]⟩
  by_cases c:s.on k=true
  ·
   by_cases p:ax k=true
   ·
    exact⟨1,s,by unfold kB;grind⟩
   exact⟨1,_,by unfold kB;rw [if_neg h1,if_neg a,if_pos c,if_neg p]⟩
  have v:aB k=false:=by simp at h1;exact h1.2
  obtain⟨i,hi,q,_⟩:=hk.gy v
  have C:off aa {s with busy:=cO s.busy k (.bool true)}+1≤off aa s:=by
   refine tu (j:=i) (fun j _ z=>?_) hi ?_ ?_
   ·
    grind [mD]
   ·
    rw [← q];simpa using c
   grind [mD]
  obtain⟨f,⟨s2,b2⟩,r⟩:=CI (val:=val) h u k _ {s with busy:=cO s.busy k (.bool true)} 0 (Nat.le_refl _) (by omega) (o.on k) (by omega);have A:=((bS (val:=val) h f).2.1 _ _ _ _ _ r (o.on k)).1;have B:=((gM (val:=val) h f).2.1 _ _ _ _ _ r (o.on k)).1
  cases b2 with
  | false=>
   refine⟨f+1,{s2 with busy:=hU s2.busy k},?_⟩
   unfold kB
   grind
  | true=>
   obtain⟨f2,s3,D⟩:=HG (val:=val) h u k _ s2 [] [] (Nat.le_refl _) A (hk.gy v) (by rw [B.off];omega);refine⟨max f f2+1,{s3 with busy:=hU s3.busy k},?_⟩
   unfold kB
   rw [if_neg h1,if_neg a,if_neg c,ox (Nat.le_max_left _ _) r];simp only [Option.bind_some,if_true]
   grind [tv,Nat.le_max_right]
end
end Go.Rc

namespace Go.Rc
open Go
noncomputable def dC(aa:List aA) (val:Key→ByteArray) (f:Nat):ES→List Key→Option ES
 | s,[]=>some s
 | s,k::r=>(kB aa val f s k).bind fun t=>dC aa val f t r
def ES.base(s:ES) (x:cA):cA:=if s.e=0 then s.b else x
noncomputable def ES.list(s:ES):List Key:=if s.e=0 then jh s.bM else []
theorem oy{aa:List aA}{az:List bU}{val:Key→ByteArray}(c:aq aa) {f:Nat}:∀{l:List Key}{s s':ES},dC aa val f s l=some s'→Good aa az s→(∀k∈l,eu aa k)→Good aa az s'∧Eh s s'
 | [],s,s',h,a,_=>by simp only [dC,Option.some.injEq] at h;subst h;exact⟨a,.refl _⟩
 | k::r,s,s',h,a,hk=>by
  simp only [dC] at h;obtain⟨t,h1,p⟩:=Option.bind_eq_some_iff.1 h;have i:=(bS (val:=val) c f).1 _ _ _ h1 a (hk k (by simp))
  have o:=oy c p i.1 fun k q=>hk k (by simp [q])
  exact⟨o.1,i.2.trans o.2⟩
theorem St.Sk{κ:Type}{enc:κ→Value}{w0 w:World}{M Z:Nat→Prop}{l:List As}{s m T:Nat}{cs:List Value}{q:List (κ × Value)}(h:St w0 M Z w (As.blk s T cs::As.map enc m q::l)):s≠m:=fun e=>by
 have h1:=(List.pairwise_cons.1 h.vA).1 (As.map enc m q) (by simp) s rfl;exact h1 e
end Go.Rc

namespace Go.Rc
open Go
def J4(r:aA):Prop:=r.ring=false∧r.asks=[]∧r.final=1∧0≤r.c∧r.c≤99
theorem J4.key{aa:List aA}{i:Nat}(hi:i<aa.length) (gD:i≤99) (h:J4 aa[i]):aD aa (i:Int)=⟨31,itoa i⟩:=by
 unfold aD
 rw [if_neg (by omega)]
 simp [bD hi,h.1]
end Go.Rc
namespace Go.Rc
open Go
def NW(i:Nat) (v:ByteArray):Rec:=⟨⟨31,itoa i⟩,v,[],0,0,1,false⟩
def Ad{α:Type}(l:List α) (p:α→Bool) (j:Int):Prop:=(∃i:Nat,∃x,l[i]?=some x∧p x=true∧(∀j x,j<i→l[j]?=some x→p x=false)∧j=i)∨((∀x∈l,p x=false)∧j = -1)
end Go.Rc
namespace Go.Rc
open Go
end Go.Rc

namespace Go.Rc
open Go
theorem nV:∀(l:List UInt8) (u:Nat),0<u→0≤decFrom l (u:Int)→∃v:Nat,decFrom l (u:Int)=v∧Lib.decDigits v=Lib.decDigits u++l
 | [],u,_,_=>⟨u,rfl,by simp⟩
 | c::r,u,hu,h=>by
  unfold decFrom at h ⊢
  by_cases hc:c.toNat<48∨57<c.toNat
  ·
   rw [if_pos hc] at h;omega
  rw [if_neg hc] at h ⊢;obtain⟨d,f⟩:∃d:Nat,c.toNat=48+d:=⟨c.toNat - 48,by omega⟩
  have i:d<10:=by omega
  have e:10*(u:Int)+((c.toNat:Int) - 48)=((10*u+d:Nat):Int):=by omega
  rw [e] at h ⊢;obtain⟨v,h1,a⟩:=nV r (10*u+d) (by omega) h;refine⟨v,h1,?_⟩;rw [a,Lib.decDigits,dif_neg (by omega),show(10*u+d) / 10=u by omega,show(10*u+d) % 10=d by omega,List.append_assoc]
  grind [UInt8.ofNat_toNat]
theorem kC{s:ByteArray}(h:0≤cU s):∃v:Nat,cU s=v∧s=itoa (v:Int):=by
 unfold cU at h ⊢
 by_cases hc:s.size=0∨9<s.size∨(s.data.toList.head?=some 48∧s.size≠1)
 ·
  rw [if_pos hc] at h;omega
 rw [if_neg hc] at h ⊢;obtain⟨d⟩:=s
 have key:∃v:Nat,decFrom d.toList 0=v∧Lib.decDigits v=d.toList:=by
  have hsz:(⟨d⟩:ByteArray).size=d.toList.length:=by simp [ByteArray.size]
  rw [hsz] at hc;simp only at hc h ⊢
  cases hl:d.toList with
  | nil=>rw [hl] at hc;simp at hc
  | cons c r=>
   rw [hl] at hc h
   unfold decFrom at h ⊢
   by_cases hn:c.toNat<48∨57<c.toNat
   ·
    rw [if_pos hn] at h;omega
   rw [if_neg hn] at h ⊢;obtain⟨e,he⟩:∃e:Nat,c.toNat=48+e:=⟨c.toNat - 48,by omega⟩
   have h1:10*(0:Int)+((c.toNat:Int) - 48)=(e:Nat):=by omega
   rw [h1] at h ⊢
   have a:UInt8.ofNat (48+e)=c:=by grind [UInt8.ofNat_toNat]
   by_cases h0:e=0
   ·
    subst h0
    have o:c=48:=by rw [← a];rfl
    have hr:r=[]:=by grind
    subst hr;exact⟨0,rfl,by rw [Lib.decDigits,dif_pos (by omega),a]⟩
   obtain⟨v,f,i⟩:=nV r e (by omega) h;refine⟨v,f,?_⟩;rw [i,Lib.decDigits,dif_pos (by omega),a]
   rfl
 obtain⟨v,h1,f⟩:=key;refine⟨v,h1,?_⟩
 have e:Lib.itoa (v:Int)=Lib.decDigits v:=by unfold Lib.itoa;rw [if_neg (by omega)];rfl
 unfold itoa
 rw [e,f]
theorem Fz{s:ByteArray}(h:∀n:Nat,n≤65535→s≠itoa (n:Int)):cy s=0:=by
 unfold cy
 split
 ·
  rfl
 grind [kC]
theorem FB(l:List aA) (m:Nat):m≤dB l m:=by unfold dB;omega
theorem CJ{aa:List aA}{i:Nat}(hi:i<aa.length):(block aa (i:Int)).1≤(block aa (i:Int)).2:=by
 have hb:block aa (i:Int)=if ay aa i then ((bg aa i:Int),(dB aa (i+1):Int)) else ((i:Int),(i:Int)+1):=by
  unfold block;rw [if_neg (by omega)];rfl
 grind [fo,FB]
theorem Ae(kind:Int) (c:Nat) (l:List Nat):dG kind 0 (c::l)=dG kind c l:=by
 unfold dG rX qT eK
 simp
end Go.Rc

namespace Go.Rc
open Go
theorem Af{κ:Type} [DecidableEq κ]:∀{l:List (κ × Value)}{k:κ}{v:Value},bq l k=none→hU (cO l k v) k=l
 | [],k,v,_=>by simp [cO,hU]
 | (k0,v0)::r,k,v,h=>by
  by_cases e:k0=k
  ·
   subst e;simp [bq] at h
  simp only [bq,if_neg e] at h;simp only [cO,if_neg e,hU,Af h]
def FZ.row(b:Nat) (r:List Value):FZ:=
 ⟨fun Z w=>Z b∧b<w.heap.size∧w.rangeAt b 0 r,fun hZ h=>⟨hZ _ h.1,h.2⟩,fun hs hc h=>⟨h.1,Nat.lt_of_lt_of_le h.2.1 hs,fun j v hv=>by rw [← h.2.2 j v hv];grind [World.cell?_of_block]⟩⟩
def SD.FV(D:SD) (P:Program) (aa:List aA) (x:cA):FZ:=(D.F P aa x).and (FZ.row D.s (D.cells x))
theorem SD.FV.rg{D:SD}{P:Program}{aa:List aA}{x:cA}{Z:Nat→Prop}{w:World}(h:(D.FV P aa x).p Z w):(As.rg D.s 0 (D.cells x)).ok Z w:=As.R3 h.2.1 h.2.2.1 h.2.2.2
theorem wY{κ:Type} [DecidableEq κ]:∀(l:List (κ × Value)) (k:κ) (v u:Value),cO (cO l k v) k u=cO l k u
 | [],k,v,u=>by simp [cO]
 | (k0,v0)::r,k,v,u=>by
  by_cases e:k0=k
  ·
   simp [cO,e]
  simp [cO,e,wY r k v u]
section
variable {aa:List aA}{az:List bU}
def kD(aa:List aA) (i:Nat) (al:List (Key × Value)):Prop:=∀j:Nat,j≤i→j<aa.length→bq al (aD aa (j:Int))=none
theorem kD.mono{i m:Nat}{al:List (Key × Value)}(h:kD aa i al) (hm:m≤i):kD aa m al:=fun j a hl=>h j (by omega) hl
theorem kD.put(a:aq aa) {i m:Nat}{al:List (Key × Value)}(h:kD aa i al) (hi:i<aa.length) (hm:m<i) (v:Value):kD aa m (cO al (aD aa (i:Int)) v):=fun j c hl=>by
 rw [ey,if_neg (fun e=>by have:=dD a hi hl e;omega)];exact h j (by omega) hl
theorem kD.nil(i:Nat):kD aa i []:=fun _ _ _=>rfl
noncomputable def cm(aa:List aA) (az:List bU) (i:Nat):List Key:=(dR (bQ aa (aD aa (i:Int))) (valOf aa az) (bZ aa i)).1
noncomputable def dq(aa:List aA) (az:List bU) (k:Key):List Key:=if aB k then [] else cm aa az (number k).toNat
theorem dT(a:aq aa) {i:Nat}(hi:i<aa.length):dq aa az (aD aa (i:Int))=cm aa az i:=by
 have c:=a.len
 unfold dq
 rw [if_neg (by grind [cM]),cv hi (by omega),Int.toNat_natCast]
theorem ez.Sl(c:aq aa) {i:Nat}{a:Key}(h:ez aa i a):ax a=decide (a.kind=32):=by
 have f:=c.len
 rcases h with⟨n,h1,rfl⟩ | ⟨m,h1,rfl,_⟩
 ·
  rw [jK (by omega)]
  unfold bH
  rw [if_neg (by omega)]
  rfl
 grind [bj,dP]
theorem ez.al(c:aq aa) {i0 j:Nat}{a:Key}{al:List (Key × Value)}(h:ez aa j a) (hr:ay aa j=true) (hc:ax a=false) (hP:aB a=false) (hb:bg aa j≤i0) (f:kD aa i0 al):kD aa (number a).toNat al:=by
 have o:=c.len
 rcases h with⟨n,h1,rfl⟩ | ⟨m,h1,rfl,_,_,_,i⟩
 ·
  grind [bf]
 rw [bj h1 (by omega)] at hc;rw [cv h1 (by omega),Int.toNat_natCast];exact f.mono (by have:=i hc hr;omega)
structure RI (aa:List aA) (az:List bU) (i0:Nat) (qs:List Ask) (u1:Nat→Nat) (L1:List Nat) (kE:Bool) (eH:List (Key × Value)) (n:Nat) (L2:List Nat) (jP:List (Key × Value)) (lZ:Bool) (iN:List (Key × Value)) (acc:List ByteArray):Prop where
 hn:n≤qs.length
 rd:di aa az i0 L2 u1
 up:kz aa az L2 u1 iN
 at_:mf aa L2 u1 jP
 m:aY aa az iN
 le:iE eH iN
 p:nU aa L2 u1≤nU aa L1 u1∧(lZ=true→kE=true∨nU aa L2 u1<nU aa L1 u1)
 c:lZ=false→L2=L1∧kE=false
 pre:L1 <+: L2
 ev:Ev aa az u1 L2 eH iN qs n acc
variable {i0 j n:Nat}{u1:Nat→Nat}{L1 L2:List Nat}{kE lZ:Bool}{eH iN J5 jP:List (Key × Value)}{acc:List ByteArray}
theorem RI.start{a:List (Key × Value)}{qs:List Ask}(h1:di aa az i0 L1 u1) (c:kz aa az L1 u1 eH) (f:mf aa L1 u1 a) (i:aY aa az eH):RI aa az i0 qs u1 L1 kE eH 0 L1 a kE eH []:=
 ⟨Nat.zero_le _,h1,c,f,i,iE.refl _,⟨Nat.le_refl _,fun h=>.inl h⟩,fun h=>⟨rfl,h⟩,List.prefix_refl _,Ev.start⟩
theorem RI.done(a:aq aa) (c:j<aa.length) (hr:ay aa j=true) (h:RI aa az i0 aa[j].asks u1 L1 kE eH n L2 jP lZ iN acc) (hn:n<aa[j].asks.length) {f:Value}(o:bq iN (bw aa aa[j].asks[n])=some f) :
  RI aa az i0 aa[j].asks u1 L1 kE eH (n+1) L2 jP lZ iN (acc++[valOf aa az (bw aa aa[j].asks[n])]):=
 {h with
  hn:=hn
  ev:=h.ev.snoc _ (fun _ _=>rfl) fun _ i k hk=>.inl (by
   obtain⟨p,q,r⟩:=ir a c hr (List.getElem_mem hn) i hk
   grind [fB,fX])}
theorem RI.low(a:aq aa) (f:j<aa.length) (hr:ay aa j=true) (h:RI aa az i0 aa[j].asks u1 L1 kE eH n L2 jP lZ iN acc) (hn:n<aa[j].asks.length) (hc:ax (bw aa aa[j].asks[n])=false) (c:aY aa az J5) (hle:iE iN J5) :
  RI aa az i0 aa[j].asks u1 L1 kE eH (n+1) L2 jP lZ J5 (acc++[valOf aa az (bw aa aa[j].asks[n])]):=
 {h with
  hn:=hn
  up:=h.up.mono a h.rd hle
  m:=c
  le:=h.le.trans hle
  ev:=(h.ev.mono (fun _ h=>h) hle).snoc _ (fun _ _=>rfl) fun _ i k hk=>by grind [aq.len,ir,bj]}
theorem RI.inside(h:aq aa) (i:j<aa.length) (hr:ay aa j=true) (hn:n<aa[j].asks.length) (hc:ax (bw aa aa[j].asks[n])=true) :
  ∃a:Nat,bw aa aa[j].asks[n]=aD aa (a:Int)∧a<aa.length∧ay aa a=true∧eG aa j a∧outside aa aa[j].asks[n]=false:=by
 have o:=List.getElem_mem hn
 have c:outside aa aa[j].asks[n]=false:=by grind [iq]
 obtain⟨a,f,p,q⟩:=gF h i hr o c;exact⟨a,p,q,f.lt.2.2.2,f,c⟩
theorem RI.L8(i:aq aa) (q:j<aa.length) (hr:ay aa j=true) {c:List Nat}(h:Ev aa az u1 c eH iN aa[j].asks n acc) (hle:iE eH iN) (hn:n<aa[j].asks.length) {a:Nat}(r:bw aa aa[j].asks[n]=aD aa (a:Int)) (u:a<aa.length) (o:outside aa aa[j].asks[n]=false)
  (z:bq iN (bw aa aa[j].asks[n])=none) (A:a∈c):Ev aa az u1 c eH iN aa[j].asks (n+1) (acc++[itoa (u1 a:Int)]):=by
 have B:bq eH (aD aa (a:Int))=none:=by
  cases h:bq eH (aD aa (a:Int)) with
  | none=>rfl
  | some v=>have:=hle _ _ h;grind
 refine h.snoc _ (fun _ f=>by rw [o] at f;cases f) fun _ f k hk=>?_;obtain⟨y,C,p⟩:=ir i q hr (List.getElem_mem hn) o hk;rw [r] at p
 have:=dD i u y p
 grind
theorem RI.meet(i:aq aa) (u:j<aa.length) (hr:ay aa j=true) (h:RI aa az i0 aa[j].asks u1 L1 kE eH n L2 jP lZ iN acc) (B:j∈L1) (hn:n<aa[j].asks.length) (hc:ax (bw aa aa[j].asks[n])=true)
  (C:bq iN (bw aa aa[j].asks[n])=none) (H:bq jP (bw aa aa[j].asks[n])=none) :
  ∃a:Nat,bw aa aa[j].asks[n]=aD aa (a:Int)∧a<aa.length∧ay aa a=true∧RI aa az i0 aa[j].asks u1 L1 kE eH (n+1) (L2++[a]) (cO jP (bw aa aa[j].asks[n]) (.string ⟨#[48]⟩)) true iN (acc++[⟨#[48]⟩]):=by
 obtain⟨a,o,c,q,D,E⟩:=RI.inside i u hr hn hc
 have f:a∉L2:=fun hm=>by have:=h.at_.1 a hm;grind
 have r:=h.rd.out a f;have y:cB aa i0 a:=.step (h.rd.reach j (h.pre.subset B)) D;have F:=h.rd.meet c q f y;have G:=h.rd.Ee c q f y;have z:=zX (v:=u1) (j:=a) G;have A:=RI.L8 i u hr (h.ev.mono (L':=L2++[a]) (fun _ h=>by simp [h]) (iE.refl _)) h.le hn o c E C (by simp)
 have e0:itoa ((0:Nat):Int)=⟨#[48]⟩:=by decide +kernel
 rw [r,e0] at A;refine⟨a,o,c,q,⟨hn,F,h.up.meet r,?_,h.m,h.le,⟨Nat.le_of_lt (Nat.lt_of_lt_of_le z h.p.1),fun _=>.inr (Nat.lt_of_lt_of_le z h.p.1)⟩,fun h=>(by cases h),h.pre.trans (List.prefix_append _ _),A⟩⟩;rw [o];exact h.at_.meet i (fun k hk=>(h.rd.ring k hk).1) c f r
theorem RI.Sm(c:aq aa) (i:j<aa.length) (hr:ay aa j=true) (h:RI aa az i0 aa[j].asks u1 L1 kE eH n L2 jP lZ iN acc) (hn:n<aa[j].asks.length) (hc:ax (bw aa aa[j].asks[n])=true)
  (r:bq iN (bw aa aa[j].asks[n])=none) {v:Value}(u:bq jP (bw aa aa[j].asks[n])=some v) :
  ∃s:ByteArray,v=.string s∧s.size≤140737488355328∧RI aa az i0 aa[j].asks u1 L1 kE eH (n+1) L2 jP lZ iN (acc++[s]):=by
 obtain⟨a,o,p,z,A,y⟩:=RI.inside c i hr hn hc
 have q:a∈L2:=by
  by_cases hm:a∈L2
  ·
   exact hm
  have:=h.at_.2 (aD aa (a:Int)) (fun k hk e=>hm (by have:=dD c p (h.rd.ring k hk).1 e;rw [this];exact hk))
  grind
 have f:=h.at_.1 a q;rw [← o,u] at f;simp only [Option.some.injEq] at f;refine⟨_,f,?_,{h with hn:=hn,ev:=RI.L8 c i hr h.ev h.le hn o p y r q}⟩;have hle:=h.rd.le a
 have e:Lib.itoa (u1 a:Int)=Lib.decDigits (u1 a):=by unfold Lib.itoa;rw [if_neg (by omega)];rfl
 grind [itoa,Lib.decDigits,ByteArray.size]
end
end Go.Rc

namespace Go.Rc
open Go
/-! ### the order of keys -/
theorem wZ:∀a b:List UInt8,Lib.compareBytes b a = - Lib.compareBytes a b
 | [],[]=>rfl
 | [],_::_=>rfl
 | _::_,[]=>rfl
 | x::a,y::b=>by
  simp only [Lib.compareBytes]
  by_cases h1:x<y
  ·
   grind
  by_cases c:y<x
  ·
   grind
  rw [if_neg c,if_neg h1,if_neg h1,if_neg c,wZ a b]
theorem tw:∀a b c:List UInt8,Lib.compareBytes a b<0→Lib.compareBytes b c<0→Lib.compareBytes a c<0
 | _,[],[],_,h=>by simp [Lib.compareBytes] at h
 | [],[],_::_,h,_=>by simp [Lib.compareBytes] at h
 | _::_,[],_::_,h,_=>by simp [Lib.compareBytes] at h
 | _,_::_,[],_,h=>by simp [Lib.compareBytes] at h
 | [],_::_,_::_,_,_=>by simp [Lib.compareBytes]
 | x::a,y::b,z::c,h1,f=>by
  simp only [Lib.compareBytes] at h1 f ⊢
  by_cases e1:x<y
  ·
   grind
  rw [if_neg e1] at h1
  by_cases e3:y<x
  ·
   rw [if_pos e3] at h1;simp at h1
  rw [if_neg e3] at h1
  by_cases e2:y<z
  ·
   grind
  rw [if_neg e2] at f
  by_cases e4:z<y
  ·
   rw [if_pos e4] at f;simp at f
  rw [if_neg e4] at f;rw [if_neg (by grind),if_neg (by grind)];exact tw a b c h1 f
theorem jy(a b:Key):bp b a = - bp a b:=by
 unfold bp
 by_cases h1:a.kind<b.kind
 ·
  grind
 by_cases c:b.kind<a.kind
 ·
  grind
 rw [if_neg c,if_neg h1,if_neg h1,if_neg c,wZ]
theorem gH{a b c:Key}(h1:bp a b<0) (f:bp b c<0):bp a c<0:=by
 unfold bp at h1 f ⊢
 by_cases e1:a.kind<b.kind
 ·
  grind
 rw [if_neg e1] at h1
 by_cases e4:b.kind<a.kind
 ·
  rw [if_pos e4] at h1;simp at h1
 rw [if_neg e4] at h1
 by_cases e2:b.kind<c.kind
 ·
  rw [if_pos (by omega)];decide
 rw [if_neg e2] at f
 by_cases e3:c.kind<b.kind
 ·
  rw [if_pos e3] at f;simp at f
 rw [if_neg e3] at f;rw [if_neg (by omega),if_neg (by omega)];exact tw _ _ _ h1 f
def sA(l:List Rec):Prop:=l.Pairwise fun a b=>bp a.key b.key<0
theorem tx(r:Rec):∀l:List Rec,eL r l true=l.filter fun x=>!decide (bp x.key r.key=0)
 | []=>rfl
 | x::xs=>by
  simp only [eL,Bool.not_true,Bool.and_false,Bool.false_eq_true,if_false,Bool.true_or,List.nil_append,tx r xs,List.filter_cons]
  grind
theorem sA.put{r:Rec}:∀{l:List Rec},sA l→sA (fb l r)
 | [],_=>by simp [sA,fb,eL]
 | x::xs,h=>by
  obtain⟨h1,a⟩:=List.pairwise_cons.1 h;have f:sA (fb xs r):=sA.put a;have c:sA (xs.filter fun y=>!decide (bp y.key r.key=0)):=List.Pairwise.filter _ a
  show sA (eL r (x::xs) false)
  simp only [eL,Bool.not_false,Bool.and_true,Bool.false_or]
  by_cases c1:bp x.key r.key<0
  ·
   rw [decide_eq_false (show ¬0≤bp x.key r.key by omega),if_neg (show ¬bp x.key r.key=0 by omega)];simp only [Bool.false_eq_true,if_false,List.nil_append,List.singleton_append];refine List.pairwise_cons.2 ⟨fun y hy=>?_,f⟩
   grind [fD]
  rw [decide_eq_true (show 0≤bp x.key r.key by omega),tx];simp only [if_true]
  by_cases c2:bp x.key r.key=0
  ·
   rw [if_pos c2];simp only [List.append_nil,List.singleton_append];refine List.pairwise_cons.2 ⟨fun y hy=>?_,c⟩
   grind [lG]
  rw [if_neg c2];simp only [List.singleton_append,List.cons_append]
  have c3:bp r.key x.key<0:=by rw [jy x.key r.key];omega
  refine List.pairwise_cons.2 ⟨fun y hy=>?_,List.pairwise_cons.2 ⟨fun y hy=>h1 y (List.mem_filter.1 hy).1,c⟩⟩
  grind [gH]
theorem sA.kx{l:List Rec}(h:sA l) (hn:l.length≤4000) (c:∀r∈l,dc r=true):kx l:=by
 refine⟨hn,fun i x a=>⟨c x (List.mem_of_getElem? a),fun hi=>?_⟩⟩;obtain⟨hl,rfl⟩:=List.getElem?_eq_some_iff.1 a;rw [getElem!_pos l (i - 1) (by omega)];exact List.pairwise_iff_getElem.1 h (i - 1) i (by omega) hl (by omega)
/-! ### values are short -/
section
variable {aa:List aA}{az:List bU}
theorem k9{n:Nat}(h:n≤65535):(itoa (n:Int)).size≤6:=by
 have e:Lib.itoa (n:Int)=Lib.decDigits n:=by unfold Lib.itoa;rw [if_neg (by omega)];rfl
 grind [itoa,Lib.decDigits,ByteArray.size]
theorem CK(a:aq aa) {i:Nat}(hi:i<aa.length):∃n:Nat,n≤65535∧valOf aa az (aD aa (i:Int))=itoa (n:Int):=by
 have h1:=fP (az:=az) a hi;rw [fx a hi (eV _ _ _).2] at h1;have hc:=aq.hb a _ (List.getElem_mem hi);refine⟨_,nt (kind:=aa[i].final) (c:=aa[i].c.toNat) (l:=(dR (bQ aa (aD aa (i:Int))) (valOf aa az) (bZ aa i)).2.map cy) (by omega) (fun x f=>?_),?_⟩
 ·
  grind [ke]
 grind
theorem HH(a:aq aa) {i:Nat}(hi:aa.length≤i):r4 aa az i=⟨#[]⟩:=by
 have hk:aD aa (i:Int)=eS:=by unfold aD;rw [if_pos (by omega)]
 unfold r4 o8
 rw [if_neg (by rw [lA hi];simp),hk]
 unfold bQ
 rw [if_pos (.inl (by unfold number eS;simp))]
theorem tz(a:aq aa) (hi:∀x∈az,x.value.size≤140737488355328) (k:Key):(valOf aa az k).size≤140737488355328:=by
 by_cases hk:aB k=true
 ·
  unfold valOf cellOf
  rw [if_pos hk]
  unfold bE
  cases c:az.find? fun x=>x.key == k with
  | none=>simp [ByteArray.size]
  | some x=>grind
 have e:valOf aa az k=r4 aa az (number k).toNat:=by unfold valOf;rw [if_neg hk]
 rw [e]
 rcases Nat.lt_or_ge (number k).toNat aa.length with h | h
 ·
  rw [← fB a h];obtain⟨n,hn,f⟩:=CK (az:=az) a h
  grind [k9]
 grind [HH,ByteArray.size]
theorem oz(aa:List aA) (az:List bU) (i:Nat):(cm aa az i).length=bZ aa i:=(eV _ _ _).1
theorem lH(f:aq aa) {i:Nat}(hi:i<aa.length):∀a∈cm aa az i,ez aa i a:=by
 have key:∀n,n≤bZ aa i→∀a∈(dR (bQ aa (aD aa (i:Int))) (valOf aa az) n).1,ez aa i a:=by
  intro n
  induction n with
  | zero=>intro _ a c;simp [dR] at c
  | succ n h=>grind [dR,dd,eV]
 exact key _ (Nat.le_refl _)
theorem eu.valid{k:Key}(h:eu aa k):cH k=true:=by
 cases h with
 | cell h=>
  rename_i n
  have hc:bH (n:Int)=⟨30,itoa (n:Int)⟩:=by unfold bH;rw [if_neg (by omega)]
  rw [hc]
  unfold cH number
  simp only [];rw [if_pos (by omega)]
  grind [gX]
 | dp h gD=>
  rename_i i
  have h1:=cv h gD;have a:=dP h gD
  unfold cH
  grind
end
section
variable {aa:List aA}{az:List bU}{s t:ES}{k:Key}
theorem aW{l:List Rec}{r:Rec}(h:aH l k=some r):r∈l∧r.key=k:=by grind [aH]
def mF(aa:List aA) (j:Nat):Nat:=if ay aa j then bg aa j else j
def Lw(aa:List aA) (i b:Nat):Prop:=if ay aa i then bg aa i≤b else i<b
def Yd(aa:List aA) (s:ES) (i:Nat):Prop:=∀j:Nat,j<aa.length→s.on (aD aa (j:Int))=true→Lw aa i (mF aa j)
def Rf(aa:List aA) (s:ES) (i:Nat):Prop:=∀j:Nat,j<aa.length→s.on (aD aa (j:Int))=true→j=i∨Lw aa i (mF aa j)
theorem Ek(c:aq aa) {i:Nat}(hi:i<aa.length) {ae:List ByteArray}(hn:ae.length<bZ aa i) :
  ∃a,bQ aa (aD aa (i:Int)) ae=⟨false,⟨#[]⟩,a⟩∧ez aa i a∧∀m:Nat,m<aa.length→a=aD aa (m:Int)→Lw aa m (mF aa i)∧∀b,Lw aa i b→Lw aa m b:=by
 have D:=c.len;obtain⟨a,h1,f,o⟩:=dd c hi hn;refine⟨a,h1,f,fun m hm p=>?_⟩;have hb:=fo aa m
 cases hr:ay aa i with
 | false=>
  have E:m<i:=by
   rcases f with⟨n,h,rfl⟩ | ⟨q,h,rfl,_,r,_⟩
   ·
    grind [bf,cM]
   grind [dD]
  unfold Lw mF
  grind
 | true=>
  unfold Lw mF
  rw [hr];simp only [if_true]
  cases F:ay aa m with
  | false=>
   have G:m<bg aa i:=by
    rcases f with⟨n,h,rfl⟩ | ⟨q,h,rfl,_,_,_,r⟩
    ·
     grind [bf,cM]
    grind [dD]
   grind
  | true=>
   obtain⟨x,u,v⟩:=o hr;have y:=List.mem_of_getElem? u
   have z:outside aa x=false:=by grind [iq,bj]
   obtain⟨H,A,B,C⟩:=gF c hi hr y z
   have:=dD c C hm (B.symm.trans (v.symm.trans p))
   subst this;have I:=jM c (cB.step cB.refl A)
   grind
end
end Go.Rc

namespace Go.Rc
open Go
theorem ee(x:Rec):dc x=true↔(∀a∈x.reads,cH a=true)∧cH x.key=true∧aB x.key=false∧(x.value.size:Int)≤1073741824∧(x.reads.length:Int)≤4000∧0≤x.changed∧x.changed≤x.av∧x.av≤1073741824∧1≤x.cost∧x.cost≤1073741824∧(x.bJ=false∨ax x.key=true):=by
 unfold dc fm
 grind
structure xa (s:ES):Prop where
 st:sA s.b.ah
 v:∀r∈s.b.ah,dc r=true∧r.av≤s.b.ab
 r0:0≤s.b.ab
 r1:s.b.ab≤1073741824
section
variable {aa:List aA}{az:List bU}{val:Key→ByteArray}{s t:ES}{k:Key}
theorem sA.map{l:List Rec}(h:sA l) {f:Rec→Rec}(a:∀r,(f r).key=r.key):sA (l.map f):=by grind [sA]
theorem xa.El(h:xa s) (g:List Key):xa {s with b:=cE s.b g false}:=by
 refine⟨h.st.map fun r=>(cz _ _ _ r).1,fun r hr=>?_,h.r0,h.r1⟩;obtain⟨q,o,rfl⟩:=List.mem_map.1 hr;obtain⟨h1,p⟩:=h.v q o;have h0:=h.r0;have u:=h.r1
 unfold bC
 by_cases hk:q.key∈g
 ·
  rw [if_pos hk];simp only [Bool.false_eq_true,if_false];rw [ee] at h1 ⊢;obtain⟨a,b,c,d,e,f,g,i,j,k,l⟩:=h1;exact⟨⟨a,b,c,d,e,f,by grind,u,j,k,l⟩,Int.le_refl _⟩
 rw [if_neg hk];exact⟨h1,p⟩
theorem xa.Em(h:xa s) {g:List Key}(hc:∀x∈g,ax x=true):xa {s with b:=cE s.b g true}:=by
 refine⟨h.st.map fun r=>(cz _ _ _ r).1,fun r hr=>?_,h.r0,h.r1⟩;obtain⟨q,p,rfl⟩:=List.mem_map.1 hr;obtain⟨h1,o⟩:=h.v q p
 unfold bC
 by_cases hk:q.key∈g
 ·
  rw [if_pos hk];simp only [if_true];rw [ee] at h1 ⊢;obtain⟨a,b,c,d,e,f,g,i,j,k,l⟩:=h1;exact⟨⟨a,b,c,d,e,f,g,i,j,k,.inr (hc _ hk)⟩,o⟩
 rw [if_neg hk];exact⟨h1,o⟩
theorem tA{l:List Rec}{rev:Int}(hk:ax k=true):∀x∈aC l rev k,ax x=true:=fun x a=>by
 unfold aC at a
 split at a
 ·
  rw [nB,List.mem_cons] at a
  rcases a with rfl | a
  ·
   exact hk
  obtain⟨r,hr,rfl⟩:=List.mem_map.1 a
  have:=(List.mem_filter.1 hr).2
  unfold Aa at this
  simp only [Bool.and_eq_true] at this;have c:=(jO.1 this.2.1).fK
  unfold cW at c
  grind
 grind
theorem xa.put(h:xa s) {r:Rec}{bM:List Key}(c:dc r=true) (hr:r.av≤s.b.ab):xa {s with b:={s.b with ah:=fb s.b.ah r},bM:=bM}:=
 ⟨h.st.put,fun q a=>by rcases fD _ _ _ _ a with rfl | a;exact⟨c,hr⟩;exact h.v q a,h.r0,h.r1⟩
theorem FC(a:aq aa) {ae:List ByteArray}(h:gj aa k ae.length) (c:(aL aa k ae).done=true):(aL aa k ae).value.size≤6:=by
 obtain⟨i,hi,rfl,hn⟩:=h;have f:=a.len;rw [eB hi (by omega)] at c ⊢
 rcases Nat.lt_or_ge ae.length (bZ aa i) with o | p
 ·
  grind [dd]
 rw [fx a hi (by omega)];have hc:=aq.hb a _ (List.getElem_mem hi);exact k9 (nt (by omega) fun x q=>by grind [ke])
theorem tB(f:aq aa) (h:xa s) {ae:List ByteArray}{reads:List Key}(i:gj aa k ae.length) (u:(aL aa k ae).done=true) (hl:reads.length=ae.length) (hr:∀a∈reads,eu aa a) :
  dc (cP s.b k (aL aa k ae).value reads)=true:=by
 have A:=i.le f;have B:=FC f i u;have h0:=h.r0;have h1:=h.r1;rw [ee]
 unfold cP
 have y:∀c:Int,(c=if (aH s.b.ah k).isSome && decide ((aF s.b.ah k).value=(aL aa k ae).value) then (aF s.b.ah k).changed else s.b.ab)→0≤c∧c≤s.b.ab:=fun c hc=>by
  split at hc
  ·
   rename_i o
   simp only [Bool.and_eq_true] at o;obtain⟨r,z⟩:=Option.isSome_iff_exists.1 o.1;have hm:=(aW z).1;obtain⟨p,q⟩:=h.v r hm
   grind [ee,aF]
  omega
 obtain⟨p,q⟩:=y _ rfl;exact⟨fun a hm=>(hr a hm).valid,(i.tm f).valid,(i.not f).2,by grind,by grind,p,q,h1,by grind,by grind,.inl rfl⟩
def UpO(aa:List aA) (val:Key→ByteArray) (az:List bU) (f:Nat):Prop:=∀s k s',kB aa val f s k=some s'→Good aa az s→xa s→eu aa k→xa s'
def ChO(aa:List aA) (val:Key→ByteArray) (az:List bU) (f:Nat):Prop:=∀s k n s' b,cw aa val f s k n=some (s',b)→Good aa az s→xa s→xa s'
def RuO(aa:List aA) (val:Key→ByteArray) (az:List bU) (f:Nat):Prop:=∀s k reads ae s',fQ aa val f s k reads ae=some s'→Good aa az s→xa s→gj aa k ae.length→reads.length=ae.length→(∀a∈reads,eu aa a)→xa s'
theorem FD(z:aq aa):∀f,UpO aa val az f∧ChO aa val az f∧RuO aa val az f:=by
 intro f
 induction f with
 | zero=>exact⟨fun s k s' h=>by simp [kB] at h,fun s k n s' b h=>by simp [cw] at h,fun s k r a s' h=>by simp [fQ] at h⟩
 | succ f F=>
  obtain⟨D,A,B⟩:=F;have gd:=bS (val:=val) (az:=az) z f;refine⟨?_,?_,?_⟩
  ·
   intro s k s' h o i hk
   unfold kB at h
   split at h
   ·
    cases h;exact i
   rename_i he
   split at h
   ·
    cases h;exact i
   split at h
   ·
    split at h <;> cases h
    ·
     exact i
    exact⟨i.st,i.v,i.r0,i.r1⟩
   obtain⟨p,E,h⟩:=Option.bind_eq_some_iff.1 h;obtain⟨t,ht,h⟩:=Option.bind_eq_some_iff.1 h
   cases h
   have h1:=A _ _ _ p.1 p.2 (by rw [E]) (o.on k) ⟨i.st,i.v,i.r0,i.r1⟩;have u:=(gd.2.1 _ _ _ p.1 p.2 (by rw [E]) (o.on k)).1
   have y:xa t:=by
    split at ht
    ·
     exact B _ _ _ _ _ ht u h1 (hk.gy (by simp at he;exact he.2)) rfl (fun a q=>by cases q)
    cases ht;exact h1
   exact⟨y.st,y.v,y.r0,y.r1⟩
  ·
   intro s k n s' b h o i
   unfold cw at h
   split at h
   ·
    cases h;exact i
   split at h
   ·
    cases h;exact i
   split at h
   ·
    cases h;exact i
   split at h
   ·
    cases h;exact i.El _
   rename_i c hc
   split at h
   ·
    obtain⟨t,ht,h⟩:=Option.bind_eq_some_iff.1 h;have h1:=D _ _ _ ht o i (fy o hc);exact A _ _ _ _ _ h (gd.1 _ _ _ ht o (fy o hc)).1 h1
   split at h
   ·
    split at h
    ·
     rename_i G
     cases h
     exact i.Em (tA G)
    cases h;exact i
   exact A _ _ _ _ _ h o i
  intro s k reads ae s' h o i q hl hr
  unfold fQ at h
  split at h
  ·
   cases h;exact i
  split at h
  ·
   rename_i C
   split at h
   ·
    cases h;exact⟨i.st,i.v,i.r0,i.r1⟩
   cases h
   exact i.put (tB z i q C hl hr) (Int.le_refl _)
  rename_i C
  obtain⟨t,ht,h⟩:=Option.bind_eq_some_iff.1 h;have hn:=q.next z (by simpa using C);have h1:=D _ _ _ ht o i hn.2;have u:=(gd.1 _ _ _ ht o hn.2).1
  split at h
  ·
   exact B _ _ _ _ _ h u h1 (by simpa using hn.1) (by simp [hl]) (fun a q=>by grind)
  exact B _ _ _ _ _ h u h1 q hl hr
theorem Ag(a:aq aa) {f:Nat}:∀{l:List Key}{s s':ES},dC aa val f s l=some s'→Good aa az s→xa s→(∀k∈l,eu aa k)→xa s'
 | [],s,s',h,_,c,_=>by grind [dC]
 | k::r,s,s',h,i,c,hk=>by
  simp only [dC] at h;obtain⟨t,h1,o⟩:=Option.bind_eq_some_iff.1 h
  exact Ag a o ((bS (val:=val) a f).1 _ _ _ h1 i (hk k (by simp))).1 ((FD a f).1 _ _ _ h1 i c (hk k (by simp))) fun k p=>hk k (by simp [p])
end
end Go.Rc

namespace Go.Rc
open Go
theorem CL{α:Type}{R:α→α→Prop}(ht:∀a b c,R a b→R b c→R a c) {l:List α}(h:∀(i:Nat) (hi:i+1<l.length),R (l[i]'(by omega)) l[i+1]):l.Pairwise R:=by
 refine List.pairwise_iff_getElem.2 fun i j hi f o=>?_;obtain⟨d,rfl⟩:∃d,j=i+1+d:=⟨j - (i+1),by omega⟩
 induction d with
 | zero=>exact h i f
 | succ d p=>grind
def r5(l:List bU):Prop:=l.Pairwise fun a b=>bp a.key b.key<0
def J6(rev:Int) (x:bU):Prop:=cH x.key=true∧aB x.key=true∧(x.value.size:Int)≤1073741824∧0≤x.changed∧x.changed≤rev
theorem CN{rev:Int}{l:List bU}:pX rev l↔r5 l∧∀x∈l,J6 rev x:=by
 constructor
 ·
  intro h
  have h1:∀(i:Nat) (hi:i<l.length),J6 rev l[i]∧(0<i→bp (l[i - 1]!).key l[i].key<0):=fun i hi=>by
   have o:=h i _ (ai hi)
   unfold fi at o
   simp only [getElem!_pos l i hi,Bool.or_eq_false_iff,Bool.not_eq_false',Bool.and_eq_false_iff,decide_eq_false_iff_not] at o;obtain⟨a,b,c,d,e,f⟩:=o;exact⟨⟨a,b,by omega,by omega,by omega⟩,fun h0=>by rcases c with c | c <;> omega⟩
  refine⟨CL (R:=fun a b:bU=>bp a.key b.key<0) (fun a b c h k=>gH h k) fun i hi=>?_,fun x p=>?_⟩
  ·
   grind
  grind [List.mem_iff_getElem]
 rintro⟨h1,o⟩ i y hy;obtain⟨hi,rfl⟩:=List.getElem?_eq_some_iff.1 hy;obtain⟨a,b,c,d,e⟩:=o _ (List.getElem_mem hi)
 unfold fi
 simp only [getElem!_pos l i hi,Bool.or_eq_false_iff,Bool.not_eq_false',Bool.and_eq_false_iff,decide_eq_false_iff_not];refine⟨a,b,?_,by omega,by omega,by omega⟩
 by_cases h0:0<i
 ·
  right
  rw [getElem!_pos l (i - 1) (by omega)]
  have:=List.pairwise_iff_getElem.1 h1 (i - 1) i (by omega) hi (by omega)
  omega
 left
 omega
def fk(n:bU):List bU→Bool→List bU
 | [],put=>if put then [] else [n]
 | x::xs,put=>(if decide (0≤bp x.key n.key) && !put then [n] else [])++(if bp x.key n.key=0 then [] else [x])++fk n xs (put || decide (0≤bp x.key n.key))
theorem tC(n:bU):∀(l:List bU) (b:Bool) (x:bU),x∈fk n l b→x=n∨x∈l:=by
 intro l
 induction l with
 | nil=>grind [fk]
 | cons y a c=>grind [fk]
theorem qa(n:bU):∀l:List bU,fk n l true=l.filter fun x=>!decide (bp x.key n.key=0)
 | []=>rfl
 | x::xs=>by
  simp only [fk,Bool.not_true,Bool.and_false,Bool.false_eq_true,if_false,Bool.true_or,List.nil_append,qa n xs,List.filter_cons]
  grind
theorem mG(n:bU):∀(l:List bU) (b:Bool),(fk n l b).length≤l.length+1
 | [],b=>by cases b <;> simp [fk]
 | x::xs,b=>by
  by_cases h:(decide (0≤bp x.key n.key) && !b)=true
  ·
   have hb:(b || decide (0≤bp x.key n.key))=true:=by simp at h;simp [h.1]
   simp only [fk,List.length_append,List.length_cons];rw [if_pos h,hb,qa]
   grind
  have a:=mG n xs (b || decide (0≤bp x.key n.key));simp only [fk,List.length_append,List.length_cons]
  grind
theorem r5.put{n:bU}:∀{l:List bU},r5 l→r5 (fk n l false)
 | [],_=>by simp [r5,fk]
 | x::xs,h=>by
  obtain⟨h1,a⟩:=List.pairwise_cons.1 h;have f:r5 (fk n xs false):=r5.put a;have c:r5 (xs.filter fun y=>!decide (bp y.key n.key=0)):=List.Pairwise.filter _ a
  show r5 (fk n (x::xs) false)
  simp only [fk,Bool.not_false,Bool.and_true,Bool.false_or]
  by_cases c1:bp x.key n.key<0
  ·
   rw [decide_eq_false (show ¬0≤bp x.key n.key by omega),if_neg (show ¬bp x.key n.key=0 by omega)];simp only [Bool.false_eq_true,if_false,List.nil_append,List.singleton_append];refine List.pairwise_cons.2 ⟨fun y hy=>?_,f⟩
   grind [tC]
  rw [decide_eq_true (show 0≤bp x.key n.key by omega),qa];simp only [if_true]
  by_cases c2:bp x.key n.key=0
  ·
   rw [if_pos c2];simp only [List.append_nil,List.singleton_append];refine List.pairwise_cons.2 ⟨fun y hy=>?_,c⟩
   grind [lG]
  rw [if_neg c2];simp only [List.singleton_append,List.cons_append]
  have c3:bp n.key x.key<0:=by rw [jy x.key n.key];omega
  refine List.pairwise_cons.2 ⟨fun y hy=>?_,List.pairwise_cons.2 ⟨fun y hy=>h1 y (List.mem_filter.1 hy).1,c⟩⟩
  grind [gH]
end Go.Rc

namespace Go.Rc
open Go
def vF(a b:Int):Int:=if a<b then -1 else if b<a then 1 else 0
def NX(l:List Int):Int:=(l.find? fun x=>decide (x≠0)).getD 0
theorem NY{l:List Int}{i:Nat}(hi:i<l.length) (a:∀j x,j<i→l[j]?=some x→x=0) (h:l[i]≠0):NX l=l[i]:=by grind [NX,kf]
theorem J7{l:List Int}(h:∀x∈l,x=0):NX l=0:=by grind [NX,List.find?_eq_none]
theorem J8{a b:Key}:NX [vF a.kind b.kind,Lib.compareBytes a.text.data.toList b.text.data.toList]=bp a b:=by
 unfold NX vF bp
 grind
theorem Ah{α:Type}{R:α→List Value→Prop}{x y:α}{r s:List Value}(h1:R x r) (a:R y s):∀(i:Nat) (z:α) (t:List Value),[x,y][i]?=some z→[r,s][i]?=some t→R z t:=fun i z t c ht=>by grind
theorem eu.shape{aa:List aA}{k:Key}(h:eu aa k):∃i:Nat,i≤99∧k.text=itoa i∧(30≤k.kind∧k.kind≤32):=by
 cases h with
 | cell h=>rename_i n;exact⟨n,h,by unfold bH;rw [if_neg (by omega)],by unfold bH;rw [if_neg (by omega)];simp⟩
 | dp h gD=>rename_i i;exact⟨i,gD,by unfold aD;rw [if_neg (by omega)],by grind [dP]⟩
theorem eu.cZ{aa:List aA}{k:Key}(h:eu aa k):cZ k:=by
 obtain⟨_,_,_,h1⟩:=h.shape;exact .inr (by omega)
theorem pc{aa:List aA}{k:Key}(h:eu aa k) (hc:ax k=true):k.kind=32:=by
 cases h with
 | cell h=>grind [jK]
 | dp h gD=>grind [bj,dP]
theorem Ad.any{α:Type}{l:List α}{p:α→Bool}{j:Int}(h:Ad l p j):decide (0≤j)=l.any p:=by
 rcases h with⟨i,x,h1,a,_,rfl⟩ | ⟨h1,rfl⟩
 ·
  grind
 grind
def HI(aa:List aA) (x:Rec):Prop:=eu aa x.key∧aB x.key=false∧(∀a∈x.reads,eu aa a)∧dc x=true
def tD(aa:List aA) (x:cA):Prop:=0≤x.ab∧x.ab≤1073741824∧(r5 x.ad∧∀y∈x.ad,J6 x.ab y)∧(∀y∈x.ad,∃i:Nat,i≤99∧y.key=⟨30,itoa i⟩)∧x.ad.length≤64∧(∀r∈x.ah,HI aa r)∧sA x.ah∧x.ah.length≤4000∧∀r∈x.ah,r.av≤x.ab
end Go.Rc

namespace Go.Rc
open Go
section
variable {l l':List aA}
def bP(l l':List aA):Prop:=l.map (·.ring)=l'.map (·.ring)
theorem bP.len(h:bP l l'):l.length=l'.length:=by simpa using congrArg List.length h
theorem bP.rg(h:bP l l') (i:Nat):ay l i=ay l' i:=by
 have a:=congrArg (fun x=>x[i]?) h
 grind [ay]
theorem bP.lo(h:bP l l'):∀k,bg l k=bg l' k
 | 0=>rfl
 | k+1=>by unfold bg;rw [h.rg k,h.lo k]
theorem l3:∀{l l':List aA},bP l l'→(l.takeWhile (·.ring)).length=(l'.takeWhile (·.ring)).length
 | [],[],_=>rfl
 | [],_::_,h=>by simp [bP] at h
 | _::_,[],h=>by simp [bP] at h
 | x::r,y::s,h=>by
  simp only [bP,List.map_cons,List.cons.injEq] at h;have a:=l3 (l:=r) (l':=s) h.2
  grind [List.takeWhile_cons]
theorem bP.hi(h:bP l l') (m:Nat):dB l m=dB l' m:=by grind [dB,l3,bP,List.map_drop]
theorem bP.block(h:bP l l') (n:Int):block l n=block l' n:=by
 unfold Go.Rc.block
 rw [h.len,h.rg,h.lo,h.hi]
theorem bP.may(h:bP l l') (i:Nat) (c:Bool) (n:Int):fw l i c n=fw l' i c n:=by grind [fw,e8,rg,block]
theorem bP.ask(h:bP l l') (i:Nat) (g:Bool) (k:Nat) (x:Ask):ek l i g k x=ek l' i g k x:=by
 unfold ek
 rw [h.may,h.may]
theorem bP.dp(h:bP l l') (i:Nat) (r:aA):jI l i r↔jI l' i r:=by
 unfold jI
 simp only [h.ask]
theorem bP.set{i:Nat}(hi:i<l.length) {r:aA}(hr:r.ring=ay l i):bP (l.set i r) l:=by
 unfold bP
 rw [List.map_set,hr,bD hi];refine List.ext_getElem? fun j=>?_
 grind
def kF(l:List aA) (i:Nat):Prop:=l.length≤8∧∀(j:Nat) (r:aA),l[j]?=some r→j<i→jI l j r
theorem kF.start(h:l.length≤8):kF l 0:=⟨h,fun _ _ _ h=>by omega⟩
theorem kF.set{i:Nat}(h:kF l i) (hi:i<l.length) {r:aA}(hr:r.ring=ay l i) (f:jI l i r):kF (l.set i r) (i+1):=by
 have c:=bP.set hi hr;refine⟨by rw [List.length_set];exact h.1,fun j x a o=>?_⟩;rw [c.dp];rw [List.getElem?_set] at a
 split at a
 ·
  grind
 exact h.2 j x a (by omega)
theorem kF.ok(h:kF l l.length):aq l:=⟨by have:=h.1;omega,fun i r hr=>h.2 i r hr (List.getElem?_eq_some_iff.1 hr).1⟩
theorem NZ{i k:Nat}{g:Bool}{x:Ask}{most:Int}(hm:most=if x.cell then 4 else e8 l i) (h0:0≤x.n) (h1:x.n<most) (a:x.pick=true→g=false∧k≠0∧0≤x.Cj∧x.Cj<most) (he:x.pick=false→x.Cj=0):ek l i g k x=true:=by grind [fw,ek]
end
end Go.Rc

namespace Go.Rc
open Go
def As.gk(E d:Nat):As where
 fp x:=x=d
 ok Z w:=Co Z w E d
 lt h x hx:=by subst hx;exact h.lt
 mono hZ h:=by
  obtain⟨l,a,n,c,t,h1,h2,h3⟩:=h;exact⟨l,a,n,c,t,h1,SR.mono h2 (fun b hb _=>hZ b hb) (fun _ _ h=>h),h3⟩
 st hs hc h:=by
  obtain⟨l,a,n,c,t,h1,h2,h3⟩:=h;exact⟨l,a,n,c,t,(As.blk d E _).st (Z:=fun _=>False) hs (fun x hx=>hc x (hx.imp id False.elim)) h1,SR.st hs (fun x hx=>hc x (.inr hx)) (fun _ _ h=>h) h2,h3⟩
theorem As.gd{E d:Nat}{Z:Nat→Prop}{w:World}(h:(As.gk E d).ok Z w):Co Z w E d:=h
def RR.bT:RR Change:=RR.flat Change.cells
def begun(g:Bool):aA:=⟨g,[],0,0⟩
theorem Ow.flat{α:Type}{f:α→List Value}{b T k n:Nat}{Z:Nat→Prop}{w:World}{xs:List α}{l:List Value}(h:cC w b T l) (hl:l=(xs.map f).flatten) (hk:∀x∈xs,(f x).length=k) (h1:∀u∈l,u.oneCell'=true) (hn:n=xs.length) (hm:xs.length≤140737488355328) :
  Ow (RR.flat f) T k Z w (some ⟨b,0,none⟩) n n xs:=by
 subst hn hl
 have hlen:∀(a:List α),(∀x∈a,(f x).length=k)→(a.map f).flatten.length=a.length*k:=by
  intro a
  induction a with
  | nil=>simp
  | cons y a o=>grind
 refine⟨rfl,xs.map f,by simp,by simpa using hk,by simpa using OL.blk (k:=k) h (Nat.zero_le _) (m:=xs.length) (hlen xs hk) h1 hm,fun i x r c hr=>?_⟩;rw [List.getElem?_map,c] at hr
 simp at hr
 exact hr.symm
def As.Ye{ι:Type}(b T:Nat) (F:ι→List Value):As where
 fp x:=x=b
 ok _ w:=∃i,cC w b T (F i)
 lt h x hx:=by obtain⟨i,h⟩:=h;subst hx;exact h.lt
 mono _ h:=h
 st hs hc h:=by obtain⟨i,h⟩:=h;exact⟨i,(As.blk b T _).st (Z:=fun _=>False) hs (fun x hx=>hc x (hx.imp id False.elim)) h⟩
theorem Ow.ring{E n c i b:Nat}{Z:Nat→Prop}{w:World}{a:Option Addr}{l:List aA}(h:Ow RR.dp E 4 Z w a n c l) (o:a=some ⟨b,0,none⟩) (hle:l.length≤140737488355328) (hi:i<l.length):w.rangeAt b (0+i*4) [.bool l[i].ring]:=by
 obtain⟨b',r,h1,_,p,q⟩:=Ow.at h hle (ai hi);rw [o] at h1;simp only [Option.some.injEq,Addr.mk.injEq,and_true] at h1;subst h1;obtain⟨u,y,z,rfl,_⟩:=p;intro j v f
 cases j with
 | zero=>exact q 0 v f
 | succ j=>simp at f
theorem xZ(l:List aA) (m:Nat) (hm:m≤l.length):dB l m≤l.length:=by grind [dB,List.takeWhile_sublist]
theorem vG{l:List aA}{i:Nat}(hi:i<l.length):0≤e8 l i∧e8 l i≤l.length:=by
 have h1:=xZ l (i+1) (by omega)
 have hb:block l (i:Int)=if ay l i then ((bg l i:Int),(dB l (i+1):Int)) else ((i:Int),(i:Int)+1):=by
  unfold block;grind
 grind [e8]
theorem FE{l:List aA}{i:Nat}{g:Bool}{xs:List Ask}{x:Ask}(h:∀(k:Nat) y,xs[k]?=some y→ek l i g k y=true) (a:ek l i g xs.length x=true):∀(k:Nat) y,(xs++[x])[k]?=some y→ek l i g k y=true:=fun k y hy=>by grind
end Go.Rc

namespace Go.Rc
open Go
end Go.Rc

namespace Go.Rc
open Go
section
variable {κ:Type}{enc:κ→Value}
def Jm(enc:κ→Value) (w:World) (b m:Nat) (l left:List (κ × Value)) (cur:Option (κ × Value)):Prop:=
 ∃es clock since seen,w.heap[m]?=some (.map es clock)∧(es.toList.map (fun e=>(e.key,e.val))=l.map (fun p=>(enc p.1,p.2))∧(l.map (·.1)).Nodup∧(∀e∈es.toList,e.born<clock)∧(es.toList.map (·.born)).Nodup)∧
  w.heap[b]?=some (.mapIter (some m) since seen clock)∧b≠m∧since≤clock∧(∀e∈es.toList,e.born<since)∧
  (leftOf es seen).toList.map (fun e=>(e.key,e.val))=left.map (fun p=>(enc p.1,p.2))∧
  ∀p,cur=some p→∃e∈es.toList,seen.back?=some e.born∧e.key=enc p.1∧e.val=p.2
variable {w w':World}{b m:Nat}{l left:List (κ × Value)}{cur:Option (κ × Value)}
theorem Jm.lt(h:Jm enc w b m l left cur):b<w.heap.size∧m<w.heap.size:=by
 obtain⟨es,clock,since,seen,h1,_,a,_⟩:=h;exact⟨(Array.getElem?_eq_some_iff.1 a).1,(Array.getElem?_eq_some_iff.1 h1).1⟩
def As.WQ(enc:κ→Value) (b m:Nat) (l left:List (κ × Value)) (cur:Option (κ × Value)):As where
 fp x:=x=b∨x=m
 ok _ w:=Jm enc w b m l left cur
 lt h x hx:=by rcases hx with rfl | rfl;exact h.lt.1;exact h.lt.2
 mono _ h:=h
 st hs hc h:=by
  have hl:=h.lt;obtain⟨es,clock,since,seen,h1,h2,h3,h4⟩:=h;exact⟨es,clock,since,seen,by rw [hc m (.inl (.inr rfl)) hl.2];exact h1,h2,by rw [hc b (.inl (.inl rfl)) hl.1];exact h3,h4⟩
theorem As.Sn{Z:Nat→Prop}(h:(As.WQ enc b m l left cur).ok Z w):Jm enc w b m l left cur:=h
def xc(enc:κ→Value):Option (κ × Value)→Array Value
 | none=>#[.bool false]
 | some p=>#[.bool true,enc p.1,p.2]
theorem J9(r:Option (κ × Value)):(xc enc r)[0]?=some (.bool r.isSome):=by cases r <;> rfl
theorem l4:∀(L:List MapEntry) (j:Nat) (e:MapEntry),(L.map (·.born)).Nodup→L[j]?=some e→L.filter (fun x=>!(x.born == e.born))=L.eraseIdx j
 | [],_,_,_,h=>by simp at h
 | x::r,0,e,hn,h=>by
  simp at h
  subst h;simp only [List.map_cons,List.nodup_cons] at hn;rw [List.filter_cons];simp only [beq_self_eq_true,Bool.not_true,Bool.false_eq_true,if_false,List.eraseIdx_zero,List.tail_cons];refine List.filter_eq_self.2 fun y hy=>?_
  have:y.born≠x.born:=fun e=>hn.1 (e ▸ List.mem_map.2 ⟨y,hy,rfl⟩)
  simpa using this
 | x::r,j+1,e,hn,h=>by
  simp only [List.map_cons,List.nodup_cons] at hn;simp only [List.getElem?_cons_succ] at h;have a:x.born≠e.born:=fun c=>hn.1 (c ▸ List.mem_map.2 ⟨e,List.mem_of_getElem? h,rfl⟩);rw [List.filter_cons,if_pos (by simpa using a),l4 r j e hn.2 h,List.eraseIdx_cons_succ]
theorem Ai(es:Array MapEntry) (seen:Array Nat) (b:Nat):(leftOf es (seen.push b)).toList=(leftOf es seen).toList.filter fun x=>!(x.born == b):=by
 unfold leftOf
 rw [Array.toList_filter,Array.toList_filter,List.filter_filter]
 congr 1
 funext x
 rw [Array.contains_push,Bool.not_or,Bool.and_comm]
theorem map_eraseIdx{α β:Type}(f:α→β):∀(l:List α) (j:Nat),(l.eraseIdx j).map f=(l.map f).eraseIdx j
 | [],_=>by simp
 | _::_,0=>by simp
 | x::r,j+1=>by simp [map_eraseIdx f r j]
variable {P:Program}{kv:KV}{n:Nat}{K:KV→World→Prop}{d:Tmp}{ty:TypeId}{pos:String}{af:Array Edge}{g:Option (Nat × Bool)}{T kt e:TypeId}{x:Operand}
theorem OX.range(hT:P.underlying T=some (.map kt e)) (hm:KM enc w m l) (c:ev kv x=some (.map (some m))) (f:Nat.blt d n=true)
  (h:∀b w',aQ [] w w'→w.heap.size≤b→Jm enc w' b m l l none→K ((d,.pointer (some ⟨b,0,none⟩))::kv) w'):OX P ⟨some d,.range T x,ty,pos,af,g⟩ n kv w K:=by
 obtain⟨es,clock,h1,a⟩:=hm;have i:m<w.heap.size:=(Array.getElem?_eq_some_iff.1 h1).1;refine⟨rfl,f,by simp [known,opers,c],?_⟩
 have hr:(execOp (jk kv) ⟨some d,.range T x,ty,pos,af,g⟩).run P w=.ok (.value (.pointer (some ⟨w.heap.size,0,none⟩))) (w.alloc (.mapIter (some m) clock #[] clock)):=by
  simp only [execOp,aI c,Sem.run_bind,run_range_map w T kt e m es clock hT h1,Result.andThen_ok];rfl
 rw [hr];refine h _ _ (jv _ _) (Nat.le_refl _) ⟨es,clock,clock,#[],by rw [heap_alloc_old w _ (h:=i)];exact h1,a,heap_alloc_new _ _,by omega,Nat.le_refl _,a.2.2.1,?_,fun p o=>by cases o⟩
 have:leftOf es #[]=es:=by unfold leftOf;simp
 rw [this];exact a.1
theorem FH(hm:Jm enc w b m l left cur):∃(r:Option (κ × Value)) (u:List (κ × Value)) (w':World),(Instr.next (.pointer (some ⟨b,0,none⟩)) false ty).run P w=.ok (.tuple (xc enc r)) w'∧aQ [b] w w'∧
  (match r with | none=>left=[]∧u=[] | some p=>∃j,left[j]?=some p∧u=left.eraseIdx j)∧Jm enc w' b m l u r:=by
 obtain⟨es,clock,since,seen,h1,v,c,z,A,f,i,V⟩:=hm;have H:b<w.heap.size:=(Array.getElem?_eq_some_iff.1 c).1
 have B:∀y∈(leftOf es seen).toList,y∈es.toList:=fun y hy=>by
  unfold leftOf at hy
  rw [Array.toList_filter] at hy;exact(List.mem_filter.1 hy).1
 have E:=next_test_false seen es since clock f A
 have e1:(leftOf es seen).filter (fun x=>decide (x.born<since))=leftOf es seen:=Array.filter_eq_self.2 fun y hy=>by
  have:=f y (B y (by simpa using hy))
  simpa using this
 have e2:(leftOf es seen).filter (fun x=>decide (x.born≥since))=#[]:=by
  rw [Array.filter_eq_empty_iff];intro y hy
  have:=f y (B y (by simpa using hy))
  simp
  omega
 have hlen:(leftOf es seen).size=left.length:=by simpa using congrArg List.length i
 by_cases h0:(leftOf es seen).size=0
 ·
  have I:leftOf es seen=#[]:=Array.eq_empty_of_size_eq_zero h0
  have J:left=[]:=by cases left with
   | nil=>rfl
   | cons a r=>rw [h0] at hlen;simp at hlen
  subst J;refine⟨none,[],w,?_,aQ.refl _ _,⟨rfl,rfl⟩,es,clock,since,seen,h1,v,c,z,A,f,i,fun p o=>by cases o⟩;simp only [Instr.next,getObj,Sem.run_bind,Sem.run,c,h1,Result.andThen,E,Bool.false_eq_true,if_false];rw [show(es.filter fun e=>!seen.contains e.born)=leftOf es seen from rfl,I]
  simp [choose,Sem.run,Question.forced,xc]
 have L:(leftOf es seen).isEmpty=false:=by simp [Array.isEmpty,h0]
 have M:∃(j:Nat) (w1:World),j<(leftOf es seen).size∧w1.heap=w.heap∧aQ [] w w1∧(choose (Question.mapNext (leftOf es seen).size)).run P w=.ok j w1:=by
  by_cases F:(leftOf es seen).size≤1
  ·
   exact⟨0,w,by omega,rfl,aQ.refl _ _,by simp [choose,Sem.run,Question.forced,F]⟩
  exact⟨_,w.drew,Nat.mod_lt _ (by omega),rfl,⟨rfl,rfl,rfl,Nat.le_refl _,Nat.le_succ _,fun _ _ _=>rfl⟩,by
   simp only [choose,Sem.run,Question.forced,decide_eq_true_eq,F,if_false,Question.cut]
   rfl⟩
 obtain⟨j,w1,N,C,O,Q⟩:=M;obtain⟨y,hy⟩:∃y,(leftOf es seen)[j]?=some y:=⟨_,Array.getElem?_eq_getElem N⟩
 have D:(leftOf es seen).toList[j]?=some y:=by rw [Array.getElem?_toList];exact hy
 have R:y∈es.toList:=B y (List.mem_of_getElem? D);obtain⟨p,o⟩:∃p,left[j]?=some p:=⟨_,List.getElem?_eq_getElem (by omega)⟩
 have h:(y.key,y.val)=(enc p.1,p.2):=by
  have:=congrArg (fun x=>x[j]?) i
  simp only [List.getElem?_map,D,o,Option.map_some,Option.some.injEq] at this;exact this
 simp only [Prod.mk.injEq] at h
 have S:((leftOf es seen).toList.map (·.born)).Nodup:=by
  unfold leftOf
  rw [Array.toList_filter];exact(List.filter_sublist.map _).nodup v.2.2.2
 refine⟨some p,left.eraseIdx j,{w1 with heap:=w1.heap.setIfInBounds b (.mapIter (some m) since (seen.push y.born) clock)},?_,?_,⟨j,o,rfl⟩,es,clock,since,seen.push y.born,?_,v,?_,z,A,f,?_,?_⟩
 ·
  simp only [Instr.next,getObj,Sem.run_bind,Sem.run,c,h1,Result.andThen,E,Bool.false_eq_true,if_false];rw [show(es.filter fun e=>!seen.contains e.born)=leftOf es seen from rfl,e1,e2];simp only [L,Bool.false_eq_true,if_false,Array.empty_append,Array.append_empty,Array.size_map,Q,Array.getElem?_map,hy,Option.map_some]
  have U:(setObj b (.mapIter (some m) since (seen.push y.born) clock)).run P w1=.ok () {w1 with heap:=w1.heap.setIfInBounds b (.mapIter (some m) since (seen.push y.born) clock)}:=by
   simp only [setObj,Sem.run];rw [C,c]
  simp only [Sem.run_bind,U,Result.andThen,xc,h.1,h.2]
  try rfl
 ·
  have:=kc w1 b (.mapIter (some m) since (seen.push y.born) clock)
  exact aQ.trans (aQ.mono O (by simp)) this
 ·
  show(w1.heap.setIfInBounds b _)[m]?=_
  rw [C,Array.getElem?_setIfInBounds_ne z];exact h1
 ·
  show(w1.heap.setIfInBounds b _)[b]?=_
  rw [C,Array.getElem?_setIfInBounds_self]
  simp [H]
 ·
  rw [Ai,l4 _ j y S D,map_eraseIdx,map_eraseIdx,i]
 intro q G;simp only [Option.some.injEq] at G;subst G;exact⟨y,R,Array.back?_push,h.1,h.2⟩
theorem OX.next(hm:Jm enc w b m l left cur) (c:ev kv x=some (.pointer (some ⟨b,0,none⟩))) (f:Nat.blt d n=true)
  (h:∀r a w',aQ [b] w w'→(match r with | none=>left=[]∧a=[] | some p=>∃j,left[j]?=some p∧a=left.eraseIdx j)→Jm enc w' b m l a r→K ((d,.tuple (xc enc r))::kv) w'):OX P ⟨some d,.next x false,ty,pos,af,g⟩ n kv w K:=by
 obtain⟨r,a,w',h1,i,o,q⟩:=FH (P:=P) (ty:=ty) hm;refine⟨rfl,f,by simp [known,opers,c],?_⟩
 have hr:(execOp (jk kv) ⟨some d,.next x false,ty,pos,af,g⟩).run P w=.ok (.value (.tuple (xc enc r))) w':=by
  simp only [execOp,aI c,Sem.run_bind,h1,Result.andThen_ok];rfl
 rw [hr];exact h _ _ _ i o q
theorem PV.entry{p:κ × Value}(hm:Jm enc w b m l left (some p)) (a:ev kv x=some (.pointer (some ⟨b,0,none⟩))):PV P (.entry x) ty kv w (.tuple #[enc p.1,p.2]):=by
 obtain⟨es,clock,since,seen,h1,c,f,_,_,_,_,h⟩:=hm;obtain⟨y,hy,hb,hk,i⟩:=h p rfl;refine⟨rfl,by simp [known,opers,a],fun _ _ _ _=>?_⟩
 have o:es.find? (·.born == y.born)=some y:=by rw [← Array.find?_toList];exact find_born y es.toList c.2.2.2 hy
 have:(Instr.entry (.pointer (some ⟨b,0,none⟩))).run P w=.ok (.tuple #[enc p.1,p.2]) w:=by
  simp only [Instr.entry,getObj,Sem.run_bind,Sem.run,f,h1,hb,Result.andThen,bne_self_eq_false,Bool.false_eq_true,if_false,o,hk,i]
  rfl
 simp only [execOp,aI a,Sem.run_bind,this,Result.andThen_ok]
 rfl
end
end Go.Rc

namespace Go.Rc
open Go
theorem l5{α:Type}:∀{l:List α}{j:Nat}{p q:α},l[j]?=some p→q∈l→q=p∨q∈l.eraseIdx j
 | [],_,_,_,_,h=>by cases h
 | x::r,0,p,q,h,a=>by grind
 | x::r,j+1,p,q,h,a=>by
  rcases List.mem_cons.1 a with rfl | a
  ·
   exact .inr (by simp)
  rcases l5 (l:=r) (by simpa using h) a with h1 | h1
  ·
   exact .inl h1
  exact .inr (by simp [h1])
section
variable {aa:List aA}{az:List bU}
theorem mf.aX(i:aq aa) {i0:Nat}{L:List Nat}{u:Nat→Nat}{am:List (Key × Value)}(h:mf aa L u am) (hn:(am.map (·.1)).Nodup) (hr:di aa az i0 L u) (o:∀j∈L,u j=rv aa az j) :
  ∀p∈am,p.2=.string (valOf aa az p.1):=fun p f=>by
 have c:bq am p.1=some p.2:=(zz hn).2 f
 by_cases hk:∃j∈L,p.1=aD aa (j:Int)
 ·
  obtain⟨j,a,e⟩:=hk;obtain⟨q,r⟩:=hr.ring j a;rw [e,h.1 j a] at c
  grind [fB,fX]
 rw [h.2 p.1 fun j a e=>hk ⟨j,a,e⟩] at c
 cases c
theorem mf.first{i0:Nat}{L:List Nat}{u:Nat→Nat}{am:List (Key × Value)}(h:mf aa L u am) (hn:(am.map (·.1)).Nodup) (hr:di aa az i0 L u):∃p∈am,p.1=aD aa (i0:Int):=
 ⟨(_,_),(zz hn).1 (h.1 i0 hr.first),rfl⟩
theorem HJ{am left ml:List (Key × Value)}{j:Nat}{p:Key × Value}(a:∀q∈am,q∈left∨bq ml q.1=some q.2) (he:∀q∈am,q.2=.string (valOf aa az q.1)) (c:left[j]?=some p) :
  ∀q∈am,q∈left.eraseIdx j∨bq (cO ml p.1 (.string (valOf aa az p.1))) q.1=some q.2:=fun q f=>by
 rw [ey]
 by_cases e:p.1=q.1
 ·
  grind
 rw [if_neg e]
 rcases a q f with h | h
 ·
  rcases l5 c h with h1 | h1
  ·
   subst h1;exact absurd rfl e
  exact .inl h1
 exact .inr h
end
end Go.Rc

namespace Go.Rc
open Go
def iO(rev:Int) (l:List bU):Prop:=r5 l∧(∀y∈l,J6 rev y)∧∀y∈l,(∃i:Nat,i≤9∧y.key=⟨30,itoa i⟩)∧y.value.size≤1000
theorem iO.nil(rev:Int):iO rev []:=⟨.nil,by simp,by simp⟩
theorem iO.mono{r s:Int}{l:List bU}(h:iO r l) (f:r≤s):iO s l:=⟨h.1,fun y hy=>by obtain⟨a,b,c,d,e⟩:=h.2.1 y hy;exact⟨a,b,c,d,by omega⟩,h.2.2⟩
theorem Change.small.key{c:Change}(h:c.small):∃i:Nat,i≤9∧c.key=⟨30,itoa i⟩:=by
 obtain⟨⟨n,h0,a,hk⟩,_⟩:=h;refine⟨n.toNat,by omega,?_⟩;rw [hk]
 unfold bH
 grind
theorem Change.small.ok{c:Change}(h:c.small):cH c.key=true∧aB c.key=true:=by
 obtain⟨⟨n,h0,a,hk⟩,_⟩:=h;obtain⟨m,rfl⟩:∃m:Nat,n=(m:Int):=⟨n.toNat,by omega⟩;rw [hk];exact⟨eu.valid (aa:=[]) (.cell (by omega)),bf (by omega)⟩
theorem iO.put{rev:Int}{l:List bU}{c:Change}(h:iO rev l) (hc:c.small) (h0:0≤rev):iO rev (fk ⟨c.key,c.value,rev⟩ l false):=by
 refine⟨r5.put h.1,fun y hy=>?_,fun y hy=>?_⟩
 ·
  rcases tC _ _ _ _ hy with rfl | hy
  ·
   have:=hc.2
   exact⟨hc.ok.1,hc.ok.2,by grind,h0,Int.le_refl _⟩
  exact h.2.1 y hy
 rcases tC _ _ _ _ hy with rfl | hy
 ·
  obtain⟨i,hi,hk⟩:=hc.key;exact⟨⟨i,by omega,hk⟩,Nat.le_trans hc.2 (by decide)⟩
 exact h.2.2 y hy
theorem lh{α:Type} [BEq α] [LawfulBEq α]:∀{l U:List α},l.Nodup→(∀x∈l,x∈U)→l.length≤U.length
 | [],_,_,_=>Nat.zero_le _
 | x::r,U,hn,a=>by
  have c:=a x (by simp);rw [List.nodup_cons] at hn
  have h1:r.length≤(U.erase x).length:=lh hn.2 fun y hy=>by grind
  grind
theorem iO.len{rev:Int}{l:List bU}(h:iO rev l):l.length≤10:=by
 have hn:(l.map fun y=>y.key).Nodup:=by
  unfold List.Nodup
  rw [List.pairwise_map]
  exact h.1.imp fun {a b} h e=>by grind [jy]
 have:=lh (U:=(List.range 10).map fun i:Nat=>(⟨30,itoa i⟩:Key)) hn fun k hk=>by
  obtain⟨y,hy,rfl⟩:=List.mem_map.1 hk;obtain⟨i,hi,he⟩:=(h.2.2 y hy).1
  grind
 simpa using this
theorem iO.k99{rev:Int}{l:List bU}(h:iO rev l):∀y∈l,∃i:Nat,i≤99∧y.key=⟨30,itoa i⟩:=fun y hy=>by
 obtain⟨i,hi,he⟩:=(h.2.2 y hy).1;exact⟨i,by omega,he⟩
theorem Aj{n:bU}{k:Key}(h:n.key≠k):∀(l:List bU) (b:Bool),(fk n l b).find? (fun x=>x.key == k)=l.find? fun x=>x.key == k
 | [],b=>by grind [fk]
 | x::xs,b=>by
  have hn:(n.key == k)=false:=by simpa using h
  unfold fk
  rw [List.find?_append,List.find?_append,Aj h xs]
  have h1:(if (decide (0≤bp x.key n.key) && !b)=true then [n] else []).find? (fun x=>x.key == k)=none:=by grind
  rw [h1,Option.none_or]
  by_cases e:bp x.key n.key=0
  ·
   rw [if_pos e]
   grind [lG]
  grind
theorem nD{n:bU}{k:Key}(h:n.key≠k) (l:List bU):bE (fk n l false) k=bE l k:=by
 unfold bE
 rw [Aj h]
theorem Ka{n:bU}{l:List bU}{q:Nat}{b:Bool}(a:q<l.length) {acc r:List bU}(h:acc++fk n (l.drop q) b=r):acc++(if decide (0≤bp l[q].key n.key) && !b then [n] else [])++(if bp l[q].key n.key=0 then [] else [l[q]])++fk n (l.drop (q+1)) (b || decide (0≤bp l[q].key n.key))=r:=by grind [List.drop_eq_getElem_cons,fk]
theorem Kb{n:bU}{l m acc:List bU}{b:Bool}(h:acc++fk n m b=fk n l false):acc.length≤l.length+1:=by
 have h1:=congrArg List.length h
 grind [mG]
end Go.Rc

namespace Go.Rc
open Go
end Go.Rc

namespace Go.Rc
open Go
structure RE where
 key:Key
 a:Option Addr
 n:Nat
 c:Nat
 reads:List Key
end Go.Rc

namespace Go.Rc
open Go
section
variable {aa:List aA}{az:List bU}{val:Key→ByteArray}
theorem tE{f g:Nat}(h:f≤g):∀{l:List Key}{s s':ES},dC aa val f s l=some s'→dC aa val g s l=some s'
 | [],s,s',hu=>hu
 | k::r,s,s',hu=>by
  simp only [dC] at hu ⊢;obtain⟨t,h1,a⟩:=Option.bind_eq_some_iff.1 hu;rw [nC h h1];exact tE h a
theorem tF(a:aq aa):∀(l:List Key) (s:ES),Good aa az s→(∀k∈l,eu aa k)→∃f s',dC aa val f s l=some s'
 | [],s,_,_=>⟨0,s,rfl⟩
 | k::r,s,c,hk=>by
  obtain⟨f,t,h1⟩:=J3 (val:=val) a _ s k c (hk k (by simp)) (Nat.le_refl _);have h:=(bS (val:=val) a f).1 _ _ _ h1 c (hk k (by simp))
  obtain⟨g,s',o⟩:=tF a r t h.1 fun k i=>hk k (by simp [i])
  refine⟨max f g,s',?_⟩
  grind [dC,nC,tE,Nat.le_max_right]
theorem xd(a:aq aa) {f:Nat}:∀{l:List Key}{s s':ES},dC aa val f s l=some s'→Good aa az s→(∀k∈l,eu aa k)→s'.bM.length+fK aa s'≤s.bM.length+fK aa s
 | [],s,s',h,_,_=>by simp only [dC,Option.some.injEq] at h;subst h;exact Nat.le_refl _
 | k::r,s,s',h,c,hk=>by
  simp only [dC] at h;obtain⟨t,h1,i⟩:=Option.bind_eq_some_iff.1 h;have o:=(bS (val:=val) a f).1 _ _ _ h1 c (hk k (by simp));have p:=(gM (val:=val) a f).1 _ _ _ h1 c (hk k (by simp))
  have q:=xd a i o.1 fun k u=>hk k (by simp [u])
  exact Nat.le_trans q p.2.2
end
theorem FJ{aa:List aA}(a:aq aa) {i:Nat}(hi:i<aa.length):dh aa (aD aa (i:Int))=true:=by
 have c:=a.len
 unfold dh
 rw [eu.valid (aa:=aa) (.dp hi (by omega)),cv hi (by omega)]
 simp
theorem N0:eU ⟨0,[],[]⟩:=⟨fun i y h=>by simp at h,fun i r h=>by simp at h,by decide,by decide,by decide,⟨by decide,fun i x h=>by simp at h⟩⟩
theorem iO.eU{rev:Int}{az:List bU}(h:iO rev az) (h0:0≤rev) (h1:rev≤1073741824) (a:az.length≤64):eU ⟨rev,az,[]⟩:=
 ⟨CN.2 ⟨h.1,h.2.1⟩,fun i r h=>by simp at h,h0,h1,a,⟨Nat.zero_le _,fun i x h=>by simp at h⟩⟩
end Go.Rc

namespace Go.Rc
open Go
def xe(x:Rec):Int:=16+x.key.text.size+x.value.size+8*x.reads.length
def jQ(l:List Rec):Int:=(l.map xe).sum
def FK(x:Rec):Prop:=x.key.text.size≤1000∧x.value.size≤1073741824∧x.reads.length≤4000
theorem FK.size{x:Rec}(h:FK x):0≤xe x∧xe x≤1100000000:=by
 unfold xe
 obtain⟨a,b,c⟩:=h
 omega
theorem Ak{l:List Rec}{i:Nat}(hi:i<l.length):jQ (l.take (i+1))=jQ (l.take i)+xe l[i]:=by grind [jQ,List.take_succ_eq_append_getElem]
theorem xf:∀{l:List Rec},(∀x∈l,FK x)→0≤jQ l∧jQ l≤1100000000*l.length
 | [],_=>by simp [jQ]
 | x::r,h=>by
  have h1:=(h x (by simp)).size
  have a:=xf (l:=r) fun y hy=>h y (by simp [hy])
  grind [jQ]
theorem Al{c s:Int}(hc:0≤c∧c≤1073741824) (a:0≤s∧s≤1100000000):-9223372036854775808≤c*s∧c*s≤9223372036854775807:=by
 have h1:=Int.mul_nonneg hc.1 a.1;have f:=Int.mul_le_mul hc.2 a.2 a.1 (by decide:(0:Int)≤1073741824)
 omega
theorem HK{α:Type}{out m:List α}{x:α}(p:Nat) (h:out.Perm m):(([]++out.take p)++[x]++out.drop p).Perm (m++[x]):=by
 have h1:(out.take p++[x]++out.drop p).Perm (out++[x]):=by grind [List.perm_append_comm,List.take_append_drop]
 rw [List.nil_append];exact h1.trans (h.append_right _)
theorem xg(l:List Rec) (k:Key):(gh l k).Sublist l:=List.filter_sublist
def As.rgo(c:Prop) (b o:Nat) (r:List Value):As where
 fp _:=False
 ok Z w:=c→(As.rg b o r).ok Z w
 lt _ _ hx:=hx.elim
 mono hZ h:=fun h0=>(As.rg b o r).mono hZ (h h0)
 st hs hc h:=fun h0=>(As.rg b o r).st hs hc (h h0)
theorem As.gro{c:Prop}{b o:Nat}{r:List Value}{Z:Nat→Prop}{w:World}(hc:c) (h:(As.rgo c b o r).ok Z w):w.rangeAt b o r:=(h hc).2.2
theorem Rd.opt{α:Type}{R:RR α}{k n c:Nat}{Z:Nat→Prop}{w:World}{a:Option Addr}{xs:List α}(h:Rd R k Z w a n c xs) (u:∀b,Z b→b<w.heap.size) (p:Nat):∃b o r,(∀f:p<xs.length,a=some ⟨b,o,none⟩∧r.length=k∧R.r Z w xs[p] r)∧(As.rgo (p<xs.length) b (o+p*k) r).ok Z w:=by
 by_cases f:p<xs.length
 ·
  obtain⟨b,o,r,h1,v,y,z,q⟩:=Rd.at h f;exact⟨b,o,r,fun _=>⟨h1,v,y⟩,fun _=>⟨q,u b q,z⟩⟩
 exact⟨0,0,[],fun i=>absurd i f,fun i=>absurd i f⟩
theorem cY.one(x:cY) (a1:Option Addr) (n1 c1:Nat) (a2:Option Addr) (n2 c2:Nat):∀u∈x.row a1 n1 c1 a2 n2 c2,u.oneCell'=true:=by simp [cY.row,Value.oneCell']
end Go.Rc

namespace Go.Rc
open Go
structure qb where
 aa:List aA
 base:cA
 goals:List Key
 stack:List cY
 bM:List Key
structure FL where
 u:Option Addr
 nu:Nat
 cu:Nat
 i:Option Addr
 ni:Nat
 ci:Nat
 r:Option Addr
 nr:Nat
 cr:Nat
 g:Option Addr
 ng:Nat
 cg:Nat
 f:Option Addr
 nf:Nat
 cf:Nat
 p:Option Addr
 np:Nat
 cp:Nat
def qb.row(t:qb) (A:FL):List Value:=[.slice A.u A.nu A.cu,.int .i64 t.base.ab,.slice A.i A.ni A.ci,.slice A.r A.nr A.cr,.slice A.g A.ng A.cg,.slice A.f A.nf A.cf,.slice A.p A.np A.cp]
structure qb.In (t:qb) (A:FL) (Z:Nat→Prop) (w:World):Prop where
 u:Rd RR.dp 4 Z w A.u A.nu A.cu t.aa
 i:Rd RR.az 4 Z w A.i A.ni A.ci t.base.ad
 r:Rd RR.ed 8 Z w A.r A.nr A.cr t.base.ah
 g:Rd RR.key 2 Z w A.g A.ng A.cg t.goals
 f:Rd RR.me 6 Z w A.f A.nf A.cf t.stack
 p:Rd RR.key 2 Z w A.p A.np A.cp t.bM
structure qb.In5 (t:qb) (A:FL) (Z:Nat→Prop) (w:World):Prop where
 u:Rd RR.dp 4 Z w A.u A.nu A.cu t.aa
 i:Rd RR.az 4 Z w A.i A.ni A.ci t.base.ad
 r:Rd RR.ed 8 Z w A.r A.nr A.cr t.base.ah
 g:Rd RR.key 2 Z w A.g A.ng A.cg t.goals
 f:Rd RR.me 6 Z w A.f A.nf A.cf t.stack
structure qb.Sz (t:qb):Prop where
 u:t.aa.length≤1000000
 a:∀x∈t.aa,x.asks.length≤1000
 i:t.base.ad.length≤1000000
 r:t.base.ah.length≤1000000
 f:t.stack.length≤1000000
 g:t.goals.length≤1000000
 p:t.bM.length≤1000000
end Go.Rc

namespace Go.Rc
open Go
structure mH where
 a:Option Addr
 n:Nat
 c:Nat
 a2:Option Addr
 n2:Nat
 c2:Nat
def cY.x2(x:cY × mH):List Value:=x.1.row x.2.a x.2.n x.2.c x.2.a2 x.2.n2 x.2.c2
def RR.x3:RR (cY × mH):=RR.flat cY.x2
theorem tH{α:Type}{l:List α}{a:α}(h:l.getLast?=some a):l.dropLast++[a]=l:=by
 rcases List.eq_nil_or_concat l with rfl | ⟨m,b,rfl⟩
 ·
  cases h
 simp at h
 subst h
 simp
def dj(L:List (cY × mH)):FZ:=
 ⟨fun Z w=>∀y∈L,Rd RR.key 2 Z w y.2.a y.2.n y.2.c y.1.reads∧Rd RR.str 1 Z w y.2.a2 y.2.n2 y.2.c2 y.1.ae,fun hZ h y hy=>⟨(h y hy).1.mono hZ,(h y hy).2.mono hZ⟩,fun h1 h2 h y hy=>⟨(h y hy).1.st h1 h2,(h y hy).2.st h1 h2⟩⟩
theorem dj.last{L:List (cY × mH)}{Z:Nat→Prop}{w:World}{a a2:Option Addr}{n c n2 c2:Nat}{pl:List Key}{ql:List ByteArray}(h:(dj L.dropLast).p Z w) (hl:L=[]∨∃f,L.getLast?=some (f,⟨a,n,c,a2,n2,c2⟩)∧pl=f.reads∧ql=f.ae) (hk:Rd RR.key 2 Z w a n c pl) (hy:Rd RR.str 1 Z w a2 n2 c2 ql):(dj L).p Z w:=fun y hm=>by
 rcases hl with rfl | ⟨f,h1,rfl,rfl⟩
 ·
  cases hm
 have e:=tH h1;rw [← e] at hm
 rcases List.mem_append.1 hm with hm | hm
 ·
  exact h y hm
 grind
theorem dj.nil(Z:Nat→Prop) (w:World):(dj ([]:List (cY × mH)).dropLast).p Z w:=fun y hy=>by cases hy
theorem dj.me{L:List (cY × mH)}{E n c:Nat}{a:Option Addr}{Z:Nat→Prop}{w:World}(h:Ow RR.x3 E 6 Z w a n c L) (o:(dj L).p Z w) (q:∀y∈L,y.1.reads.length≤4000∧y.1.ae.length≤4000):Ow RR.me E 6 Z w a n c (L.map Prod.fst):=by
 obtain⟨hn,rows,hl,hk,h1,u⟩:=h;refine⟨by rw [hn,List.length_map],rows,by rw [hl,List.length_map],hk,h1,fun i x r f v=>?_⟩;rw [List.getElem?_map] at f;obtain⟨y,hy,rfl⟩:=Option.map_eq_some_iff.1 f;have hm:=List.mem_of_getElem? hy;have hr:r=cY.x2 y:=u i y r hy v;obtain⟨z,A⟩:=q y hm;obtain⟨B,C⟩:=o y hm;exact⟨_,_,_,_,_,_,hr,B,C,z,A⟩
end Go.Rc

