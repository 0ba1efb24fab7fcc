/- Base of the proof: frames, memory, ownership, and the plain meaning of rule systems. Conditions: as each lemma says. -/
import Derived.Test.YtjpagoacbadijaaGreatDoorJBe
import Derived.Test.YtjpagoacbadijaaGreatDoorJBd
import Derived.Test.YtjpagoacbadijaaGreatDoorJBc
import Derived.Laws.IdiomRangeMap
set_option linter.all false
namespace Go.Rc
open Go
/-! ### counting -/
def zc(p:Nat→Bool):Nat→Nat
 | 0=>0
 | n+1=>zc p n+(p n).toNat
theorem qB{p q:Nat→Bool}:∀{n:Nat},(∀i,i<n→p i=true→q i=true)→zc p n≤zc q n
 | 0,_=>Nat.le_refl _
 | n+1,h=>by
  have h1:=qB (n:=n) fun i hi=>h i (by omega)
  have f:=h n (by omega);simp only [zc]
  cases j:p n with
  | false=>simp;omega
  | true=>rw [f j];omega
theorem qC{p q:Nat→Bool}{j:Nat}:∀{n:Nat},(∀i,i<n→p i=true→q i=true)→j<n→q j=true→p j=false→zc p n+1≤zc q n
 | 0,_,o,_,_=>by omega
 | n+1,h,o,h1,f=>by
  simp only [zc]
  rcases Nat.lt_or_ge j n with y | D
  ·
   have z:=qC (n:=n) (fun i hi=>h i (by omega)) y h1 f;have B:=h n (by omega)
   cases C:p n with
   | false=>simp;omega
   | true=>rw [B C];omega
  have e:j=n:=by omega
  subst e
  have z:=qB (n:=j) (p:=p) (q:=q) fun i hi=>h i (by omega)
  rw [h1,f];simp;omega
theorem Bd{p q:Nat→Bool}{j:Nat}:∀{n:Nat},(∀i,i<n→i≠j→p i=true→q i=true)→zc p n≤zc q n+1
 | 0,_=>by simp [zc]
 | n+1,h=>by
  simp only [zc]
  by_cases e:n=j
  ·
   subst e
   have y:=qB (n:=n) (p:=p) (q:=q) fun i hi=>h i (by omega) (by omega)
   cases p n <;> cases q n <;> simp <;> omega
  have h1:=Bd (n:=n) fun i hi=>h i (by omega)
  have f:=h n (by omega) e
  cases o:p n with
  | false=>simp;omega
  | true=>rw [f o];simp;omega
theorem Io(p:Nat→Bool):∀n,zc p n≤n
 | 0=>Nat.le_refl _
 | n+1=>by have:=Io p n;simp only [zc];cases p n <;> simp <;> omega
/-! ### what is found in what was put -/
theorem Be:∀(a b:List UInt8),Lib.compareBytes a b=0→a=b
 | [],[],_=>rfl
 | [],_::_,h=>by simp [Lib.compareBytes] at h
 | _::_,[],h=>by simp [Lib.compareBytes] at h
 | x::a,y::b,h=>by
  simp only [Lib.compareBytes] at h
  split at h
  ·
   cases h
  split at h
  ·
   cases h
  rename_i h1 f
  have e:x=y:=by grind
  rw [e,Be a b h]
theorem jZ{a b:Key}(h:bm a b=0):a=b:=by
 unfold bm at h
 split at h
 ·
  cases h
 split at h
 ·
  cases h
 rename_i h1 f
 have i:=Be _ _ h;obtain⟨o,j⟩:=a;obtain⟨p,y⟩:=b;simp only at h1 f i
 congr 1
 ·
  omega
 cases j;simp_all
theorem xc(r:Rec) (k:Key):∀(l:List Rec) (b:Bool),ay (dG r l b) k=if k=r.key then (if b then none else some r) else ay l k:=by
 intro l
 induction l with
 | nil=>
  intro b
  unfold dG ay
  grind
 | cons x xs f=>
  intro b;have h1:=f (b || decide (0≤bm x.key r.key))
  unfold dG
  unfold ay at h1 ⊢
  rw [List.find?_append,List.find?_append,h1]
  by_cases h:k=r.key
  ·
   subst h;simp only [if_true]
   by_cases hc:bm x.key r.key=0
   ·
    grind
   have j:x.key≠r.key:=fun e=>hc (by rw [e];exact gF _)
   grind
  simp only [if_neg h]
  have hr:(r.key == k)=false:=by simp;exact fun e=>h e.symm
  have i:(List.find? (fun y=>y.key == k) (if (decide (0≤bm x.key r.key) && !b)=true then [r] else []))=none:=by split <;> simp [hr]
  rw [i]
  by_cases hc:bm x.key r.key=0
  ·
   have e:x.key=r.key:=jZ hc
   grind
  grind
theorem eF(l:List Rec) (r:Rec) (k:Key):ay (eA l r) k=if k=r.key then some r else ay l k:=by grind [eA,xc]
theorem ob(f:Rec→Rec) (h:∀r,(f r).key=r.key) (k:Key) (l:List Rec):ay (l.map f) k=(ay l k).map f:=by
 unfold ay
 rw [List.find?_map,show((fun x:Rec=>x.key == k)∘f)=(fun x:Rec=>x.key == k) from funext fun x=>by simp [h]]
/-! ### what goes on being so -/
theorem bV{x:cI}{k:Key}:aI x k=true↔∃r,ay x.ah k=some r∧r.aq=x.ad:=by
 unfold aI aD
 cases f:ay x.ah k with
 | none=>simp
 | some r=>simp
theorem zd{x:cI}{g:List Key}{d:Bool}{k:Key}(h:aI x k=true):aI (cU x g d) k=true:=by
 obtain⟨r,h1,f⟩:=bV.1 h;refine bV.2 ⟨bH x.ad g d r,?_,?_⟩
 ·
  show ay (x.ah.map (bH x.ad g d)) k=_
  grind [ob,ck]
 show _=x.ad
 unfold bH
 grind
theorem uU{x:cI}{g:List Key}{k:Key}(h:(ay x.ah k).isSome=true) (hk:k∈g):aI (cU x g false) k=true:=by
 obtain⟨r,h1⟩:=Option.isSome_iff_exists.1 h;have f:=List.find?_some h1
 simp at f
 refine bV.2 ⟨bH x.ad g false r,?_,?_⟩
 ·
  show ay (x.ah.map (bH x.ad g false)) k=_
  grind [ob,ck]
 show _=x.ad
 grind [bH]
theorem B8{x:cI}{r:Rec}{k:Key}(hr:r.aq=x.ad) (h:aI x k=true):aI {x with ah:=eA x.ah r} k=true:=by
 obtain⟨q,h1,f⟩:=bV.1 h
 by_cases e:k=r.key
 ·
  exact bV.2 ⟨r,by show ay (eA x.ah r) k=_;rw [eF,if_pos e],hr⟩
 exact bV.2 ⟨q,by show ay (eA x.ah r) k=_;rw [eF,if_neg e,h1],f⟩
theorem qD{x:cI}{r:Rec}(hr:r.aq=x.ad):aI {x with ah:=eA x.ah r} r.key=true:=
 bV.2 ⟨r,by show ay (eA x.ah r) r.key=_;rw [eF,if_pos rfl],hr⟩
theorem ze(l:List Rec) (rev:Int) (k:Key):k∈aB l rev k:=by grind [aB,oa]
structure fT (s s':ES):Prop where
 on:∀k,s'.on k=s.on k
 up:∀k,aI s.b k=true→aI s'.b k=true
theorem fT.refl(s:ES):fT s s:=⟨fun _=>rfl,fun _ h=>h⟩
theorem fT.trans{s t u:ES}(h:fT s t) (f:fT t u):fT s u:=⟨fun k=>(f.on k).trans (h.on k),fun k hk=>f.up k (h.up k hk)⟩
theorem fT.there{s s':ES}(h:fT s s') {k:Key}(ht:db s k=true):db s' k=true:=by
 unfold db at ht ⊢
 rw [h.on k];simp only [Bool.or_eq_true] at ht ⊢
 rcases ht with h1 | h1 | h1
 ·
  exact .inl h1
 ·
  exact .inr (.inl h1)
 exact .inr (.inr (h.up k h1))
def eQ(aa:List az) (s:ES):Nat:=zc (fun i=>!aI s.b (aH aa (i:Int)) && !s.on (aH aa (i:Int))) aa.length
def off(aa:List az) (s:ES):Nat:=zc (fun i=>!s.on (aH aa (i:Int))) aa.length
theorem fT.eQ{aa:List az}{s s':ES}(h:fT s s'):eQ aa s'≤eQ aa s:=qB fun i _ f=>by
 simp only [Bool.and_eq_true,Bool.not_eq_true'] at f ⊢;rw [h.on] at f;refine⟨?_,f.2⟩
 cases hu:aI s.b (aH aa (i:Int)) with
 | false=>rfl
 | true=>rw [h.up _ hu] at f;exact absurd f.1 (by simp)
theorem fT.off{aa:List az}{s s':ES}(h:fT s s'):Go.Rc.off aa s'=Go.Rc.off aa s:=by
 unfold Go.Rc.off
 congr 1
 funext i
 rw [h.on]
section
variable {aa:List az}{val:Key→ByteArray}{aC:List ca}
theorem kN(s:ES) (k k':Key):ES.on {s with busy:=bY s.busy k (.bool true)} k'=(decide (k=k') || s.on k'):=by
 unfold ES.on
 simp only [cY]
 by_cases h:k=k' <;> simp [h]
theorem zf{s:ES}(hn:(s.busy.map (·.1)).Nodup) (k k':Key):ES.on {s with busy:=fF s.busy k} k'=(!decide (k=k') && s.on k'):=by
 unfold ES.on
 simp only [wG hn]
 by_cases h:k=k' <;> simp [h]
def UpK(aa:List az) (val:Key→ByteArray) (aC:List ca) (f:Nat):Prop:=∀s k s',hM aa val f s k=some s'→Good aa aC s→eU aa k→fT s s'∧(s'.e=0→s.e=0∧(aw k=true∨db s' k=true))∧s'.cw.length+eQ aa s'≤s.cw.length+eQ aa s
def ChK(aa:List az) (val:Key→ByteArray) (aC:List ca) (f:Nat):Prop:=∀s k n s' b,cc aa val f s k n=some (s',b)→Good aa aC s→fT s s'∧(s'.e=0→s.e=0∧(b=false→aI s'.b k=true))∧s'.cw.length+eQ aa s'≤s.cw.length+eQ aa s
def RuK(aa:List az) (val:Key→ByteArray) (aC:List ca) (f:Nat):Prop:=∀s k reads ai s',ei aa val f s k reads ai=some s'→Good aa aC s→ga aa k ai.length→fT s s'∧(s'.e=0→s.e=0∧aI s'.b k=true)∧(s'.cw.length+eQ aa s'≤s.cw.length+eQ aa s∨(aI s'.b k=true∧s'.cw.length+eQ aa s'≤s.cw.length+eQ aa s+1))
theorem fT.err(s:ES) (e:Int):fT s {s with e:=e}:=⟨fun _=>rfl,fun _ h=>h⟩
theorem fT.mark(s:ES) (g:List Key) (d:Bool):fT s {s with b:=cU s.b g d}:=⟨fun _=>rfl,fun _ h=>zd h⟩
theorem fR(hR:ao aa):∀f,UpK aa val aC f∧ChK aa val aC f∧RuK aa val aC f:=by
 intro f
 induction f with
 | zero=>exact⟨fun s k s' h=>by simp [hM] at h,fun s k n s' b h=>by simp [cc] at h,fun s k r a s' h=>by simp [ei] at h⟩
 | succ f ih=>
  obtain⟨X,G,I⟩:=ih;have gd:=bM (val:=val) (aC:=aC) hR f;refine⟨?_,?_,?_⟩
  ·
   intro s k s' h p hk
   unfold hM at h
   split at h
   ·
    rename_i he
    cases h
    refine⟨.refl _,fun h0=>⟨h0,?_⟩,Nat.le_refl _⟩
    grind
   rename_i he
   have Uo:s.e=0:=by simp at he;exact he.1
   have J:aw k=false:=by simp at he;exact he.2
   split at h
   ·
    rename_i hu
    cases h
    exact⟨.refl _,fun h0=>⟨h0,.inr (by unfold db;rw [hu];simp)⟩,Nat.le_refl _⟩
   rename_i hu
   split at h
   ·
    rename_i O
    split at h
    ·
     rename_i hc
     cases h
     exact⟨.refl _,fun h0=>⟨h0,.inr (by unfold db;rw [O,hc];simp)⟩,Nat.le_refl _⟩
    cases h
    exact⟨.err _ _,fun h0=>by simp at h0,Nat.le_refl _⟩
   rename_i O
   have hu':aI s.b k=false:=by simpa using hu
   have FW:s.on k=false:=by simpa using O
   obtain⟨⟨s2,b2⟩,C,h⟩:=Option.bind_eq_some_iff.1 h;obtain⟨o,ht,h⟩:=Option.bind_eq_some_iff.1 h;simp only [Option.some.injEq] at h;subst h;obtain⟨i,hi,hki,_⟩:=hk.gu J;obtain⟨Q,_⟩:=gd.2.1 _ _ _ _ _ C (p.on k);obtain⟨Y,S1,ht2⟩:=G _ _ _ _ _ C (p.on k)
   -- the state before, with k under way
   have h1:eQ aa {s with busy:=bY s.busy k (.bool true)}+1≤eQ aa s:=by
    refine qC (j:=i) (fun j _ z=>?_) hi ?_ ?_
    ·
     simp only [kN,Bool.and_eq_true,Bool.not_eq_true',Bool.or_eq_false_iff] at z ⊢;exact⟨z.1,z.2.2⟩
    ·
     grind
    grind [kN]
   have D:Good aa aC o∧fT s2 o∧(o.e=0→s2.e=0∧aI o.b k=true)∧(o.cw.length+eQ aa o≤s2.cw.length+eQ aa s2∨(aI o.b k=true∧o.cw.length+eQ aa o≤s2.cw.length+eQ aa s2+1)):=by
    split at ht
    ·
     obtain⟨a,b,c⟩:=I _ _ _ _ _ ht Q (hk.gu J);exact⟨(gd.2.2 _ _ _ _ _ ht Q (hk.gu J) rfl (fun a F=>by cases F)).1,a,b,c⟩
    rename_i hb
    simp only [Option.some.injEq] at ht;subst ht;exact⟨Q,.refl _,fun h0=>⟨h0,(S1 h0).2 (by simpa using hb)⟩,.inl (Nat.le_refl _)⟩
   obtain⟨U,C4,he3,ht3⟩:=D
   have MZ:∀k',o.on k'=(decide (k=k') || s.on k'):=fun k'=>by rw [C4.on,Y.on,kN]
   have y:fT s {o with busy:=fF o.busy k}:=⟨fun k'=>by
    rw [zf U.i6,MZ]
    grind,fun k' h=>C4.up _ (Y.up _ h)⟩
   refine⟨y,fun h0=>⟨Uo,.inr ?_⟩,?_⟩
   ·
    have:=(he3 h0).2
    show db {o with busy:=fF o.busy k} k=true
    unfold db
    grind
   show o.cw.length+eQ aa {o with busy:=fF o.busy k}≤_
   have ac2:s2.cw.length+eQ aa s2≤s.cw.length+eQ aa {s with busy:=bY s.busy k (.bool true)}:=ht2
   by_cases hu3:aI o.b k=true
   ·
    have:eQ aa {o with busy:=fF o.busy k}≤eQ aa o:=qB fun j _ z=>by
     simp only [zf U.i6,Bool.and_eq_true,Bool.not_eq_true',Bool.and_eq_false_iff] at z ⊢
     grind
    omega
   have B:eQ aa {o with busy:=fF o.busy k}≤eQ aa o+1:=Bd (j:=i) fun j z Dp C=>by
    simp only [zf U.i6,Bool.and_eq_true,Bool.not_eq_true',Bool.and_eq_false_iff] at C ⊢
    grind [dy]
   grind
  ·
   intro s k n s' b h p
   unfold cc at h
   split at h
   ·
    rename_i he
    cases h;exact⟨.refl _,fun h0=>absurd h0 he,Nat.le_refl _⟩
   split at h
   ·
    cases h;exact⟨.refl _,fun h0=>⟨h0,fun hb=>by cases hb⟩,Nat.le_refl _⟩
   rename_i hf
   have hf1:(ay s.b.ah k).isSome=true:=by grind
   split at h
   ·
    rename_i hv
    cases h;exact⟨.refl _,fun h0=>⟨h0,fun _=>by unfold aI;rw [hf1,hv];simp⟩,Nat.le_refl _⟩
   split at h
   ·
    cases h
    have y:fT s {s with b:=cU s.b (aB s.b.ah s.b.ad k) false}:=.mark _ _ _;exact⟨y,fun h0=>⟨h0,fun _=>uU hf1 (ze _ _ _)⟩,Nat.add_le_add_left y.eQ _⟩
   rename_i c hc
   split at h
   ·
    obtain⟨t,ht,h⟩:=Option.bind_eq_some_iff.1 h;obtain⟨h1,V,D⟩:=X _ _ _ ht p (fc p hc);obtain⟨W,B,h6⟩:=G _ _ _ _ _ h (gd.1 _ _ _ ht p (fc p hc)).1;exact⟨h1.trans W,fun h0=>⟨(V (B h0).1).1,(B h0).2⟩,Nat.le_trans h6 D⟩
   split at h
   ·
    split at h <;> cases h
    ·
     have y:fT s {s with b:=cU s.b (aB s.b.ah s.b.ad k) true}:=.mark _ _ _;exact⟨y,fun h0=>⟨h0,fun hb=>by cases hb⟩,Nat.add_le_add_left y.eQ _⟩
    exact⟨.refl _,fun h0=>⟨h0,fun hb=>by cases hb⟩,Nat.le_refl _⟩
   exact G _ _ _ _ _ h p
  intro s k reads ai s' h p F
  unfold ei at h
  split at h
  ·
   rename_i he
   cases h;exact⟨.refl _,fun h0=>absurd h0 he,.inl (Nat.le_refl _)⟩
  rename_i he
  split at h
  ·
   split at h
   ·
    cases h;exact⟨.err _ _,fun h0=>by simp at h0,.inl (Nat.le_refl _)⟩
   cases h
   have y:fT s {s with b:={s.b with ah:=eA s.b.ah (cZ s.b k (bC aa k ai).value reads)},cw:=s.cw++[k]}:=⟨fun _=>rfl,fun _ h=>B8 rfl h⟩;have hu:aI ({s.b with ah:=eA s.b.ah (cZ s.b k (bC aa k ai).value reads)}:cI) k=true:=qD (r:=cZ s.b k (bC aa k ai).value reads) rfl;refine⟨y,fun h0=>⟨h0,hu⟩,.inr ⟨hu,?_⟩⟩
   have:=y.eQ (aa:=aa)
   grind
  rename_i hd
  obtain⟨t,ht,h⟩:=Option.bind_eq_some_iff.1 h;have hn:=F.next hR (by simpa using hd);obtain⟨h1,V,D⟩:=X _ _ _ ht p hn.2;have C5:=(gd.1 _ _ _ ht p hn.2).1
  have h7:fT t s'∧(s'.e=0→t.e=0∧aI s'.b k=true)∧(s'.cw.length+eQ aa s'≤t.cw.length+eQ aa t∨(aI s'.b k=true∧s'.cw.length+eQ aa s'≤t.cw.length+eQ aa t+1)):=by
   split at h
   ·
    exact I _ _ _ _ _ h C5 (by simpa using hn.1)
   exact I _ _ _ _ _ h C5 F
  obtain⟨W,B,h6⟩:=h7;refine⟨h1.trans W,fun h0=>⟨(V (B h0).1).1,(B h0).2⟩,?_⟩
  grind
/-! ### more fuel does no harm -/
theorem kO:∀f,(∀s k s',hM aa val f s k=some s'→hM aa val (f+1) s k=some s')∧(∀s k n p,cc aa val f s k n=some p→cc aa val (f+1) s k n=some p)∧(∀s k r a s',ei aa val f s k r a=some s'→ei aa val (f+1) s k r a=some s'):=by
 intro f
 induction f with
 | zero=>grind [hM,cc,ei]
 | succ f o=>
  obtain⟨z,B,C⟩:=o;refine⟨?_,?_,?_⟩
  ·
   intro s k s' h
   unfold hM at h ⊢
   split at h
   ·
    grind
   rename_i h1;rw [if_neg h1]
   split at h
   ·
    grind
   rename_i i;rw [if_neg i]
   split at h
   ·
    grind
   rename_i j;rw [if_neg j]
   obtain⟨p,D,h⟩:=Option.bind_eq_some_iff.1 h;obtain⟨F,ht,h⟩:=Option.bind_eq_some_iff.1 h
   grind
  ·
   intro s k n p h
   unfold cc at h ⊢
   split at h
   ·
    grind
   rename_i h1;rw [if_neg h1]
   split at h
   ·
    grind
   rename_i i;rw [if_neg i]
   split at h
   ·
    grind
   rename_i j;rw [if_neg j]
   split at h
   ·
    exact h
   rename_i c hc
   split at h
   ·
    rename_i y;rw [if_pos y]
    grind [Option.bind_eq_some_iff]
   grind
  intro s k r a s' h
  unfold ei at h ⊢
  split at h
  ·
   grind
  rename_i h1;rw [if_neg h1]
  split at h
  ·
   grind
  rename_i i;rw [if_neg i]
  obtain⟨t,ht,h⟩:=Option.bind_eq_some_iff.1 h
  grind
theorem lu{f g:Nat}(h:f≤g) {s:ES}{k:Key}{s':ES}(hu:hM aa val f s k=some s'):hM aa val g s k=some s':=by
 induction h with
 | refl=>exact hu
 | step _ i=>exact(kO _).1 _ _ _ i
theorem my{f g:Nat}(h:f≤g) {s:ES}{k:Key}{n:Nat}{p:ES × Bool}(hu:cc aa val f s k n=some p):cc aa val g s k n=some p:=by
 induction h with
 | refl=>exact hu
 | step _ i=>exact(kO _).2.1 _ _ _ _ i
theorem qE{f g:Nat}(h:f≤g) {s:ES}{k:Key}{r:List Key}{a:List ByteArray}{s':ES}(hu:ei aa val f s k r a=some s'):ei aa val g s k r a=some s':=by
 induction h with
 | refl=>exact hu
 | step _ i=>exact(kO _).2.2 _ _ _ _ _ i
/-! ### there is fuel enough -/
theorem zg(hR:ao aa) {d:Nat}(I:∀s k,Good aa aC s→eU aa k→off aa s≤d→∃f s',hM aa val f s k=some s') (k:Key) :
  ∀(m:Nat) (s:ES) (n:Nat),eQ aa s*200000000+(200000000 - n)≤m→n≤100000000→Good aa aC s→off aa s≤d→∃f p,cc aa val f s k n=some p:=by
 intro m
 induction m using Nat.strongRecOn with
 | _ m F=>
  intro s n hm hn h B
  by_cases h1:s.e≠0
  ·
   exact⟨1,(s,false),by unfold cc;rw [if_pos h1]⟩
  by_cases o:(!(ay s.b.ah k).isSome || (aD s.b.ah k).bq)=true
  ·
   exact⟨1,(s,true),by unfold cc;rw [if_neg h1,if_pos o]⟩
  by_cases z:(aD s.b.ah k).aq=s.b.ad
  ·
   exact⟨1,(s,false),by unfold cc;grind⟩
  have J:(aB s.b.ah s.b.ad k).length≤4001:=by grind [mx,Good.len]
  have BN:=Bc h J
  cases hc:(bU s.b.ah (aB s.b.ah s.b.ad k))[n]? with
  | none=>exact⟨1,_,by unfold cc;rw [if_neg h1,if_neg o,if_neg z,hc]⟩
  | some c=>
   have sj:n<(bU s.b.ah (aB s.b.ah s.b.ad k)).length:=(List.getElem?_eq_some_iff.1 hc).1
   by_cases C:db s c.read=false
   ·
    obtain⟨f,t,ht⟩:=I s c.read h (fc h hc) B;obtain⟨D,he1,_⟩:=(fR (val:=val) hR f).1 _ _ _ ht h (fc h hc);have O:=((bM (val:=val) hR f).1 _ _ _ ht h (fc h hc)).1
    have Q:aw c.read=false:=by grind [db]
    by_cases U:t.e=0
    ·
     obtain⟨i,hi,G,_⟩:=(fc h hc).gu Q
     have Oj:db t c.read=true:=by grind
     have vY:eQ aa t+1≤eQ aa s:=by
      have V:aI s.b c.read=false:=by grind [db]
      have hoc:(s.on c.read && aA c.read)=false:=by grind [db]
      have W:aI t.b c.read=true:=by grind [db,fT.on]
      have X:s.on c.read=false:=by
       cases ho:s.on c.read with
       | false=>rfl
       | true=>
        exfalso
        cases f with
        | zero=>simp [hM] at ht
        | succ f=>
         unfold hM at ht
         grind
      refine qC (j:=i) (fun j _ y=>?_) hi ?_ ?_
      ·
       simp only [Bool.and_eq_true,Bool.not_eq_true'] at y ⊢;rw [D.on] at y;refine⟨?_,y.2⟩
       cases Y:aI s.b (aH aa (j:Int)) with
       | false=>rfl
       | true=>rw [D.up _ Y] at y;exact absurd y.1 (by simp)
      ·
       rw [← G,V,X];rfl
      rw [← G,W];rfl
     obtain⟨f2,p,hp⟩:=F (eQ aa t*200000000+(200000000 - n)) (by omega) t n (Nat.le_refl _) hn O (by rw [D.off];exact B);refine⟨max f f2+1,p,?_⟩
     unfold cc
     rw [if_neg h1,if_neg o,if_neg z,hc]
     simp only
     rw [if_pos C,lu (Nat.le_max_left _ _) ht]
     grind [my,Nat.le_max_right]
    refine⟨max f 1+1,(t,false),?_⟩
    unfold cc
    rw [if_neg h1,if_neg o,if_neg z,hc]
    simp only
    rw [if_pos C,lu (Nat.le_max_left _ _) ht];refine my (f:=1) (Nat.le_max_right _ _) ?_
    unfold cc
    rw [if_pos U]
   by_cases h6:(aD s.b.ah c.eP).aq<aQ val s.b c.read
   ·
    exact⟨1,_,by unfold cc;rw [if_neg h1,if_neg o,if_neg z,hc];simp only;rw [if_neg C,if_pos h6]⟩
   obtain⟨f2,p,hp⟩:=F (eQ aa s*200000000+(200000000 - (n+1))) (by omega) s (n+1) (Nat.le_refl _) (by omega) h B;refine⟨f2+1,p,?_⟩
   unfold cc
   grind
theorem DY(hR:ao aa) {d:Nat}(z:∀s k,Good aa aC s→eU aa k→off aa s≤d→∃f s',hM aa val f s k=some s') (k:Key) :
  ∀(m:Nat) (s:ES) (reads:List Key) (ai:List ByteArray),7 - ai.length≤m→Good aa aC s→ga aa k ai.length→off aa s≤d→∃f s',ei aa val f s k reads ai=some s':=by
 intro m
 induction m with
 | zero=>intro s r a hm _ i _;have:=i.le hR;omega
 | succ m B=>
  intro s reads ai hm j i p
  by_cases h1:s.e≠0
  ·
   exact⟨1,s,by unfold ei;rw [if_pos h1]⟩
  by_cases h:(bC aa k ai).done=true
  ·
   by_cases y:(!(ay s.b.ah k).isSome && decide (4000≤s.b.ah.length))=true
   ·
    exact⟨1,_,by unfold ei;rw [if_neg h1,if_pos h,if_pos y]⟩
   exact⟨1,_,by unfold ei;rw [if_neg h1,if_pos h,if_neg y]⟩
  have hn:=i.next hR (by simpa using h);obtain⟨f,t,ht⟩:=z s _ j hn.2 p;obtain⟨C,_,_⟩:=(fR (val:=val) hR f).1 _ _ _ ht j hn.2;have D:=((bM (val:=val) hR f).1 _ _ _ ht j hn.2).1
  by_cases o:t.e=0
  ·
   obtain⟨f2,s',F⟩:=B t (reads++[(bC aa k ai).ask]) (ai++[dm val t.b (bC aa k ai).ask]) (by simp;omega) D (by simpa using hn.1) (by rw [C.off];exact p);refine⟨max f f2+1,s',?_⟩
   unfold ei
   rw [if_neg h1,if_neg h,lu (Nat.le_max_left _ _) ht];simp only [Option.bind_some];rw [if_pos o]
   grind [qE,Nat.le_max_right]
  refine⟨max f 1+1,t,?_⟩
  unfold ei
  rw [if_neg h1,if_neg h,lu (Nat.le_max_left _ _) ht];simp only [Option.bind_some];rw [if_neg o];refine qE (f:=1) (Nat.le_max_right _ _) ?_
  unfold ei
  rw [if_pos o]
theorem GC(hR:ao aa):∀(d:Nat) (s:ES) (k:Key),Good aa aC s→eU aa k→off aa s≤d→∃f s',hM aa val f s k=some s':=by
 intro d
 induction d with
 | zero=>
  intro s k p hk G
  by_cases h1:s.e≠0∨aw k=true
  ·
   exact⟨1,s,by unfold hM;rw [if_pos h1]⟩
  by_cases h:aI s.b k=true
  ·
   exact⟨1,s,by unfold hM;rw [if_neg h1,if_pos h]⟩
  by_cases o:s.on k=true
  ·
   by_cases y:aA k=true
   ·
    exact⟨1,s,by unfold hM;grind⟩
   exact⟨1,_,by unfold hM;rw [if_neg h1,if_neg h,if_pos o,if_neg y]⟩
  exfalso
  obtain⟨i,hi,z,_⟩:=hk.gu (by simp at h1;exact h1.2)
  have:off aa {s with busy:=bY s.busy k (.bool true)}+1≤off aa s:=by
   refine qC (j:=i) (fun j _ I=>?_) hi ?_ ?_
   ·
    grind [kN]
   ·
    rw [← z];simpa using o
   grind [kN]
  omega
 | succ d C=>
  intro s k p hk G
  by_cases h1:s.e≠0∨aw k=true
  ·
   exact⟨1,s,by unfold hM;rw [if_pos h1]⟩
  by_cases h:aI s.b k=true
  ·
   exact⟨1,s,by unfold hM;rw [if_neg h1,if_pos h]⟩
  by_cases o:s.on k=true
  ·
   by_cases y:aA k=true
   ·
    exact⟨1,s,by unfold hM;grind⟩
   exact⟨1,_,by unfold hM;rw [if_neg h1,if_neg h,if_pos o,if_neg y]⟩
  have D:aw k=false:=by simp at h1;exact h1.2
  obtain⟨i,hi,z,_⟩:=hk.gu D
  have Q:off aa {s with busy:=bY s.busy k (.bool true)}+1≤off aa s:=by
   refine qC (j:=i) (fun j _ I=>?_) hi ?_ ?_
   ·
    grind [kN]
   ·
    rw [← z];simpa using o
   grind [kN]
  obtain⟨f,⟨s2,b2⟩,B⟩:=zg (val:=val) hR C k _ {s with busy:=bY s.busy k (.bool true)} 0 (Nat.le_refl _) (by omega) (p.on k) (by omega);have J:=((bM (val:=val) hR f).2.1 _ _ _ _ _ B (p.on k)).1;have O:=((fR (val:=val) hR f).2.1 _ _ _ _ _ B (p.on k)).1
  cases b2 with
  | false=>
   refine⟨f+1,{s2 with busy:=fF s2.busy k},?_⟩
   unfold hM
   grind
  | true=>
   obtain⟨f2,F,U⟩:=DY (val:=val) hR C k _ s2 [] [] (Nat.le_refl _) J (hk.gu D) (by rw [O.off];omega);refine⟨max f f2+1,{F with busy:=fF F.busy k},?_⟩
   unfold hM
   rw [if_neg h1,if_neg h,if_neg o,my (Nat.le_max_left _ _) B];simp only [Option.bind_some,if_true]
   grind [qE,Nat.le_max_right]
end
end Go.Rc

namespace Go.Rc
open Go
noncomputable def cD(aa:List az) (val:Key→ByteArray) (f:Nat):ES→List Key→Option ES
 | s,[]=>some s
 | s,k::r=>(hM aa val f s k).bind fun t=>cD aa val f t r
def ES.base(s:ES) (x:cI):cI:=if s.e=0 then s.b else x
noncomputable def ES.list(s:ES):List Key:=if s.e=0 then iv s.cw else []
theorem mz{aa:List az}{aC:List ca}{val:Key→ByteArray}(hR:ao aa) {f:Nat}:∀{l:List Key}{s s':ES},cD aa val f s l=some s'→Good aa aC s→(∀k∈l,eU aa k)→Good aa aC s'∧Ba s s'
 | [],s,s',h,i,_=>by simp only [cD,Option.some.injEq] at h;subst h;exact⟨i,.refl _⟩
 | k::r,s,s',h,i,hk=>by
  simp only [cD] at h;obtain⟨t,h1,p⟩:=Option.bind_eq_some_iff.1 h;have j:=(bM (val:=val) hR f).1 _ _ _ h1 i (hk k (by simp))
  have o:=mz hR p j.1 fun k y=>hk k (by simp [y])
  exact⟨o.1,j.2.trans o.2⟩
theorem St.Up{κ:Type}{enc:κ→Value}{w0 w:World}{M Z:Nat→Prop}{l:List As}{s m T:Nat}{cs:List Value}{q:List (κ × Value)}(h:St w0 M Z w (As.blk s T cs::As.map enc m q::l)):s≠m:=fun e=>by
 have h1:=(List.pairwise_cons.1 h.oL).1 (As.map enc m q) (by simp) s rfl;exact h1 e
end Go.Rc

namespace Go.Rc
open Go
/-! ### the order of keys -/
theorem tD:∀a b:List UInt8,Lib.compareBytes b a = - Lib.compareBytes a b
 | [],[]=>rfl
 | [],_::_=>rfl
 | _::_,[]=>rfl
 | x::a,y::b=>by
  simp only [Lib.compareBytes]
  by_cases h1:x<y
  ·
   grind
  by_cases f:y<x
  ·
   grind
  rw [if_neg f,if_neg h1,if_neg h1,if_neg f,tD a b]
theorem qF:∀a b c:List UInt8,Lib.compareBytes a b<0→Lib.compareBytes b c<0→Lib.compareBytes a c<0
 | _,[],[],_,h=>by simp [Lib.compareBytes] at h
 | [],[],_::_,h,_=>by simp [Lib.compareBytes] at h
 | _::_,[],_::_,h,_=>by simp [Lib.compareBytes] at h
 | _,_::_,[],_,h=>by simp [Lib.compareBytes] at h
 | [],_::_,_::_,_,_=>by simp [Lib.compareBytes]
 | x::a,y::b,z::c,h1,f=>by
  simp only [Lib.compareBytes] at h1 f ⊢
  by_cases e1:x<y
  ·
   grind
  rw [if_neg e1] at h1
  by_cases i:y<x
  ·
   rw [if_pos i] at h1;simp at h1
  rw [if_neg i] at h1
  by_cases e2:y<z
  ·
   grind
  rw [if_neg e2] at f
  by_cases e4:z<y
  ·
   rw [if_pos e4] at f;simp at f
  rw [if_neg e4] at f;rw [if_neg (by grind),if_neg (by grind)];exact qF a b c h1 f
theorem gG(a b:Key):bm b a = - bm a b:=by
 unfold bm
 by_cases h1:a.kind<b.kind
 ·
  grind
 by_cases f:b.kind<a.kind
 ·
  grind
 rw [if_neg f,if_neg h1,if_neg h1,if_neg f,tD]
theorem fK{a b c:Key}(h1:bm a b<0) (f:bm b c<0):bm a c<0:=by
 unfold bm at h1 f ⊢
 by_cases e1:a.kind<b.kind
 ·
  grind
 rw [if_neg e1] at h1
 by_cases e4:b.kind<a.kind
 ·
  rw [if_pos e4] at h1;simp at h1
 rw [if_neg e4] at h1
 by_cases e2:b.kind<c.kind
 ·
  rw [if_pos (by omega)];decide
 rw [if_neg e2] at f
 by_cases h:c.kind<b.kind
 ·
  rw [if_pos h] at f;simp at f
 rw [if_neg h] at f;rw [if_neg (by omega),if_neg (by omega)];exact qF _ _ _ h1 f
def pA(l:List Rec):Prop:=l.Pairwise fun a b=>bm a.key b.key<0
theorem qG(r:Rec):∀l:List Rec,dG r l true=l.filter fun x=>!decide (bm x.key r.key=0)
 | []=>rfl
 | x::xs=>by
  simp only [dG,Bool.not_true,Bool.and_false,Bool.false_eq_true,if_false,Bool.true_or,List.nil_append,qG r xs,List.filter_cons]
  grind
theorem pA.put{r:Rec}:∀{l:List Rec},pA l→pA (eA l r)
 | [],_=>by simp [pA,eA,dG]
 | x::xs,h=>by
  obtain⟨h1,f⟩:=List.pairwise_cons.1 h;have j:pA (eA xs r):=pA.put f;have i:pA (xs.filter fun y=>!decide (bm y.key r.key=0)):=List.Pairwise.filter _ f
  show pA (dG r (x::xs) false)
  simp only [dG,Bool.not_false,Bool.and_true,Bool.false_or]
  by_cases c1:bm x.key r.key<0
  ·
   rw [decide_eq_false (show ¬0≤bm x.key r.key by omega),if_neg (show ¬bm x.key r.key=0 by omega)];simp only [Bool.false_eq_true,if_false,List.nil_append,List.singleton_append];refine List.pairwise_cons.2 ⟨fun y hy=>?_,j⟩
   grind [eN]
  rw [decide_eq_true (show 0≤bm x.key r.key by omega),qG];simp only [if_true]
  by_cases c2:bm x.key r.key=0
  ·
   rw [if_pos c2];simp only [List.append_nil,List.singleton_append];refine List.pairwise_cons.2 ⟨fun y hy=>?_,i⟩
   grind [jZ]
  rw [if_neg c2];simp only [List.singleton_append,List.cons_append]
  have c3:bm r.key x.key<0:=by rw [gG x.key r.key];omega
  refine List.pairwise_cons.2 ⟨fun y hy=>?_,List.pairwise_cons.2 ⟨fun y hy=>h1 y (List.mem_filter.1 hy).1,i⟩⟩
  grind [fK]
theorem pA.kH{l:List Rec}(h:pA l) (hn:l.length≤4000) (j:∀r∈l,dH r=true):kH l:=by
 refine⟨hn,fun i x f=>⟨j x (List.mem_of_getElem? f),fun hi=>?_⟩⟩;obtain⟨hl,rfl⟩:=List.getElem?_eq_some_iff.1 f;rw [getElem!_pos l (i - 1) (by omega)];exact List.pairwise_iff_getElem.1 h (i - 1) i (by omega) hl (by omega)
/-! ### values are short -/
section
variable {aa:List az}{aC:List ca}
theorem tE{n:Nat}(h:n≤65535):(itoa (n:Int)).size≤6:=by
 have e:Lib.itoa (n:Int)=Lib.decDigits n:=by unfold Lib.itoa;rw [if_neg (by omega)];rfl
 grind [itoa,Lib.decDigits,ByteArray.size]
theorem zh(hR:ao aa) {i:Nat}(hi:i<aa.length):∃n:Nat,n≤65535∧valOf aa aC (aH aa (i:Int))=itoa (n:Int):=by
 have h1:=fI (aC:=aC) hR hi;rw [fb hR hi (eJ _ _ _).2] at h1;have hc:=ao.hb hR _ (List.getElem_mem hi);refine⟨_,lk (kind:=aa[i].final) (c:=aa[i].c.toNat) (l:=(dT (cm aa (aH aa (i:Int))) (valOf aa aC) (cH aa i)).2.map bZ) (by omega) (fun x f=>?_),?_⟩
 ·
  grind [iM]
 grind
theorem DZ(hR:ao aa) {i:Nat}(hi:aa.length≤i):pz aa aC i=⟨#[]⟩:=by
 have hk:aH aa (i:Int)=aW:=by unfold aH;rw [if_pos (by omega)]
 unfold pz nh
 rw [if_neg (by rw [jO hi];simp),hk]
 unfold cm
 rw [if_pos (.inl (by unfold number aW;simp))]
theorem zi(hR:ao aa) (hi:∀x∈aC,x.value.size≤1000) (k:Key):(valOf aa aC k).size≤1000:=by
 by_cases hk:aw k=true
 ·
  unfold valOf cellOf
  rw [if_pos hk]
  unfold bw
  cases f:aC.find? fun x=>x.key == k with
  | none=>simp [ByteArray.size]
  | some x=>grind
 have e:valOf aa aC k=pz aa aC (number k).toNat:=by unfold valOf;rw [if_neg hk]
 rw [e]
 rcases Nat.lt_or_ge (number k).toNat aa.length with h | h
 ·
  rw [← fm hR h];obtain⟨n,hn,i⟩:=zh (aC:=aC) hR h
  grind [tE]
 grind [DZ,ByteArray.size]
theorem qH(aa:List az) (aC:List ca) (i:Nat):(da aa aC i).length=cH aa i:=(eJ _ _ _).1
theorem qI(hR:ao aa) {i:Nat}(hi:i<aa.length):∀a∈da aa aC i,dI aa i a:=by
 have key:∀n,n≤cH aa i→∀a∈(dT (cm aa (aH aa (i:Int))) (valOf aa aC) n).1,dI aa i a:=by
  intro n
  induction n with
  | zero=>intro _ a f;simp [dT] at f
  | succ n h=>grind [dT,dq,eJ]
 exact key _ (Nat.le_refl _)
theorem eU.valid{k:Key}(h:eU aa k):dW k=true:=by
 cases h with
 | cell h=>
  rename_i n
  have hc:bB (n:Int)=⟨30,itoa (n:Int)⟩:=by unfold bB;rw [if_neg (by omega)]
  rw [hc]
  unfold dW number
  simp only [];rw [if_pos (by omega)]
  grind [hY]
 | fl h gR=>
  rename_i i
  have h1:=bE h gR;have f:=dn h gR
  unfold dW
  grind
end
section
variable {aa:List az}{aC:List ca}{s t:ES}{k:Key}
theorem aT{l:List Rec}{r:Rec}(h:ay l k=some r):r∈l∧r.key=k:=by grind [ay]
def sk(aa:List az) (j:Nat):Nat:=if ax aa j then bd aa j else j
def Lw(aa:List az) (i b:Nat):Prop:=if ax aa i then bd aa i≤b else i<b
def Uq(aa:List az) (s:ES) (i:Nat):Prop:=∀j:Nat,j<aa.length→s.on (aH aa (j:Int))=true→Lw aa i (sk aa j)
def Na(aa:List az) (s:ES) (i:Nat):Prop:=∀j:Nat,j<aa.length→s.on (aH aa (j:Int))=true→j=i∨Lw aa i (sk aa j)
theorem Bf(hR:ao aa) {i:Nat}(hi:i<aa.length) {ai:List ByteArray}(hn:ai.length<cH aa i) :
  ∃a,cm aa (aH aa (i:Int)) ai=⟨false,⟨#[]⟩,a⟩∧dI aa i a∧∀m:Nat,m<aa.length→a=aH aa (m:Int)→Lw aa m (sk aa i)∧∀b,Lw aa i b→Lw aa m b:=by
 have J:=hR.len;obtain⟨a,h1,f,j⟩:=dq hR hi hn;refine⟨a,h1,f,fun m hm o=>?_⟩;have hb:=eD aa m
 cases hr:ax aa i with
 | false=>
  have O:m<i:=by
   rcases f with⟨n,h,rfl⟩ | ⟨p,h,rfl,_,y,_⟩
   ·
    grind [aZ,bT]
   grind [dy]
  unfold Lw sk
  grind
 | true=>
  unfold Lw sk
  rw [hr];simp only [if_true]
  cases Q:ax aa m with
  | false=>
   have U:m<bd aa i:=by
    rcases f with⟨n,h,rfl⟩ | ⟨p,h,rfl,_,_,_,y⟩
    ·
     grind [aZ,bT]
    grind [dy]
   grind
  | true=>
   obtain⟨x,z,B⟩:=j hr;have C:=List.mem_of_getElem? z
   have D:outside aa x=false:=by grind [gB,bf]
   obtain⟨V,F,G,I⟩:=fH hR hi hr C D
   have:=dy hR I hm (G.symm.trans (B.symm.trans o))
   subst this;have W:=ir hR (cq.step cq.refl F)
   grind
end
end Go.Rc

namespace Go.Rc
open Go
theorem eG(x:Rec):dH x=true↔(∀a∈x.reads,dW a=true)∧dW x.key=true∧aw x.key=false∧(x.value.size:Int)≤1073741824∧(x.reads.length:Int)≤4000∧0≤x.changed∧x.changed≤x.aq∧x.aq≤1073741824∧1≤x.cost∧x.cost≤1073741824∧(x.bq=false∨aA x.key=true):=by
 unfold dH eB
 grind
structure tF (s:ES):Prop where
 st:pA s.b.ah
 v:∀r∈s.b.ah,dH r=true∧r.aq≤s.b.ad
 r0:0≤s.b.ad
 r1:s.b.ad≤1073741824
section
variable {aa:List az}{aC:List ca}{val:Key→ByteArray}{s t:ES}{k:Key}
theorem pA.map{l:List Rec}(h:pA l) {f:Rec→Rec}(i:∀r,(f r).key=r.key):pA (l.map f):=by grind [pA]
theorem tF.Ol(h:tF s) (g:List Key):tF {s with b:=cU s.b g false}:=by
 refine⟨h.st.map fun r=>(ck _ _ _ r).1,fun r hr=>?_,h.r0,h.r1⟩;obtain⟨q,o,rfl⟩:=List.mem_map.1 hr;obtain⟨h1,p⟩:=h.v q o;have h0:=h.r0;have y:=h.r1
 unfold bH
 by_cases hk:q.key∈g
 ·
  rw [if_pos hk];simp only [Bool.false_eq_true,if_false];rw [eG] at h1 ⊢;obtain⟨a,b,c,d,e,f,g,i,j,k,l⟩:=h1;exact⟨⟨a,b,c,d,e,f,by grind,y,j,k,l⟩,Int.le_refl _⟩
 rw [if_neg hk];exact⟨h1,p⟩
theorem tF.Om(h:tF s) {g:List Key}(hc:∀x∈g,aA x=true):tF {s with b:=cU s.b g true}:=by
 refine⟨h.st.map fun r=>(ck _ _ _ r).1,fun r hr=>?_,h.r0,h.r1⟩;obtain⟨q,p,rfl⟩:=List.mem_map.1 hr;obtain⟨h1,o⟩:=h.v q p
 unfold bH
 by_cases hk:q.key∈g
 ·
  rw [if_pos hk];simp only [if_true];rw [eG] at h1 ⊢;obtain⟨a,b,c,d,e,f,g,i,j,k,l⟩:=h1;exact⟨⟨a,b,c,d,e,f,g,i,j,k,.inr (hc _ hk)⟩,o⟩
 rw [if_neg hk];exact⟨h1,o⟩
theorem zj{l:List Rec}{rev:Int}(hk:aA k=true):∀x∈aB l rev k,aA x=true:=fun x f=>by
 unfold aB at f
 split at f
 ·
  rw [oa,List.mem_cons] at f
  rcases f with rfl | f
  ·
   exact hk
  obtain⟨r,hr,rfl⟩:=List.mem_map.1 f
  have:=(List.mem_filter.1 hr).2
  unfold wY at this
  simp only [Bool.and_eq_true] at this;have h:=(iw.1 this.2.1).eQ
  unfold bD at h
  grind
 grind
theorem tF.put(h:tF s) {r:Rec}{cw:List Key}(i:dH r=true) (hr:r.aq≤s.b.ad):tF {s with b:={s.b with ah:=eA s.b.ah r},cw:=cw}:=
 ⟨h.st.put,fun q f=>by rcases eN _ _ _ _ f with rfl | f;exact⟨i,hr⟩;exact h.v q f,h.r0,h.r1⟩
theorem B9(hR:ao aa) {ai:List ByteArray}(h:ga aa k ai.length) (f:(bC aa k ai).done=true):(bC aa k ai).value.size≤6:=by
 obtain⟨i,hi,rfl,hn⟩:=h;have j:=hR.len;rw [eE hi (by omega)] at f ⊢
 rcases Nat.lt_or_ge ai.length (cH aa i) with o | p
 ·
  grind [dq]
 rw [fb hR hi (by omega)];have hc:=ao.hb hR _ (List.getElem_mem hi);exact tE (lk (by omega) fun x y=>by grind [iM])
theorem zk(hR:ao aa) (h:tF s) {ai:List ByteArray}{reads:List Key}(f:ga aa k ai.length) (p:(bC aa k ai).done=true) (hl:reads.length=ai.length) (hr:∀a∈reads,eU aa a) :
  dH (cZ s.b k (bC aa k ai).value reads)=true:=by
 have B:=f.le hR;have C:=B9 hR f p;have h0:=h.r0;have h1:=h.r1;rw [eG]
 unfold cZ
 have y:∀c:Int,(c=if (ay s.b.ah k).isSome && decide ((aD s.b.ah k).value=(bC aa k ai).value) then (aD s.b.ah k).changed else s.b.ad)→0≤c∧c≤s.b.ad:=fun c hc=>by
  split at hc
  ·
   rename_i i
   simp only [Bool.and_eq_true] at i;obtain⟨r,z⟩:=Option.isSome_iff_exists.1 i.1;have hm:=(aT z).1;obtain⟨j,o⟩:=h.v r hm
   grind [eG,aD]
  omega
 obtain⟨j,o⟩:=y _ rfl;exact⟨fun a hm=>(hr a hm).valid,(f.Il hR).valid,(f.not hR).2,by grind,by grind,j,o,h1,by grind,by grind,.inl rfl⟩
def UpO(aa:List az) (val:Key→ByteArray) (aC:List ca) (f:Nat):Prop:=∀s k s',hM aa val f s k=some s'→Good aa aC s→tF s→eU aa k→tF s'
def ChO(aa:List az) (val:Key→ByteArray) (aC:List ca) (f:Nat):Prop:=∀s k n s' b,cc aa val f s k n=some (s',b)→Good aa aC s→tF s→tF s'
def RuO(aa:List az) (val:Key→ByteArray) (aC:List ca) (f:Nat):Prop:=∀s k reads ai s',ei aa val f s k reads ai=some s'→Good aa aC s→tF s→ga aa k ai.length→reads.length=ai.length→(∀a∈reads,eU aa a)→tF s'
theorem Ca(hR:ao aa):∀f,UpO aa val aC f∧ChO aa val aC f∧RuO aa val aC f:=by
 intro f
 induction f with
 | zero=>exact⟨fun s k s' h=>by simp [hM] at h,fun s k n s' b h=>by simp [cc] at h,fun s k r a s' h=>by simp [ei] at h⟩
 | succ f I=>
  obtain⟨F,B,C⟩:=I;have gd:=bM (val:=val) (aC:=aC) hR f;refine⟨?_,?_,?_⟩
  ·
   intro s k s' h j i hk
   unfold hM at h
   split at h
   ·
    cases h;exact i
   rename_i he
   split at h
   ·
    cases h;exact i
   split at h
   ·
    split at h <;> cases h
    ·
     exact i
    exact⟨i.st,i.v,i.r0,i.r1⟩
   obtain⟨p,G,h⟩:=Option.bind_eq_some_iff.1 h;obtain⟨t,ht,h⟩:=Option.bind_eq_some_iff.1 h
   cases h
   have h1:=B _ _ _ p.1 p.2 (by rw [G]) (j.on k) ⟨i.st,i.v,i.r0,i.r1⟩;have y:=(gd.2.1 _ _ _ p.1 p.2 (by rw [G]) (j.on k)).1
   have z:tF t:=by
    split at ht
    ·
     exact C _ _ _ _ _ ht y h1 (hk.gu (by simp at he;exact he.2)) rfl (fun a o=>by cases o)
    cases ht;exact h1
   exact⟨z.st,z.v,z.r0,z.r1⟩
  ·
   intro s k n s' b h j i
   unfold cc at h
   split at h
   ·
    cases h;exact i
   split at h
   ·
    cases h;exact i
   split at h
   ·
    cases h;exact i
   split at h
   ·
    cases h;exact i.Ol _
   rename_i c hc
   split at h
   ·
    obtain⟨t,ht,h⟩:=Option.bind_eq_some_iff.1 h;have h1:=F _ _ _ ht j i (fc j hc);exact B _ _ _ _ _ h (gd.1 _ _ _ ht j (fc j hc)).1 h1
   split at h
   ·
    split at h
    ·
     rename_i J
     cases h
     exact i.Om (zj J)
    cases h;exact i
   exact B _ _ _ _ _ h j i
  intro s k reads ai s' h j i o hl hr
  unfold ei at h
  split at h
  ·
   cases h;exact i
  split at h
  ·
   rename_i D
   split at h
   ·
    cases h;exact⟨i.st,i.v,i.r0,i.r1⟩
   cases h
   exact i.put (zk hR i o D hl hr) (Int.le_refl _)
  rename_i D
  obtain⟨t,ht,h⟩:=Option.bind_eq_some_iff.1 h;have hn:=o.next hR (by simpa using D);have h1:=F _ _ _ ht j i hn.2;have y:=(gd.1 _ _ _ ht j hn.2).1
  split at h
  ·
   exact C _ _ _ _ _ h y h1 (by simpa using hn.1) (by simp [hl]) (fun a o=>by grind)
  exact C _ _ _ _ _ h y h1 o hl hr
theorem xd(hR:ao aa) {f:Nat}:∀{l:List Key}{s s':ES},cD aa val f s l=some s'→Good aa aC s→tF s→(∀k∈l,eU aa k)→tF s'
 | [],s,s',h,_,i,_=>by grind [cD]
 | k::r,s,s',h,j,i,hk=>by
  simp only [cD] at h;obtain⟨t,h1,o⟩:=Option.bind_eq_some_iff.1 h
  exact xd hR o ((bM (val:=val) hR f).1 _ _ _ h1 j (hk k (by simp))).1 ((Ca hR f).1 _ _ _ h1 j i (hk k (by simp))) fun k p=>hk k (by simp [p])
end
end Go.Rc

namespace Go.Rc
open Go
theorem zl{α:Type}{R:α→α→Prop}(ht:∀a b c,R a b→R b c→R a c) {l:List α}(h:∀(i:Nat) (hi:i+1<l.length),R (l[i]'(by omega)) l[i+1]):l.Pairwise R:=by
 refine List.pairwise_iff_getElem.2 fun i j hi f o=>?_;obtain⟨d,rfl⟩:∃d,j=i+1+d:=⟨j - (i+1),by omega⟩
 induction d with
 | zero=>exact h i f
 | succ d p=>grind
def pB(l:List ca):Prop:=l.Pairwise fun a b=>bm a.key b.key<0
def GD(rev:Int) (x:ca):Prop:=dW x.key=true∧aw x.key=true∧(x.value.size:Int)≤1073741824∧0≤x.changed∧x.changed≤rev
theorem zm{rev:Int}{l:List ca}:uP rev l↔pB l∧∀x∈l,GD rev x:=by
 constructor
 ·
  intro h
  have h1:∀(i:Nat) (hi:i<l.length),GD rev l[i]∧(0<i→bm (l[i - 1]!).key l[i].key<0):=fun i hi=>by
   have j:=h i _ (ae hi)
   unfold fG at j
   simp only [getElem!_pos l i hi,Bool.or_eq_false_iff,Bool.not_eq_false',Bool.and_eq_false_iff,decide_eq_false_iff_not] at j;obtain⟨a,b,c,d,e,f⟩:=j;exact⟨⟨a,b,by omega,by omega,by omega⟩,fun h0=>by rcases c with c | c <;> omega⟩
  refine⟨zl (R:=fun a b:ca=>bm a.key b.key<0) (fun a b c h k=>fK h k) fun i hi=>?_,fun x o=>?_⟩
  ·
   grind
  grind [List.mem_iff_getElem]
 rintro⟨h1,j⟩ i y hy;obtain⟨hi,rfl⟩:=List.getElem?_eq_some_iff.1 hy;obtain⟨a,b,c,d,e⟩:=j _ (List.getElem_mem hi)
 unfold fG
 simp only [getElem!_pos l i hi,Bool.or_eq_false_iff,Bool.not_eq_false',Bool.and_eq_false_iff,decide_eq_false_iff_not];refine⟨a,b,?_,by omega,by omega,by omega⟩
 by_cases h0:0<i
 ·
  right
  rw [getElem!_pos l (i - 1) (by omega)]
  have:=List.pairwise_iff_getElem.1 h1 (i - 1) i (by omega) hi (by omega)
  omega
 left
 omega
def et(n:ca):List ca→Bool→List ca
 | [],put=>if put then [] else [n]
 | x::xs,put=>(if decide (0≤bm x.key n.key) && !put then [n] else [])++(if bm x.key n.key=0 then [] else [x])++et n xs (put || decide (0≤bm x.key n.key))
theorem qJ(n:ca):∀(l:List ca) (b:Bool) (x:ca),x∈et n l b→x=n∨x∈l:=by
 intro l
 induction l with
 | nil=>grind [et]
 | cons y f h=>grind [et]
theorem oc(n:ca):∀l:List ca,et n l true=l.filter fun x=>!decide (bm x.key n.key=0)
 | []=>rfl
 | x::xs=>by
  simp only [et,Bool.not_true,Bool.and_false,Bool.false_eq_true,if_false,Bool.true_or,List.nil_append,oc n xs,List.filter_cons]
  grind
theorem kP(n:ca):∀(l:List ca) (b:Bool),(et n l b).length≤l.length+1
 | [],b=>by cases b <;> simp [et]
 | x::xs,b=>by
  by_cases h:(decide (0≤bm x.key n.key) && !b)=true
  ·
   have hb:(b || decide (0≤bm x.key n.key))=true:=by simp at h;simp [h.1]
   simp only [et,List.length_append,List.length_cons];rw [if_pos h,hb,oc]
   grind
  have f:=kP n xs (b || decide (0≤bm x.key n.key));simp only [et,List.length_append,List.length_cons]
  grind
theorem pB.put{n:ca}:∀{l:List ca},pB l→pB (et n l false)
 | [],_=>by simp [pB,et]
 | x::xs,h=>by
  obtain⟨h1,f⟩:=List.pairwise_cons.1 h;have j:pB (et n xs false):=pB.put f;have i:pB (xs.filter fun y=>!decide (bm y.key n.key=0)):=List.Pairwise.filter _ f
  show pB (et n (x::xs) false)
  simp only [et,Bool.not_false,Bool.and_true,Bool.false_or]
  by_cases c1:bm x.key n.key<0
  ·
   rw [decide_eq_false (show ¬0≤bm x.key n.key by omega),if_neg (show ¬bm x.key n.key=0 by omega)];simp only [Bool.false_eq_true,if_false,List.nil_append,List.singleton_append];refine List.pairwise_cons.2 ⟨fun y hy=>?_,j⟩
   grind [qJ]
  rw [decide_eq_true (show 0≤bm x.key n.key by omega),oc];simp only [if_true]
  by_cases c2:bm x.key n.key=0
  ·
   rw [if_pos c2];simp only [List.append_nil,List.singleton_append];refine List.pairwise_cons.2 ⟨fun y hy=>?_,i⟩
   grind [jZ]
  rw [if_neg c2];simp only [List.singleton_append,List.cons_append]
  have c3:bm n.key x.key<0:=by rw [gG x.key n.key];omega
  refine List.pairwise_cons.2 ⟨fun y hy=>?_,List.pairwise_cons.2 ⟨fun y hy=>h1 y (List.mem_filter.1 hy).1,i⟩⟩
  grind [fK]
end Go.Rc

namespace Go.Rc
open Go
end Go.Rc
namespace Go.Rc
open Go
def Ur(i:Nat) (v:ByteArray):Rec:=⟨⟨31,itoa i⟩,v,[],0,0,1,false⟩
def tH{α:Type}(l:List α) (p:α→Bool) (j:Int):Prop:=(∃i:Nat,∃x,l[i]?=some x∧p x=true∧(∀j x,j<i→l[j]?=some x→p x=false)∧j=i)∨((∀x∈l,p x=false)∧j = -1)
end Go.Rc
namespace Go.Rc
open Go
structure WD where
 (ar a1 a2:Option Addr) (r cr n1 c1 n2 c2 m v:Nat)
end Go.Rc

namespace Go.Rc
open Go
def sn(a b:Int):Int:=if a<b then -1 else if b<a then 1 else 0
def JP(l:List Int):Int:=(l.find? fun x=>decide (x≠0)).getD 0
theorem JQ{l:List Int}{i:Nat}(hi:i<l.length) (f:∀j x,j<i→l[j]?=some x→x=0) (h:l[i]≠0):JP l=l[i]:=by grind [JP,gN]
theorem GF{l:List Int}(h:∀x∈l,x=0):JP l=0:=by grind [JP,List.find?_eq_none]
theorem GG{a b:Key}:JP [sn a.kind b.kind,Lib.compareBytes a.text.data.toList b.text.data.toList]=bm a b:=by
 unfold JP sn bm
 grind
theorem xe{α:Type}{R:α→List Value→Prop}{x y:α}{r s:List Value}(h1:R x r) (f:R y s):∀(i:Nat) (z:α) (t:List Value),[x,y][i]?=some z→[r,s][i]?=some t→R z t:=fun i z t h ht=>by grind
theorem eU.shape{aa:List az}{k:Key}(h:eU aa k):∃i:Nat,i≤99∧k.text=itoa i∧(30≤k.kind∧k.kind≤32):=by
 cases h with
 | cell h=>rename_i n;exact⟨n,h,by unfold bB;rw [if_neg (by omega)],by unfold bB;rw [if_neg (by omega)];simp⟩
 | fl h gR=>rename_i i;exact⟨i,gR,by unfold aH;rw [if_neg (by omega)],by grind [dn]⟩
theorem eU.eC{aa:List az}{k:Key}(h:eU aa k):eC k:=by
 obtain⟨_,_,_,h1⟩:=h.shape;exact .inr (by omega)
theorem nk{aa:List az}{k:Key}(h:eU aa k) (hc:aA k=true):k.kind=32:=by
 cases h with
 | cell h=>grind [iq]
 | fl h gR=>grind [bf,dn]
theorem tH.any{α:Type}{l:List α}{p:α→Bool}{j:Int}(h:tH l p j):decide (0≤j)=l.any p:=by
 rcases h with⟨i,x,h1,f,_,rfl⟩ | ⟨h1,rfl⟩
 ·
  grind
 grind
def D0(aa:List az) (x:Rec):Prop:=eU aa x.key∧aw x.key=false∧(∀a∈x.reads,eU aa a)∧dH x=true
def kQ(aa:List az) (x:cI):Prop:=0≤x.ad∧x.ad≤1073741824∧(pB x.ab∧∀y∈x.ab,GD x.ad y)∧(∀y∈x.ab,∃i:Nat,i≤99∧y.key=⟨30,itoa i⟩)∧x.ab.length≤64∧(∀r∈x.ah,D0 aa r)∧pA x.ah∧x.ah.length≤4000∧∀r∈x.ah,r.aq≤x.ad
end Go.Rc

namespace Go.Rc
open Go
section
variable {l l':List az}
def bJ(l l':List az):Prop:=l.map (·.ring)=l'.map (·.ring)
theorem bJ.len(h:bJ l l'):l.length=l'.length:=by simpa using congrArg List.length h
theorem bJ.rg(h:bJ l l') (i:Nat):ax l i=ax l' i:=by
 have f:=congrArg (fun x=>x[i]?) h
 grind [ax]
theorem bJ.lo(h:bJ l l'):∀k,bd l k=bd l' k
 | 0=>rfl
 | k+1=>by unfold bd;rw [h.rg k,h.lo k]
theorem kg:∀{l l':List az},bJ l l'→(l.takeWhile (·.ring)).length=(l'.takeWhile (·.ring)).length
 | [],[],_=>rfl
 | [],_::_,h=>by simp [bJ] at h
 | _::_,[],h=>by simp [bJ] at h
 | x::r,y::s,h=>by
  simp only [bJ,List.map_cons,List.cons.injEq] at h;have f:=kg (l:=r) (l':=s) h.2
  grind [List.takeWhile_cons]
theorem bJ.hi(h:bJ l l') (m:Nat):cN l m=cN l' m:=by grind [cN,kg,bJ,List.map_drop]
theorem bJ.block(h:bJ l l') (n:Int):block l n=block l' n:=by
 unfold Go.Rc.block
 rw [h.len,h.rg,h.lo,h.hi]
theorem bJ.may(h:bJ l l') (i:Nat) (c:Bool) (n:Int):ef l i c n=ef l' i c n:=by grind [ef,du,rg,block]
theorem bJ.ask(h:bJ l l') (i:Nat) (g:Bool) (k:Nat) (x:Ask):dF l i g k x=dF l' i g k x:=by
 unfold dF
 rw [h.may,h.may]
theorem bJ.fl(h:bJ l l') (i:Nat) (r:az):jR l i r↔jR l' i r:=by
 unfold jR
 simp only [h.ask]
theorem bJ.set{i:Nat}(hi:i<l.length) {r:az}(hr:r.ring=ax l i):bJ (l.set i r) l:=by
 unfold bJ
 rw [List.map_set,hr,bA hi];refine List.ext_getElem? fun j=>?_
 grind
def jc(l:List az) (i:Nat):Prop:=l.length≤8∧∀(j:Nat) (r:az),l[j]?=some r→j<i→jR l j r
theorem jc.start(h:l.length≤8):jc l 0:=⟨h,fun _ _ _ h=>by omega⟩
theorem jc.set{i:Nat}(h:jc l i) (hi:i<l.length) {r:az}(hr:r.ring=ax l i) (p:jR l i r):jc (l.set i r) (i+1):=by
 have o:=bJ.set hi hr;refine⟨by rw [List.length_set];exact h.1,fun j x f y=>?_⟩;rw [o.fl];rw [List.getElem?_set] at f
 split at f
 ·
  grind
 exact h.2 j x f (by omega)
theorem jc.ok(h:jc l l.length):ao l:=⟨by have:=h.1;omega,fun i r hr=>h.2 i r hr (List.getElem?_eq_some_iff.1 hr).1⟩
theorem JR{i k:Nat}{g:Bool}{x:Ask}{most:Int}(hm:most=if x.cell then 4 else du l i) (h0:0≤x.n) (h1:x.n<most) (f:x.pick=true→g=false∧k≠0∧0≤x.yP∧x.yP<most) (he:x.pick=false→x.yP=0):dF l i g k x=true:=by grind [ef,dF]
end
end Go.Rc

namespace Go.Rc
open Go
def As.iy(E d:Nat):As where
 fp x:=x=d
 ok Z w:=yW Z w E d
 lt h x hx:=by subst hx;exact h.lt
 mono hZ h:=by
  obtain⟨l,a,n,c,t,h1,h2,h3⟩:=h;exact⟨l,a,n,c,t,h1,SR.mono h2 (fun b hb _=>hZ b hb) (fun _ _ h=>h),h3⟩
 st hs hc h:=by
  obtain⟨l,a,n,c,t,h1,h2,h3⟩:=h;exact⟨l,a,n,c,t,(As.blk d E _).st (Z:=fun _=>False) hs (fun x hx=>hc x (hx.imp id False.elim)) h1,SR.st hs (fun x hx=>hc x (.inr hx)) (fun _ _ h=>h) h2,h3⟩
theorem As.gd{E d:Nat}{Z:Nat→Prop}{w:World}(h:(As.iy E d).ok Z w):yW Z w E d:=h
def RR.bR:RR Change:=RR.flat Change.cells
def begun(g:Bool):az:=⟨g,[],0,0⟩
theorem Ow.flat{α:Type}{f:α→List Value}{b T k n:Nat}{Z:Nat→Prop}{w:World}{xs:List α}{l:List Value}(h:bN w b T l) (hl:l=(xs.map f).flatten) (hk:∀x∈xs,(f x).length=k) (h1:∀u∈l,u.oneCell'=true) (hn:n=xs.length) (hm:xs.length≤140737488355328) :
  Ow (RR.flat f) T k Z w (some ⟨b,0,none⟩) n n xs:=by
 subst hn hl
 have hlen:∀(j:List α),(∀x∈j,(f x).length=k)→(j.map f).flatten.length=j.length*k:=by
  intro j
  induction j with
  | nil=>simp
  | cons y j p=>grind
 refine⟨rfl,xs.map f,by simp,by simpa using hk,by simpa using OL.blk (k:=k) h (Nat.zero_le _) (m:=xs.length) (hlen xs hk) h1 hm,fun i x r o hr=>?_⟩;rw [List.getElem?_map,o] at hr
 simp at hr
 exact hr.symm
def As.Us{ι:Type}(b T:Nat) (F:ι→List Value):As where
 fp x:=x=b
 ok _ w:=∃i,bN w b T (F i)
 lt h x hx:=by obtain⟨i,h⟩:=h;subst hx;exact h.lt
 mono _ h:=h
 st hs hc h:=by obtain⟨i,h⟩:=h;exact⟨i,(As.blk b T _).st (Z:=fun _=>False) hs (fun x hx=>hc x (hx.imp id False.elim)) h⟩
theorem Ow.ring{E n c i b:Nat}{Z:Nat→Prop}{w:World}{a:Option Addr}{l:List az}(h:Ow RR.fl E 4 Z w a n c l) (o:a=some ⟨b,0,none⟩) (hle:l.length≤140737488355328) (hi:i<l.length):w.rangeAt b (0+i*4) [.bool l[i].ring]:=by
 obtain⟨b',r,h1,_,p,y⟩:=Ow.at h hle (ae hi);rw [o] at h1;simp only [Option.some.injEq,Addr.mk.injEq,and_true] at h1;subst h1;obtain⟨z,B,C,rfl,_⟩:=p;intro j v f
 cases j with
 | zero=>exact y 0 v f
 | succ j=>simp at f
theorem uV(l:List az) (m:Nat) (hm:m≤l.length):cN l m≤l.length:=by grind [cN,List.takeWhile_sublist]
theorem sq{l:List az}{i:Nat}(hi:i<l.length):0≤du l i∧du l i≤l.length:=by
 have h1:=uV l (i+1) (by omega)
 have hb:block l (i:Int)=if ax l i then ((bd l i:Int),(cN l (i+1):Int)) else ((i:Int),(i:Int)+1):=by
  unfold block;grind
 grind [du]
theorem Cb{l:List az}{i:Nat}{g:Bool}{xs:List Ask}{x:Ask}(h:∀(k:Nat) y,xs[k]?=some y→dF l i g k y=true) (f:dF l i g xs.length x=true):∀(k:Nat) y,(xs++[x])[k]?=some y→dF l i g k y=true:=fun k y hy=>by grind
end Go.Rc

namespace Go.Rc
open Go
theorem pA.ne{l:List Rec}(h:pA l) {i:Nat}(hi:i<l.length):∀y∈l.take i,y.key≠l[i].key:=fun y hy e=>by
 obtain⟨j,f,rfl⟩:=List.mem_iff_getElem.1 hy
 have o:j<i:=by simp at f;omega
 have h1:bm l[j].key l[i].key<0:=List.pairwise_iff_getElem.1 h j i (by omega) hi o
 grind [gG]
end Go.Rc

namespace Go.Rc
open Go
section
variable {κ:Type}{enc:κ→Value}
def F1(enc:κ→Value) (w:World) (b m:Nat) (l left:List (κ × Value)) (cur:Option (κ × Value)):Prop:=
 ∃es clock since seen,w.heap[m]?=some (.map es clock)∧(es.toList.map (fun e=>(e.key,e.val))=l.map (fun p=>(enc p.1,p.2))∧(l.map (·.1)).Nodup∧(∀e∈es.toList,e.born<clock)∧(es.toList.map (·.born)).Nodup)∧
  w.heap[b]?=some (.mapIter (some m) since seen clock)∧b≠m∧since≤clock∧(∀e∈es.toList,e.born<since)∧
  (leftOf es seen).toList.map (fun e=>(e.key,e.val))=left.map (fun p=>(enc p.1,p.2))∧
  ∀p,cur=some p→∃e∈es.toList,seen.back?=some e.born∧e.key=enc p.1∧e.val=p.2
variable {w w':World}{b m:Nat}{l left:List (κ × Value)}{cur:Option (κ × Value)}
theorem F1.lt(h:F1 enc w b m l left cur):b<w.heap.size∧m<w.heap.size:=by
 obtain⟨es,clock,since,seen,h1,_,f,_⟩:=h;exact⟨(Array.getElem?_eq_some_iff.1 f).1,(Array.getElem?_eq_some_iff.1 h1).1⟩
def As.S2(enc:κ→Value) (b m:Nat) (l left:List (κ × Value)) (cur:Option (κ × Value)):As where
 fp x:=x=b∨x=m
 ok _ w:=F1 enc w b m l left cur
 lt h x hx:=by rcases hx with rfl | rfl;exact h.lt.1;exact h.lt.2
 mono _ h:=h
 st hs hc h:=by
  have hl:=h.lt;obtain⟨es,clock,since,seen,h1,h2,h3,h4⟩:=h;exact⟨es,clock,since,seen,by rw [hc m (.inl (.inr rfl)) hl.2];exact h1,h2,by rw [hc b (.inl (.inl rfl)) hl.1];exact h3,h4⟩
theorem As.On{Z:Nat→Prop}(h:(As.S2 enc b m l left cur).ok Z w):F1 enc w b m l left cur:=h
def tI(enc:κ→Value):Option (κ × Value)→Array Value
 | none=>#[.bool false]
 | some p=>#[.bool true,enc p.1,p.2]
theorem GH(r:Option (κ × Value)):(tI enc r)[0]?=some (.bool r.isSome):=by cases r <;> rfl
theorem kh:∀(L:List MapEntry) (j:Nat) (e:MapEntry),(L.map (·.born)).Nodup→L[j]?=some e→L.filter (fun x=>!(x.born == e.born))=L.eraseIdx j
 | [],_,_,_,h=>by simp at h
 | x::r,0,e,hn,h=>by
  simp at h
  subst h;simp only [List.map_cons,List.nodup_cons] at hn;rw [List.filter_cons];simp only [beq_self_eq_true,Bool.not_true,Bool.false_eq_true,if_false,List.eraseIdx_zero,List.tail_cons];refine List.filter_eq_self.2 fun y hy=>?_
  have:y.born≠x.born:=fun e=>hn.1 (e ▸ List.mem_map.2 ⟨y,hy,rfl⟩)
  simpa using this
 | x::r,j+1,e,hn,h=>by
  simp only [List.map_cons,List.nodup_cons] at hn;simp only [List.getElem?_cons_succ] at h;have f:x.born≠e.born:=fun i=>hn.1 (i ▸ List.mem_map.2 ⟨e,List.mem_of_getElem? h,rfl⟩);rw [List.filter_cons,if_pos (by simpa using f),kh r j e hn.2 h,List.eraseIdx_cons_succ]
theorem xf(es:Array MapEntry) (seen:Array Nat) (b:Nat):(leftOf es (seen.push b)).toList=(leftOf es seen).toList.filter fun x=>!(x.born == b):=by
 unfold leftOf
 rw [Array.toList_filter,Array.toList_filter,List.filter_filter]
 congr 1
 funext x
 rw [Array.contains_push,Bool.not_or,Bool.and_comm]
theorem map_eraseIdx{α β:Type}(f:α→β):∀(l:List α) (j:Nat),(l.eraseIdx j).map f=(l.map f).eraseIdx j
 | [],_=>by simp
 | _::_,0=>by simp
 | x::r,j+1=>by simp [map_eraseIdx f r j]
variable {P:Program}{kv:KV}{n:Nat}{K:KV→World→Prop}{d:Tmp}{ty:TypeId}{pos:String}{af:Array Edge}{g:Option (Nat × Bool)}{T kt e:TypeId}{x:Operand}
theorem OX.range(hT:P.underlying T=some (.map kt e)) (hm:KM enc w m l) (i:ev kv x=some (.map (some m))) (j:Nat.blt d n=true)
  (h:∀b w',aJ [] w w'→w.heap.size≤b→F1 enc w' b m l l none→K ((d,.pointer (some ⟨b,0,none⟩))::kv) w'):OX P ⟨some d,.range T x,ty,pos,af,g⟩ n kv w K:=by
 obtain⟨es,clock,h1,f⟩:=hm;have o:m<w.heap.size:=(Array.getElem?_eq_some_iff.1 h1).1;refine⟨rfl,j,by simp [known,opers,i],?_⟩
 have hr:(execOp (gX kv) ⟨some d,.range T x,ty,pos,af,g⟩).run P w=.ok (.value (.pointer (some ⟨w.heap.size,0,none⟩))) (w.alloc (.mapIter (some m) clock #[] clock)):=by
  simp only [execOp,aF i,Sem.run_bind,run_range_map w T kt e m es clock hT h1,Result.andThen_ok];rfl
 rw [hr];refine h _ _ (ie _ _) (Nat.le_refl _) ⟨es,clock,clock,#[],by rw [heap_alloc_old w _ (h:=o)];exact h1,f,heap_alloc_new _ _,by omega,Nat.le_refl _,f.2.2.1,?_,fun p y=>by cases y⟩
 have:leftOf es #[]=es:=by unfold leftOf;simp
 rw [this];exact f.1
theorem Cc(hm:F1 enc w b m l left cur):∃(r:Option (κ × Value)) (B:List (κ × Value)) (w':World),(Instr.next (.pointer (some ⟨b,0,none⟩)) false ty).run P w=.ok (.tuple (tI enc r)) w'∧aJ [b] w w'∧
  (match r with | none=>left=[]∧B=[] | some p=>∃j,left[j]?=some p∧B=left.eraseIdx j)∧F1 enc w' b m l B r:=by
 obtain⟨es,clock,since,seen,h1,C,f,D,F,h,o,h8⟩:=hm;have V:b<w.heap.size:=(Array.getElem?_eq_some_iff.1 f).1
 have G:∀y∈(leftOf es seen).toList,y∈es.toList:=fun y hy=>by
  unfold leftOf at hy
  rw [Array.toList_filter] at hy;exact(List.mem_filter.1 hy).1
 have O:=next_test_false seen es since clock h F
 have e1:(leftOf es seen).filter (fun x=>decide (x.born<since))=leftOf es seen:=Array.filter_eq_self.2 fun y hy=>by
  have:=h y (G y (by simpa using hy))
  simpa using this
 have e2:(leftOf es seen).filter (fun x=>decide (x.born≥since))=#[]:=by
  rw [Array.filter_eq_empty_iff];intro y hy
  have:=h y (G y (by simpa using hy))
  simp
  omega
 have hlen:(leftOf es seen).size=left.length:=by simpa using congrArg List.length o
 by_cases h0:(leftOf es seen).size=0
 ·
  have W:leftOf es seen=#[]:=Array.eq_empty_of_size_eq_zero h0
  have X:left=[]:=by cases left with
   | nil=>rfl
   | cons a r=>rw [h0] at hlen;simp at hlen
  subst X;refine⟨none,[],w,?_,aJ.refl _ _,⟨rfl,rfl⟩,es,clock,since,seen,h1,C,f,D,F,h,o,fun p z=>by cases z⟩;simp only [Instr.next,getObj,Sem.run_bind,Sem.run,f,h1,Result.andThen,O,Bool.false_eq_true,if_false];rw [show(es.filter fun e=>!seen.contains e.born)=leftOf es seen from rfl,W]
  simp [choose,Sem.run,Question.forced,tI]
 have Y:(leftOf es seen).isEmpty=false:=by simp [Array.isEmpty,h0]
 have se:∃(j:Nat) (w1:World),j<(leftOf es seen).size∧w1.heap=w.heap∧aJ [] w w1∧(choose (Question.mapNext (leftOf es seen).size)).run P w=.ok j w1:=by
  by_cases Q:(leftOf es seen).size≤1
  ·
   exact⟨0,w,by omega,rfl,aJ.refl _ _,by simp [choose,Sem.run,Question.forced,Q]⟩
  exact⟨_,w.drew,Nat.mod_lt _ (by omega),rfl,⟨rfl,rfl,rfl,Nat.le_refl _,Nat.le_succ _,fun _ _ _=>rfl⟩,by
   simp only [choose,Sem.run,Question.forced,decide_eq_true_eq,Q,if_false,Question.cut]
   rfl⟩
 obtain⟨j,w1,hj,I,hc1,qd⟩:=se;obtain⟨y,hy⟩:∃y,(leftOf es seen)[j]?=some y:=⟨_,Array.getElem?_eq_getElem hj⟩
 have J:(leftOf es seen).toList[j]?=some y:=by rw [Array.getElem?_toList];exact hy
 have hye:y∈es.toList:=G y (List.mem_of_getElem? J);obtain⟨p,z⟩:∃p,left[j]?=some p:=⟨_,List.getElem?_eq_getElem (by omega)⟩
 have i:(y.key,y.val)=(enc p.1,p.2):=by
  have:=congrArg (fun x=>x[j]?) o
  simp only [List.getElem?_map,J,z,Option.map_some,Option.some.injEq] at this;exact this
 simp only [Prod.mk.injEq] at i
 have hbn:((leftOf es seen).toList.map (·.born)).Nodup:=by
  unfold leftOf
  rw [Array.toList_filter];exact(List.filter_sublist.map _).nodup C.2.2.2
 refine⟨some p,left.eraseIdx j,{w1 with heap:=w1.heap.setIfInBounds b (.mapIter (some m) since (seen.push y.born) clock)},?_,?_,⟨j,z,rfl⟩,es,clock,since,seen.push y.born,?_,C,?_,D,F,h,?_,?_⟩
 ·
  simp only [Instr.next,getObj,Sem.run_bind,Sem.run,f,h1,Result.andThen,O,Bool.false_eq_true,if_false];rw [show(es.filter fun e=>!seen.contains e.born)=leftOf es seen from rfl,e1,e2];simp only [Y,Bool.false_eq_true,if_false,Array.empty_append,Array.append_empty,Array.size_map,qd,Array.getElem?_map,hy,Option.map_some]
  have D1:(setObj b (.mapIter (some m) since (seen.push y.born) clock)).run P w1=.ok () {w1 with heap:=w1.heap.setIfInBounds b (.mapIter (some m) since (seen.push y.born) clock)}:=by
   simp only [setObj,Sem.run];rw [I,f]
  simp only [Sem.run_bind,D1,Result.andThen,tI,i.1,i.2]
  try rfl
 ·
  have:=fX w1 b (.mapIter (some m) since (seen.push y.born) clock)
  exact aJ.trans (aJ.mono hc1 (by simp)) this
 ·
  show(w1.heap.setIfInBounds b _)[m]?=_
  rw [I,Array.getElem?_setIfInBounds_ne D];exact h1
 ·
  show(w1.heap.setIfInBounds b _)[b]?=_
  rw [I,Array.getElem?_setIfInBounds_self]
  simp [V]
 ·
  rw [xf,kh _ j y hbn J,map_eraseIdx,map_eraseIdx,o]
 intro q U;simp only [Option.some.injEq] at U;subst U;exact⟨y,hye,Array.back?_push,i.1,i.2⟩
theorem OX.next(hm:F1 enc w b m l left cur) (i:ev kv x=some (.pointer (some ⟨b,0,none⟩))) (o:Nat.blt d n=true)
  (h:∀r f w',aJ [b] w w'→(match r with | none=>left=[]∧f=[] | some p=>∃j,left[j]?=some p∧f=left.eraseIdx j)→F1 enc w' b m l f r→K ((d,.tuple (tI enc r))::kv) w'):OX P ⟨some d,.next x false,ty,pos,af,g⟩ n kv w K:=by
 obtain⟨r,f,w',h1,y,z,B⟩:=Cc (P:=P) (ty:=ty) hm;refine⟨rfl,o,by simp [known,opers,i],?_⟩
 have hr:(execOp (gX kv) ⟨some d,.next x false,ty,pos,af,g⟩).run P w=.ok (.value (.tuple (tI enc r))) w':=by
  simp only [execOp,aF i,Sem.run_bind,h1,Result.andThen_ok];rfl
 rw [hr];exact h _ _ _ y z B
theorem PV.entry{p:κ × Value}(hm:F1 enc w b m l left (some p)) (f:ev kv x=some (.pointer (some ⟨b,0,none⟩))):PV P (.entry x) ty kv w (.tuple #[enc p.1,p.2]):=by
 obtain⟨es,clock,since,seen,h1,h,i,_,_,_,_,j⟩:=hm;obtain⟨y,hy,hb,hk,o⟩:=j p rfl;refine⟨rfl,by simp [known,opers,f],fun _ _ _ _=>?_⟩
 have z:es.find? (·.born == y.born)=some y:=by rw [← Array.find?_toList];exact find_born y es.toList h.2.2.2 hy
 have:(Instr.entry (.pointer (some ⟨b,0,none⟩))).run P w=.ok (.tuple #[enc p.1,p.2]) w:=by
  simp only [Instr.entry,getObj,Sem.run_bind,Sem.run,i,h1,hb,Result.andThen,bne_self_eq_false,Bool.false_eq_true,if_false,z,hk,o]
  rfl
 simp only [execOp,aF f,Sem.run_bind,this,Result.andThen_ok]
 rfl
end
end Go.Rc

namespace Go.Rc
open Go
theorem ki{α:Type}:∀{l:List α}{j:Nat}{p q:α},l[j]?=some p→q∈l→q=p∨q∈l.eraseIdx j
 | [],_,_,_,_,h=>by cases h
 | x::r,0,p,q,h,f=>by grind
 | x::r,j+1,p,q,h,f=>by
  rcases List.mem_cons.1 f with rfl | f
  ·
   exact .inr (by simp)
  rcases ki (l:=r) (by simpa using h) f with h1 | h1
  ·
   exact .inl h1
  exact .inr (by simp [h1])
section
variable {aa:List az}{aC:List ca}
theorem ko.aX(hR:ao aa) {i0:Nat}{L:List Nat}{u:Nat→Nat}{am:List (Key × Value)}(h:ko aa L u am) (hn:(am.map (·.1)).Nodup) (hr:cG aa aC i0 L u) (y:∀j∈L,u j=rv aa aC j) :
  ∀p∈am,p.2=.string (valOf aa aC p.1):=fun p o=>by
 have i:ba am p.1=some p.2:=(wF hn).2 o
 by_cases hk:∃j∈L,p.1=aH aa (j:Int)
 ·
  obtain⟨j,f,e⟩:=hk;obtain⟨z,B⟩:=hr.ring j f;rw [e,h.1 j f] at i
  grind [fm,fQ]
 rw [h.2 p.1 fun j f e=>hk ⟨j,f,e⟩] at i
 cases i
theorem ko.first{i0:Nat}{L:List Nat}{u:Nat→Nat}{am:List (Key × Value)}(h:ko aa L u am) (hn:(am.map (·.1)).Nodup) (hr:cG aa aC i0 L u):∃p∈am,p.1=aH aa (i0:Int):=
 ⟨(_,_),(wF hn).1 (h.1 i0 hr.first),rfl⟩
theorem D2{am left ml:List (Key × Value)}{j:Nat}{p:Key × Value}(f:∀q∈am,q∈left∨ba ml q.1=some q.2) (he:∀q∈am,q.2=.string (valOf aa aC q.1)) (i:left[j]?=some p) :
  ∀q∈am,q∈left.eraseIdx j∨ba (bY ml p.1 (.string (valOf aa aC p.1))) q.1=some q.2:=fun q o=>by
 rw [cY]
 by_cases e:p.1=q.1
 ·
  grind
 rw [if_neg e]
 rcases f q o with h | h
 ·
  rcases ki i h with h1 | h1
  ·
   subst h1;exact absurd rfl e
  exact .inl h1
 exact .inr h
end
end Go.Rc

namespace Go.Rc
open Go
def gZ(rev:Int) (l:List ca):Prop:=pB l∧(∀y∈l,GD rev y)∧∀y∈l,(∃i:Nat,i≤9∧y.key=⟨30,itoa i⟩)∧y.value.size≤1000
theorem gZ.nil(rev:Int):gZ rev []:=⟨.nil,by simp,by simp⟩
theorem gZ.mono{r s:Int}{l:List ca}(h:gZ r l) (f:r≤s):gZ s l:=⟨h.1,fun y hy=>by obtain⟨a,b,c,d,e⟩:=h.2.1 y hy;exact⟨a,b,c,d,by omega⟩,h.2.2⟩
theorem Change.small.key{c:Change}(h:c.small):∃i:Nat,i≤9∧c.key=⟨30,itoa i⟩:=by
 obtain⟨⟨n,h0,f,hk⟩,_⟩:=h;refine⟨n.toNat,by omega,?_⟩;rw [hk]
 unfold bB
 grind
theorem Change.small.ok{c:Change}(h:c.small):dW c.key=true∧aw c.key=true:=by
 obtain⟨⟨n,h0,f,hk⟩,_⟩:=h;obtain⟨m,rfl⟩:∃m:Nat,n=(m:Int):=⟨n.toNat,by omega⟩;rw [hk];exact⟨eU.valid (aa:=[]) (.cell (by omega)),aZ (by omega)⟩
theorem gZ.put{rev:Int}{l:List ca}{c:Change}(h:gZ rev l) (hc:c.small) (h0:0≤rev):gZ rev (et ⟨c.key,c.value,rev⟩ l false):=by
 refine⟨pB.put h.1,fun y hy=>?_,fun y hy=>?_⟩
 ·
  rcases qJ _ _ _ _ hy with rfl | hy
  ·
   have:=hc.2
   exact⟨hc.ok.1,hc.ok.2,by grind,h0,Int.le_refl _⟩
  exact h.2.1 y hy
 rcases qJ _ _ _ _ hy with rfl | hy
 ·
  obtain⟨i,hi,hk⟩:=hc.key;exact⟨⟨i,by omega,hk⟩,Nat.le_trans hc.2 (by decide)⟩
 exact h.2.2 y hy
theorem tJ{α:Type} [BEq α] [LawfulBEq α]:∀{l U:List α},l.Nodup→(∀x∈l,x∈U)→l.length≤U.length
 | [],_,_,_=>Nat.zero_le _
 | x::r,U,hn,f=>by
  have h:=f x (by simp);rw [List.nodup_cons] at hn
  have h1:r.length≤(U.erase x).length:=tJ hn.2 fun y hy=>by grind
  grind
theorem gZ.len{rev:Int}{l:List ca}(h:gZ rev l):l.length≤10:=by
 have hn:(l.map fun y=>y.key).Nodup:=by
  unfold List.Nodup
  rw [List.pairwise_map]
  exact h.1.imp fun {a b} h e=>by grind [gG]
 have:=tJ (U:=(List.range 10).map fun i:Nat=>(⟨30,itoa i⟩:Key)) hn fun k hk=>by
  obtain⟨y,hy,rfl⟩:=List.mem_map.1 hk;obtain⟨i,hi,he⟩:=(h.2.2 y hy).1
  grind
 simpa using this
theorem gZ.k99{rev:Int}{l:List ca}(h:gZ rev l):∀y∈l,∃i:Nat,i≤99∧y.key=⟨30,itoa i⟩:=fun y hy=>by
 obtain⟨i,hi,he⟩:=(h.2.2 y hy).1;exact⟨i,by omega,he⟩
theorem xh{n:ca}{k:Key}(h:n.key≠k):∀(l:List ca) (b:Bool),(et n l b).find? (fun x=>x.key == k)=l.find? fun x=>x.key == k
 | [],b=>by grind [et]
 | x::xs,b=>by
  have hn:(n.key == k)=false:=by simpa using h
  unfold et
  rw [List.find?_append,List.find?_append,xh h xs]
  have h1:(if (decide (0≤bm x.key n.key) && !b)=true then [n] else []).find? (fun x=>x.key == k)=none:=by grind
  rw [h1,Option.none_or]
  by_cases e:bm x.key n.key=0
  ·
   rw [if_pos e]
   grind [jZ]
  grind
theorem od{n:ca}{k:Key}(h:n.key≠k) (l:List ca):bw (et n l false) k=bw l k:=by
 unfold bw
 rw [xh h]
theorem GI{n:ca}{l:List ca}{q:Nat}{b:Bool}(f:q<l.length) {acc r:List ca}(h:acc++et n (l.drop q) b=r):acc++(if decide (0≤bm l[q].key n.key) && !b then [n] else [])++(if bm l[q].key n.key=0 then [] else [l[q]])++et n (l.drop (q+1)) (b || decide (0≤bm l[q].key n.key))=r:=by grind [List.drop_eq_getElem_cons,et]
theorem GJ{n:ca}{l m acc:List ca}{b:Bool}(h:acc++et n m b=et n l false):acc.length≤l.length+1:=by
 have h1:=congrArg List.length h
 grind [kP]
end Go.Rc

namespace Go.Rc
open Go
section
variable {aa:List az}{aC:List ca}{rev:Int}(hR:ao aa)
include hR
end
end Go.Rc

namespace Go.Rc
open Go
def JS(L:List As) (Z:Nat→Prop) (w:World):Prop:=(List.Pairwise (fun(A B:As)=>∀x,A.fp x→¬B.fp x) L)∧∀A∈L,A.ok Z w
def As.many(L:List As):As where
 fp x:=∃A∈L,A.fp x
 ok:=JS L
 lt h x hx:=by obtain⟨A,hA,hx⟩:=hx;exact A.lt (h.2 A hA) x hx
 mono hZ h:=⟨h.1,fun A hA=>A.mono hZ (h.2 A hA)⟩
 st hs hc h:=⟨h.1,fun A hA=>A.st hs (fun x hx=>hc x (hx.imp (fun hx=>⟨A,hA,hx⟩) id)) (h.2 A hA)⟩
section
variable {w0 w:World}{M Z:Nat→Prop}{A:As}{L l:List As}
theorem St.Oo(h:St w0 M Z w l):St w0 M Z w (As.many []::l):=by
 refine⟨h.bR,h.hV,?_,?_,.cons ?_ h.oL,?_⟩
 ·
  intro B f x i
  rcases List.mem_cons.1 f with rfl | f
  ·
   obtain⟨A,j,_⟩:=i;cases j
  exact h.jS B f x i
 ·
  intro B f x i
  rcases List.mem_cons.1 f with rfl | f
  ·
   obtain⟨A,j,_⟩:=i;cases j
  exact h.kI B f x i
 ·
  intro B _ x i;obtain⟨A,j,_⟩:=i;cases j
 intro B f
 rcases List.mem_cons.1 f with rfl | f
 ·
  exact⟨.nil,fun A j=>by cases j⟩
 exact h.ok B f
theorem St.JT(h:St w0 M Z w (A::As.many L::l)):St w0 M Z w (As.many (A::L)::l):=by
 obtain⟨d1,d2⟩:=List.pairwise_cons.1 h.oL;obtain⟨d3,d4⟩:=List.pairwise_cons.1 d2;have hm:(As.many L).ok Z w:=h.ok _ (by simp);refine⟨h.bR,h.hV,?_,?_,.cons ?_ d4,?_⟩
 ·
  intro B j x f
  rcases List.mem_cons.1 j with rfl | j
  ·
   obtain⟨C,i,f⟩:=f
   rcases List.mem_cons.1 i with rfl | i
   ·
    exact h.jS C (by simp) x f
   exact h.jS (As.many L) (by simp) x ⟨C,i,f⟩
  exact h.jS B (by simp [j]) x f
 ·
  intro B j x f
  rcases List.mem_cons.1 j with rfl | j
  ·
   obtain⟨C,i,f⟩:=f
   rcases List.mem_cons.1 i with rfl | i
   ·
    exact h.kI C (by simp) x f
   exact h.kI (As.many L) (by simp) x ⟨C,i,f⟩
  exact h.kI B (by simp [j]) x f
 ·
  intro B j x f;obtain⟨C,i,f⟩:=f
  rcases List.mem_cons.1 i with rfl | i
  ·
   exact d1 B (by simp [j]) x f
  exact d3 B j x ⟨C,i,f⟩
 intro B j
 rcases List.mem_cons.1 j with rfl | j
 ·
  refine⟨.cons (fun C i x f o=>d1 (As.many L) (by simp) x f ⟨C,i,o⟩) hm.1,fun C i=>?_⟩
  rcases List.mem_cons.1 i with rfl | i
  ·
   exact h.ok C (by simp)
  exact hm.2 C i
 exact h.ok B (by simp [j])
theorem St.GK(h:St w0 M Z w (As.many (A::L)::l)):St w0 M Z w (A::As.many L::l):=by
 obtain⟨d1,d2⟩:=List.pairwise_cons.1 h.oL;have hm:(As.many (A::L)).ok Z w:=h.ok _ (by simp);obtain⟨d3,d4⟩:=List.pairwise_cons.1 hm.1;refine⟨h.bR,h.hV,?_,?_,.cons ?_ (.cons ?_ d2),?_⟩
 ·
  intro B f x i
  rcases List.mem_cons.1 f with rfl | f
  ·
   exact h.jS _ M0 x ⟨B,.head _,i⟩
  rcases List.mem_cons.1 f with rfl | f
  ·
   obtain⟨C,j,i⟩:=i;exact h.jS _ M0 x ⟨C,.tail _ j,i⟩
  exact h.jS B (.tail _ f) x i
 ·
  intro B f x i
  rcases List.mem_cons.1 f with rfl | f
  ·
   exact h.kI _ M0 x ⟨B,.head _,i⟩
  rcases List.mem_cons.1 f with rfl | f
  ·
   obtain⟨C,j,i⟩:=i;exact h.kI _ M0 x ⟨C,.tail _ j,i⟩
  exact h.kI B (.tail _ f) x i
 ·
  intro B f x i o
  rcases List.mem_cons.1 f with rfl | f
  ·
   obtain⟨C,j,o⟩:=o;exact d3 C j x i o
  exact d1 B f x ⟨A,.head _,i⟩ o
 ·
  intro B f x i;obtain⟨C,j,i⟩:=i;exact d1 B f x ⟨C,.tail _ j,i⟩
 intro B f
 rcases List.mem_cons.1 f with rfl | f
 ·
  exact hm.2 B M0
 rcases List.mem_cons.1 f with rfl | f
 ·
  exact⟨d4,fun C j=>hm.2 C (.tail _ j)⟩
 exact h.ok B (.tail _ f)
theorem St.Oq{L':List As}(j:L.Perm L') (h:St w0 M Z w (As.many L::l)):St w0 M Z w (As.many L'::l):=by
 obtain⟨d1,d2⟩:=List.pairwise_cons.1 h.oL;have hm:(As.many L).ok Z w:=h.ok _ (by simp);have o:∀x,(As.many L').fp x→(As.many L).fp x:=fun x ⟨C,p,i⟩=>⟨C,j.mem_iff.2 p,i⟩;refine⟨h.bR,h.hV,?_,?_,.cons (fun B f x i=>d1 B f x (o x i)) d2,?_⟩
 ·
  intro B f x i
  rcases List.mem_cons.1 f with rfl | f
  ·
   exact h.jS _ M0 x (o x i)
  exact h.jS B (.tail _ f) x i
 ·
  intro B f x i
  rcases List.mem_cons.1 f with rfl | f
  ·
   exact h.kI _ M0 x (o x i)
  exact h.kI B (.tail _ f) x i
 intro B f
 rcases List.mem_cons.1 f with rfl | f
 ·
  exact⟨hm.1.perm j (fun h x i y=>h x y i),fun C p=>hm.2 C (j.mem_iff.2 p)⟩
 exact h.ok B (.tail _ f)
end
structure RE where
 key:Key
 a:Option Addr
 n:Nat
 c:Nat
 reads:List Key
def RE.as(EK:Nat) (e:RE):As:=As.os RR.key EK 2 e.a e.n e.c e.reads
end Go.Rc

namespace Go.Rc
open Go
section
variable {aa:List az}{aC:List ca}{val:Key→ByteArray}
theorem j0{f g:Nat}(h:f≤g):∀{l:List Key}{s s':ES},cD aa val f s l=some s'→cD aa val g s l=some s'
 | [],s,s',hu=>hu
 | k::r,s,s',hu=>by
  simp only [cD] at hu ⊢;obtain⟨t,h1,i⟩:=Option.bind_eq_some_iff.1 hu;rw [lu h h1];exact j0 h i
theorem qK(hR:ao aa):∀(l:List Key) (s:ES),Good aa aC s→(∀k∈l,eU aa k)→∃f s',cD aa val f s l=some s'
 | [],s,_,_=>⟨0,s,rfl⟩
 | k::r,s,h,hk=>by
  obtain⟨f,t,h1⟩:=GC (val:=val) hR _ s k h (hk k (by simp)) (Nat.le_refl _);have i:=(bM (val:=val) hR f).1 _ _ _ h1 h (hk k (by simp))
  obtain⟨g,s',o⟩:=qK hR r t i.1 fun k j=>hk k (by simp [j])
  refine⟨max f g,s',?_⟩
  grind [cD,lu,j0,Nat.le_max_right]
theorem tK(hR:ao aa) {f:Nat}:∀{l:List Key}{s s':ES},cD aa val f s l=some s'→Good aa aC s→(∀k∈l,eU aa k)→s'.cw.length+eQ aa s'≤s.cw.length+eQ aa s
 | [],s,s',h,_,_=>by simp only [cD,Option.some.injEq] at h;subst h;exact Nat.le_refl _
 | k::r,s,s',h,i,hk=>by
  simp only [cD] at h;obtain⟨t,h1,j⟩:=Option.bind_eq_some_iff.1 h;have o:=(bM (val:=val) hR f).1 _ _ _ h1 i (hk k (by simp));have p:=(fR (val:=val) hR f).1 _ _ _ h1 i (hk k (by simp))
  have y:=tK hR j o.1 fun k z=>hk k (by simp [z])
  exact Nat.le_trans y p.2.2
end
theorem tL{aa:List az}(hR:ao aa) {i:Nat}(hi:i<aa.length):eh aa (aH aa (i:Int))=true:=by
 have f:=hR.len
 unfold eh
 rw [eU.valid (aa:=aa) (.fl hi (by omega)),bE hi (by omega)]
 simp
theorem JU:gQ ⟨0,[],[]⟩:=⟨fun i y h=>by simp at h,fun i r h=>by simp at h,by decide,by decide,by decide,⟨by decide,fun i x h=>by simp at h⟩⟩
theorem gZ.gQ{rev:Int}{aC:List ca}(h:gZ rev aC) (h0:0≤rev) (h1:rev≤1073741824) (f:aC.length≤64):gQ ⟨rev,aC,[]⟩:=
 ⟨zm.2 ⟨h.1,h.2.1⟩,fun i r h=>by simp at h,h0,h1,f,⟨Nat.zero_le _,fun i x h=>by simp at h⟩⟩
end Go.Rc

namespace Go.Rc
open Go
end Go.Rc

namespace Go.Rc
open Go
end Go.Rc

namespace Go.Rc
open Go
end Go.Rc

namespace Go.Rc
open Go
structure BK (aa:List az) (aC:List ca) (rev:Int) (b:cI):Prop where
 sr:Good aa aC ⟨b,[],[],0⟩
 Bg:tF ⟨b,[],[],0⟩
 rv:b.ad=rev
 Ip:uP rev aC
 GL:aC.length≤64
section
variable {aa:List az}{aC:List ca}{rev:Int}{b:cI}
theorem BK.gQ(h:BK aa aC rev b):gQ b:=
 ⟨by rw [h.rv,show b.ab=aC from h.sr.aC];exact h.Ip,fun i r hr=>(h.Bg.v r (List.mem_of_getElem? hr)).2,h.Bg.r0,h.Bg.r1,by rw [show b.ab=aC from h.sr.aC];exact h.GL,h.Bg.st.kH h.sr.len fun r hr=>(h.Bg.v r hr).1⟩
end
theorem PV.cast{P:Program}{op:Op}{ty:TypeId}{kv:KV}{w:World}{v v':Value}(h:PV P op ty kv w v) (e:v=v'):PV P op ty kv w v':=e ▸ h
section
variable {w0 w:World}{M Z:Nat→Prop}{l:List As}{A0 A1 A2 A3 A4 A5 A6 A7 A8 A9 A10 A11 A12 A13 A14 Iq Nb S3:As}
end
end Go.Rc

namespace Go.Rc
open Go
section
variable {α:Type}{R:RR α}{P:Program}{E k n c b:Nat}{a:Option Addr}{L:List α}{u:α}{Z:Nat→Prop}{w:World}
variable {N:Nat}{kv:KV}{K:KV→World→Prop}{ty:TypeId}{pos:String}{af:Array Edge}{g:Option (Nat × Bool)}{T:TypeId}
end
section
variable {aa:List az}
end
section
variable {aa:List az}{aC:List ca}{rev:Int}{n:Nat}
end
end Go.Rc

namespace Go.Rc
open Go
theorem nW.Il{aa:List az}{k:Key}(hR:ao aa) (h:nW aa k):eU aa k:=by
 have f:=hR.len
 rcases h with⟨n,h0,j,rfl⟩ | ⟨i,hi,rfl⟩
 ·
  obtain⟨m,rfl⟩:∃m:Nat,n=m:=⟨n.toNat,by omega⟩;exact .cell (by omega)
 exact .fl hi (by omega)
theorem nW.right{aa:List az}{k:Key}(hR:ao aa) (h:nW aa k):eh aa k=true:=by
 have hk:=h.Il hR
 rcases h with⟨n,h0,f,rfl⟩ | ⟨i,hi,rfl⟩
 ·
  unfold eh
  rw [eU.valid hk]
  unfold bB
  rw [if_neg (by omega)]
  simp
 exact tL hR hi
structure LB (aa:List az) (x:cI):Prop where
 ok:BK aa x.ab x.ad x
 aC:gZ x.ad x.ab
section
variable {aa:List az}{x:cI}
theorem LB.apply(h:LB aa x) {y:cI}(hr:y.ah=x.ah) (h0:x.ad≤y.ad) (h1:y.ad≤1073741824) (i:gZ y.ad y.ab) (j:y.ab.length≤64):LB aa y:=by
 have p:=h.ok.sr;have f:=h.ok.Bg;have o:0≤y.ad:=Int.le_trans f.r0 h0;have hb:=i.gQ o h1 j;exact⟨⟨⟨rfl,by show y.ah.length≤_;rw [hr];exact p.len,by grind [Good.key],by grind [Good.GB],.nil,fun k=>.inl rfl⟩,⟨by show pA y.ah;rw [hr];exact f.st,by show ∀r∈y.ah,_;rw [hr];exact fun r hm=>⟨(f.v r hm).1,Int.le_trans (f.v r hm).2 h0⟩,o,h1⟩,rfl,hb.1,j⟩,i⟩
theorem LB.of(h:LB aa x) {b:cI}(hb:BK aa x.ab x.ad b):LB aa b:=by
 have h1:b.ab=x.ab:=hb.sr.aC;have f:b.ad=x.ad:=hb.rv;refine⟨?_,?_⟩
 ·
  rw [h1,f];exact hb
 rw [h1,f];exact h.aC
theorem LB.S4(hR:ao aa) (h:LB aa x) {goals:List Key}(o:∀k∈goals,nW aa k) (p:goals.length≤32):∃(f:Nat) (s':ES),e7 aa x goals=0∧Good aa x.ab ⟨x,[],[],0⟩∧(∀k∈goals,eU aa k)∧cD aa (valOf aa x.ab) f ⟨x,[],[],0⟩ goals=some s'∧s'.cw.length≤1000000∧LB aa (s'.base x)∧(s'.base x).ad=x.ad:=by
 have y:=hR.len;have i:=h.ok.sr;have hk:∀k∈goals,eU aa k:=fun k hm=>(o k hm).Il hR;obtain⟨f,s',hu⟩:=qK (val:=valOf aa x.ab) hR goals ⟨x,[],[],0⟩ i hk;have h1:=mz hR hu i hk;have j:=xd hR hu i h.ok.Bg hk;have z:=tK hR hu i hk;have B:eQ aa ⟨x,[],[],0⟩≤aa.length:=Io _ _;refine⟨f,s',?_,i,hk,hu,?_,?_,?_⟩
 ·
  unfold e7
  rw [if_neg (fun h=>h hR),if_neg (fun hn=>hn h.ok.gQ),if_neg (by omega),if_pos (List.all_eq_true.2 fun k hm=>(o k hm).right hR)]
 ·
  grind
 ·
  unfold ES.base
  split
  ·
   refine h.of ⟨⟨h1.1.aC,h1.1.len,h1.1.key,h1.1.GB,.nil,fun k=>.inl rfl⟩,⟨j.st,j.v,j.r0,j.r1⟩,h1.2.rev,h.ok.Ip,h.ok.GL⟩
  exact h
 unfold ES.base
 split
 ·
  exact h1.2.rev
 rfl
theorem LB.nil{aa:List az}(y:cI) (hr:y.ah=[]) (h0:0≤y.ad) (h1:y.ad≤1073741824) (f:gZ y.ad y.ab) (h:y.ab.length≤64):LB aa y:=by
 have hb:=f.gQ h0 h1 h;exact⟨⟨⟨rfl,by grind,by grind,by grind,.nil,fun k=>.inl rfl⟩,⟨by show pA y.ah;rw [hr];exact .nil,by grind,h0,h1⟩,rfl,hb.1,h⟩,f⟩
end
end Go.Rc

namespace Go.Rc
open Go
def JV(l:List Key):Prop:=l.Pairwise fun a b=>bm a b<0
theorem GM{l l':List Key}(f:l'.Perm l) (hn:l.Nodup) (i:l'.Pairwise fun a b=>¬bm b a<0):JV l':=by
 have j:l'.Pairwise fun a b=>a≠b:=f.nodup_iff.2 hn
 refine(i.and j).imp fun {a b} h=>?_
 grind [gG,jZ]
section
variable {aa:List az}{aC:List ca}{k:Key}
theorem kR{l:List Key}{q:Nat}{y z:Key}(hy:l[q]?=some y) (f:z∈l.take (q+1)):z∈l.take q∨z=y:=by grind [List.take_succ_eq_append_getElem]
def jB(l:List Key):List (Key × Value):=l.map fun x=>(x,.bool true)
theorem xi(l:List Key) (y:Key):(ba (jB l) y).getD (.bool false)=.bool (decide (y∈l)):=by
 unfold jB
 induction l with
 | nil=>simp [ba]
 | cons x r f=>
  simp only [List.map_cons,ba]
  grind
theorem xj(l:List Key) {y:Key}(h:y∉l):bY (jB l) y (.bool true)=jB (l++[y]):=by
 unfold jB
 induction l with
 | nil=>rfl
 | cons x r f=>
  rw [List.mem_cons,not_or] at h;simp only [List.map_cons,List.cons_append,bY];rw [if_neg (Ne.symm h.1),f h.2]
end
end Go.Rc

namespace Go.Rc
open Go
structure LR {α:Type}(A:Nat→Prop) (w:World) (k:Nat) (R:α→List Value→Prop) (a:Option Addr) (n:Nat) (xs:List α):Prop where
 len:n=xs.length
 le:n≤140737488355328
 at_:∀{i:Nat}{x:α},xs[i]?=some x→∃b o r,a=some ⟨b,o,none⟩∧r.length=k∧R x r∧w.rangeAt b (o+i*k) r∧A b∧b<w.heap.size
theorem SR.Gf{α:Type}{w:World}{k b E:Nat}{R:α→List Value→Prop}{xs:List α}{rows:List (List Value)}(h:bN w b E rows.flatten) (hl:xs.length=rows.length) (hk:∀r∈rows,r.length=k) (h1:∀u∈rows.flatten,u.oneCell'=true)
  (hle:rows.length≤140737488355328) (hR:∀(i:Nat) (x:α) (r:List Value),xs[i]?=some x→rows[i]?=some r→R x r):SR (fun _=>True) w k R (some ⟨b,0,none⟩) rows.length rows.length xs:=by
 have hlen:rows.flatten.length=rows.length*k:=by
  clear h hl h1 hle hR
  induction rows with
  | nil=>simp
  | cons r t j=>grind
 have f:=OL.blk (base:=0) (k:=k) h (Nat.zero_le _) hlen h1 hle;exact⟨hl.symm,rows,hl.symm,hk,f.sl (A:=fun _=>True) (fun _ _=>trivial) hle,hR⟩
end Go.Rc

namespace Go.Rc
open Go
theorem LB.xk{aa:List az}{x:cI}(h:LB aa x):kQ aa x:=
 ⟨h.ok.Bg.r0,h.ok.Bg.r1,⟨h.aC.1,h.aC.2.1⟩,h.aC.k99,h.ok.GL,fun r hr=>⟨h.ok.sr.key r hr,((eG _).1 (h.ok.Bg.v r hr).1).2.2.1,(h.ok.sr.GB r hr).2,(h.ok.Bg.v r hr).1⟩,h.ok.Bg.st,h.ok.sr.len,fun r hr=>(h.ok.Bg.v r hr).2⟩
theorem LB.small{aa:List az}{x:cI}(hR:ao aa) (h:LB aa x):∀k,(valOf aa x.ab k).size≤1000:=zi hR fun y hy=>(h.aC.2.2 y hy).2
theorem OR.Ut{α:Type}{R:α→List Value→Prop}{base b E k:Nat}{w:World}{x y:α}{r s:List Value}(h:bN w b E (r++s)) (hb:base≤b) (hr:r.length=k) (f:s.length=k) (h1:∀u∈r++s,u.oneCell'=true) (i:R x r) (hy:R y s):OR base w E k R (some ⟨b,0,none⟩) 2 2 [x,y]:=
 ⟨rfl,[r,s],rfl,by simp [hr,f],by grind [OL.blk],xe i hy⟩
end Go.Rc

namespace Go.Rc
open Go
section
variable {aa:List az}{aC:List ca}
noncomputable def JW(aa:List az) (aC:List ca) (i q:Nat):List ByteArray:=(dT (cm aa (aH aa (i:Int))) (valOf aa aC) q).2
noncomputable def D3(aa:List az) (aC:List ca) (i q:Nat):Key:=(cm aa (aH aa (i:Int)) (JW aa aC i q)).ask
theorem qL(i q:Nat):(JW aa aC i q).length=q:=(eJ _ _ _).2
theorem j1{i q:Nat}(f:q<cH aa i):(da aa aC i)[q]?=some (D3 aa aC i q):=by
 unfold da D3 JW
 generalize cH aa i=n at f ⊢
 induction n with
 | zero=>omega
 | succ n h=>
  have hl:=(eJ (cm aa (aH aa (i:Int))) (valOf aa aC) n).1;simp only [dT]
  grind
theorem Cd(hR:ao aa) {i:Nat}(hi:i<aa.length) (hr:ax aa i=true):bZ (valOf aa aC (aH aa (i:Int)))=rv aa aC i:=by grind [fm,fQ,dP,oQ]
end
end Go.Rc

namespace Go.Rc
open Go
section
variable {aa:List az}{aC:List ca}{k:Key}{L:List Key}
end
end Go.Rc

namespace Go.Rc
open Go
section
variable {aa:List az}{aC:List ca}
theorem cq.trans{i j k:Nat}(h:cq aa i j) (f:cq aa j k):cq aa i k:=by
 induction f with
 | refl=>exact h
 | step _ o p=>exact .step p o
variable {lo n q v:Nat}{S:List Int}{r:az}
end
end Go.Rc

namespace Go.Rc
open Go
section
variable {aa:List az}{aC nn:List ca}
end
end Go.Rc
namespace Go.Rc
open Go
end Go.Rc

namespace Go.Rc
open Go
section
variable {aa:List az}{aC nn:List ca}
theorem qM(hR:ao aa) {i:Nat}(hi:i<aa.length) (h:∀a∈da aa aC i,valOf aa aC a=valOf aa nn a):da aa nn i=da aa aC i∧valOf aa nn (aH aa (i:Int))=valOf aa aC (aH aa (i:Int)):=by
 have e:dT (cm aa (aH aa (i:Int))) (valOf aa aC) (cH aa i)=dT (cm aa (aH aa (i:Int))) (valOf aa nn) (cH aa i):=qx _ fun m hm=>h _ (List.mem_of_getElem? (j1 hm))
 refine⟨?_,?_⟩
 ·
  unfold da
  rw [e]
 have h1:=fI (aC:=aC) hR hi;have f:=fI (aC:=nn) hR hi
 grind
theorem oT(hR:ao aa) {G:Nat→Prop}(f:∀j,G j→j<aa.length∧ax aa j=true) (h:∀j,G j→∀r x,aa[j]?=some r→x∈r.asks→(∀m,G m→bs aa x≠aH aa (m:Int))→valOf aa aC (bs aa x)=valOf aa nn (bs aa x)) {j:Nat}(B:G j) (b:Nat) (hb:(rv aa aC j).testBit b=true):(rv aa nn j).testBit b=true:=by
 obtain⟨p,y⟩:=f j B;obtain⟨n,hn,C⟩:=(dj hR p y b).1 hb
 have key:∀n,cq aa j n→(G n∧cq aa j n)∨∃(m:Nat) (x:Ask) (r:az) (q:Nat),G m∧cq aa j m∧aa[m]?=some r∧x∈r.asks∧bs aa x=aH aa (q:Int)∧¬G q∧ed aa m q∧cq aa q n:=by
  intro n hn
  induction hn with
  | refl=>exact .inl ⟨B,.refl⟩
  | @step m q hm i J=>
   rcases J with⟨g1,g2⟩ | ⟨m2,x,r,O,g1,g2,g3,g4,g5,g6,g7,g8⟩
   ·
    by_cases D:G q
    ·
     exact .inl ⟨D,.step g2 i⟩
    obtain⟨x,o,_,hk⟩:=mu (f m g1).1 i;exact .inr ⟨m,x,_,q,g1,g2,ae (f m g1).1,o,hk,D,i,.refl⟩
   exact .inr ⟨m2,x,r,O,g1,g2,g3,g4,g5,g6,g7,.step g8 i⟩
 rcases key n hn with⟨g1,g2⟩ | ⟨m,x,r,q,g1,g2,g3,g4,g5,g6,g7,g8⟩
 ·
  obtain⟨z,X⟩:=f n g1;refine(dj hR p y b).2 ⟨n,g2,?_⟩
  rcases(dQ z b).1 C with h1 | ⟨x,o,Q,h1⟩
  ·
   grind [dQ]
  refine(dQ z b).2 (.inr ⟨x,o,Q,?_⟩);rw [← h n g1 _ x (ae z) o fun m hm e=>?_]
  ·
   exact h1
  grind [gB,bf,ao.len]
 have F:=g7.lt.2.1;have I:=g7.lt.2.2.2;have h1:(rv aa aC q).testBit b=true:=(dj hR F I b).2 ⟨n,g8,C⟩
 have Y:=h m g1 r x g3 g4 fun m2 F2 e=>by grind [dy]
 have U:rv aa aC q=rv aa nn q:=by grind [Cd]
 rw [U] at h1;obtain⟨n2,V,W⟩:=(dj hR F I b).1 h1;exact(dj hR p y b).2 ⟨n2,(cq.step g2 g7).trans V,W⟩
theorem zn(hR:ao aa) {G:Nat→Prop}(i:∀j,G j→j<aa.length∧ax aa j=true) (h:∀j,G j→∀r x,aa[j]?=some r→x∈r.asks→(∀m,G m→bs aa x≠aH aa (m:Int))→valOf aa aC (bs aa x)=valOf aa nn (bs aa x)) {j:Nat}(f:G j):valOf aa aC (aH aa (j:Int))=valOf aa nn (aH aa (j:Int)):=by
 obtain⟨y,z⟩:=i j f
 have e:rv aa aC j=rv aa nn j:=by
  apply Nat.eq_of_testBit_eq
  intro b;rw [Bool.eq_iff_iff];exact⟨oT hR i h f b,oT hR i (fun j f r x h1 o p=>(h j f r x h1 o p).symm) f b⟩
 grind [fm,fQ]
structure Cons (aa:List az) (H:Int→List ca) (on:Key→Bool) (b:cI):Prop where
 now:H b.ad=b.ab
 eS:∀k t,aw k=true→(bw b.ab k).changed≤t→t≤b.ad→cellOf (H t) k=cellOf b.ab k
 Ce:∀r∈b.ah,r.aq≤b.ad∧r.changed≤r.aq
 vr:∀r∈b.ah,r.value=valOf aa (H r.aq) r.key∧r.reads=n9 aa (H r.aq) r.key
 rr:∀r∈b.ah,∀a∈r.reads,aw a=false→∀ra,ay b.ah a=some ra→(r.aq=b.ad∧on a=true)∨(ra.changed≤r.aq→valOf aa (H r.aq) a=ra.value)
 rs:∀r∈b.ah,aA r.key=true→∀a∈r.reads,aA a=true→∀ra,ay b.ah a=some ra→(r.aq=b.ad∧on a=true)∨r.aq≤ra.aq
variable {H:Int→List ca}{on:Key→Bool}{b:cI}{k:Key}
theorem Cons.up(h:Cons aa H on b) (hu:aI b k=true):∃r,ay b.ah k=some r∧r.aq=b.ad∧r.value=valOf aa b.ab k:=by
 obtain⟨r,hr,f⟩:=bV.1 hu;obtain⟨h1,i⟩:=aT hr;refine⟨r,hr,f,?_⟩;rw [(h.vr r h1).1,f,h.now,i]
theorem Cons.changed(h:Cons aa H on b) {m:Rec}(hm:m∈b.ah) (p:m.aq<b.ad) {a:Key}(j:a∈m.reads) (hc:aQ (valOf aa b.ab) b a≤m.aq):valOf aa (H m.aq) a=valOf aa b.ab a:=by
 cases hi:aw a with
 | true=>
  unfold aQ at hc
  rw [if_pos hi] at hc
  have:=h.eS a m.aq hi hc (by omega)
  unfold valOf
  grind
 | false=>
  unfold aQ at hc
  rw [if_neg (by rw [hi];simp)] at hc
  split at hc
  ·
   rename_i h1
   rw [Bool.and_eq_true] at h1;obtain⟨ra,i⟩:=Option.isSome_iff_exists.1 h1.1
   have e:aD b.ah a=ra:=by unfold aD;rw [i];rfl
   rw [e] at h1 hc
   have o:valOf aa b.ab a=ra.value:=by
    rw [Bool.or_eq_true] at h1
    rcases h1.2 with f | f
    ·
     have f:=of_decide_eq_true f;obtain⟨g1,g2⟩:=aT i;rw [(h.vr ra g1).1,f,h.now,g2]
    exact of_decide_eq_true f
   rcases h.rr m hm a j hi ra i with⟨f,_⟩ | f
   ·
    omega
   rw [f hc,o]
  omega
end
end Go.Rc

