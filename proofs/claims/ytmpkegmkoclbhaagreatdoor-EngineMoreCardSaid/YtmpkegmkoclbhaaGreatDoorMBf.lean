/- Base of the proof: frames, memory, ownership, and the plain meaning of rule systems. Conditions: as each lemma says. -/
import Derived.Test.YtmpkegmkoclbhaaGreatDoorMBe
import Derived.Test.YtmpkegmkoclbhaaGreatDoorMBd
import Derived.Test.YtmpkegmkoclbhaaGreatDoorMBc
import Derived.Laws.IdiomRangeMap
set_option linter.all false
namespace Go.Rc
open Go
/-! ### counting -/
def Dz(p:Nat→Bool):Nat→Nat
 | 0=>0
 | n+1=>Dz p n+(p n).toNat
theorem rC{p q:Nat→Bool}:∀{n:Nat},(∀i,i<n→p i=true→q i=true)→Dz p n≤Dz q n
 | 0,_=>Nat.le_refl _
 | n+1,h=>by
  have h1:=rC (n:=n) fun i hi=>h i (by omega)
  have j:=h n (by omega);simp only [Dz]
  cases o:p n with
  | false=>simp;omega
  | true=>rw [j o];omega
theorem rD{p q:Nat→Bool}{j:Nat}:∀{n:Nat},(∀i,i<n→p i=true→q i=true)→j<n→q j=true→p j=false→Dz p n+1≤Dz q n
 | 0,_,r,_,_=>by omega
 | n+1,h,r,h1,o=>by
  simp only [Dz]
  rcases Nat.lt_or_ge j n with v | C
  ·
   have y:=rD (n:=n) (fun i hi=>h i (by omega)) v h1 o;have z:=h n (by omega)
   cases B:p n with
   | false=>simp;omega
   | true=>rw [z B];omega
  have e:j=n:=by omega
  subst e
  have y:=rC (n:=j) (p:=p) (q:=q) fun i hi=>h i (by omega)
  rw [h1,o];simp;omega
theorem Gr{p q:Nat→Bool}{j:Nat}:∀{n:Nat},(∀i,i<n→i≠j→p i=true→q i=true)→Dz p n≤Dz q n+1
 | 0,_=>by simp [Dz]
 | n+1,h=>by
  simp only [Dz]
  by_cases e:n=j
  ·
   subst e
   have v:=rC (n:=n) (p:=p) (q:=q) fun i hi=>h i (by omega) (by omega)
   cases p n <;> cases q n <;> simp <;> omega
  have h1:=Gr (n:=n) fun i hi=>h i (by omega)
  have o:=h n (by omega) e
  cases r:p n with
  | false=>simp;omega
  | true=>rw [o r];simp;omega
theorem OI(p:Nat→Bool):∀n,Dz p n≤n
 | 0=>Nat.le_refl _
 | n+1=>by have:=OI p n;simp only [Dz];cases p n <;> simp <;> omega
/-! ### what is found in what was put -/
theorem Gs:∀(a b:List UInt8),Lib.compareBytes a b=0→a=b
 | [],[],_=>rfl
 | [],_::_,h=>by simp [Lib.compareBytes] at h
 | _::_,[],h=>by simp [Lib.compareBytes] at h
 | x::a,y::b,h=>by
  simp only [Lib.compareBytes] at h
  split at h
  ·
   cases h
  split at h
  ·
   cases h
  rename_i h1 i
  have e:x=y:=by grind
  rw [e,Gs a b h]
theorem l9{a b:Key}(h:bC a b=0):a=b:=by
 unfold bC at h
 split at h
 ·
  cases h
 split at h
 ·
  cases h
 rename_i h1 i
 have j:=Gs _ _ h;obtain⟨p,o⟩:=a;obtain⟨q,r⟩:=b;simp only at h1 i j
 congr 1
 ·
  omega
 cases o;simp_all
theorem BM(r:Rec) (k:Key):∀(l:List Rec) (b:Bool),aA (eZ r l b) k=if k=r.key then (if b then none else some r) else aA l k:=by
 intro l
 induction l with
 | nil=>
  intro b
  unfold eZ aA
  grind
 | cons x xs i=>
  intro b;have h1:=i (b || decide (0≤bC x.key r.key))
  unfold eZ
  unfold aA at h1 ⊢
  rw [List.find?_append,List.find?_append,h1]
  by_cases h:k=r.key
  ·
   subst h;simp only [if_true]
   by_cases hc:bC x.key r.key=0
   ·
    grind
   have o:x.key≠r.key:=fun e=>hc (by rw [e];exact iw _)
   grind
  simp only [if_neg h]
  have hr:(r.key == k)=false:=by simp;exact fun e=>h e.symm
  have j:(List.find? (fun y=>y.key == k) (if (decide (0≤bC x.key r.key) && !b)=true then [r] else []))=none:=by split <;> simp [hr]
  rw [j]
  by_cases hc:bC x.key r.key=0
  ·
   have e:x.key=r.key:=l9 hc
   grind
  grind
theorem cN(l:List Rec) (r:Rec) (k:Key):aA (eh l r) k=if k=r.key then some r else aA l k:=by grind [eh,BM]
theorem rE(f:Rec→Rec) (h:∀r,(f r).key=r.key) (k:Key) (l:List Rec):aA (l.map f) k=(aA l k).map f:=by
 unfold aA
 rw [List.find?_map,show((fun x:Rec=>x.key == k)∘f)=(fun x:Rec=>x.key == k) from funext fun x=>by simp [h]]
/-! ### what goes on being so -/
theorem aR{x:cm}{k:Key}:az x k=true↔∃r,aA x.ah k=some r∧r.av=x.ad:=by
 unfold az aD
 cases h:aA x.ah k with
 | none=>simp
 | some r=>simp
theorem Ee{x:cm}{g:List Key}{d:Bool}{k:Key}(h:az x k=true):az (cH x g d) k=true:=by
 obtain⟨r,h1,i⟩:=aR.1 h;refine aR.2 ⟨a7 x.ad g d r,?_,?_⟩
 ·
  show aA (x.ah.map (a7 x.ad g d)) k=_
  grind [rE,cR]
 show _=x.ad
 unfold a7
 grind
theorem gZ{x:cm}{g:List Key}{k:Key}(h:(aA x.ah k).isSome=true) (hk:k∈g):az (cH x g false) k=true:=by
 obtain⟨r,h1⟩:=Option.isSome_iff_exists.1 h;have i:=List.find?_some h1
 simp at i
 refine aR.2 ⟨a7 x.ad g false r,?_,?_⟩
 ·
  show aA (x.ah.map (a7 x.ad g false)) k=_
  grind [rE,cR]
 show _=x.ad
 grind [a7]
theorem Hp{x:cm}{r:Rec}{k:Key}(hr:r.av=x.ad) (h:az x k=true):az {x with ah:=eh x.ah r} k=true:=by
 obtain⟨q,h1,i⟩:=aR.1 h
 by_cases e:k=r.key
 ·
  exact aR.2 ⟨r,by show aA (eh x.ah r) k=_;rw [cN,if_pos e],hr⟩
 exact aR.2 ⟨q,by show aA (eh x.ah r) k=_;rw [cN,if_neg e,h1],i⟩
theorem jg{x:cm}{r:Rec}(hr:r.av=x.ad):az {x with ah:=eh x.ah r} r.key=true:=
 aR.2 ⟨r,by show aA (eh x.ah r) r.key=_;rw [cN,if_pos rfl],hr⟩
theorem Ef(l:List Rec) (rev:Int) (k:Key):k∈aB l rev k:=by grind [aB,oe]
structure iF (s s':ES):Prop where
 on:∀k,s'.on k=s.on k
 up:∀k,az s.b k=true→az s'.b k=true
theorem iF.refl(s:ES):iF s s:=⟨fun _=>rfl,fun _ h=>h⟩
theorem iF.trans{s t u:ES}(h:iF s t) (i:iF t u):iF s u:=⟨fun k=>(i.on k).trans (h.on k),fun k hk=>i.up k (h.up k hk)⟩
theorem iF.there{s s':ES}(h:iF s s') {k:Key}(ht:ep s k=true):ep s' k=true:=by
 unfold ep at ht ⊢
 rw [h.on k];simp only [Bool.or_eq_true] at ht ⊢
 rcases ht with h1 | h1 | h1
 ·
  exact .inl h1
 ·
  exact .inr (.inl h1)
 exact .inr (.inr (h.up k h1))
def gC(aa:List aG) (s:ES):Nat:=Dz (fun i=>!az s.b (aL aa (i:Int)) && !s.on (aL aa (i:Int))) aa.length
def off(aa:List aG) (s:ES):Nat:=Dz (fun i=>!s.on (aL aa (i:Int))) aa.length
theorem iF.gC{aa:List aG}{s s':ES}(h:iF s s'):gC aa s'≤gC aa s:=rC fun i _ j=>by
 simp only [Bool.and_eq_true,Bool.not_eq_true'] at j ⊢;rw [h.on] at j;refine⟨?_,j.2⟩
 cases hu:az s.b (aL aa (i:Int)) with
 | false=>rfl
 | true=>rw [h.up _ hu] at j;exact absurd j.1 (by simp)
theorem iF.off{aa:List aG}{s s':ES}(h:iF s s'):Go.Rc.off aa s'=Go.Rc.off aa s:=by
 unfold Go.Rc.off
 congr 1
 funext i
 rw [h.on]
section
variable {aa:List aG}{val:Key→ByteArray}{aC:List cv}
theorem nv(s:ES) (k k':Key):ES.on {s with busy:=cL s.busy k (.bool true)} k'=(decide (k=k') || s.on k'):=by
 unfold ES.on
 simp only [ef]
 by_cases h:k=k' <;> simp [h]
theorem Eg{s:ES}(hn:(s.busy.map (·.1)).Nodup) (k k':Key):ES.on {s with busy:=iW s.busy k} k'=(!decide (k=k') && s.on k'):=by
 unfold ES.on
 simp only [Bn hn]
 by_cases h:k=k' <;> simp [h]
def UpK(aa:List aG) (val:Key→ByteArray) (aC:List cv) (f:Nat):Prop:=∀s k s',kV aa val f s k=some s'→Good aa aC s→dX aa k→iF s s'∧(s'.e=0→s.e=0∧(ay k=true∨ep s' k=true))∧s'.bj.length+gC aa s'≤s.bj.length+gC aa s
def ChK(aa:List aG) (val:Key→ByteArray) (aC:List cv) (f:Nat):Prop:=∀s k n s' b,cP aa val f s k n=some (s',b)→Good aa aC s→iF s s'∧(s'.e=0→s.e=0∧(b=false→az s'.b k=true))∧s'.bj.length+gC aa s'≤s.bj.length+gC aa s
def RuK(aa:List aG) (val:Key→ByteArray) (aC:List cv) (f:Nat):Prop:=∀s k reads ae s',gQ aa val f s k reads ae=some s'→Good aa aC s→hh aa k ae.length→iF s s'∧(s'.e=0→s.e=0∧az s'.b k=true)∧(s'.bj.length+gC aa s'≤s.bj.length+gC aa s∨(az s'.b k=true∧s'.bj.length+gC aa s'≤s.bj.length+gC aa s+1))
theorem iF.err(s:ES) (e:Int):iF s {s with e:=e}:=⟨fun _=>rfl,fun _ h=>h⟩
theorem iF.mark(s:ES) (g:List Key) (d:Bool):iF s {s with b:=cH s.b g d}:=⟨fun _=>rfl,fun _ h=>Ee h⟩
theorem iy(hR:aq aa):∀f,UpK aa val aC f∧ChK aa val aC f∧RuK aa val aC f:=by
 intro f
 induction f with
 | zero=>exact⟨fun s k s' h=>by simp [kV] at h,fun s k n s' b h=>by simp [cP] at h,fun s k r a s' h=>by simp [gQ] at h⟩
 | succ f ih=>
  obtain⟨S,D,F⟩:=ih;have gd:=cy (val:=val) (aC:=aC) hR f;refine⟨?_,?_,?_⟩
  ·
   intro s k s' h p hk
   unfold kV at h
   split at h
   ·
    rename_i he
    cases h
    refine⟨.refl _,fun h0=>⟨h0,?_⟩,Nat.le_refl _⟩
    grind
   rename_i he
   have he0:s.e=0:=by simp at he;exact he.1
   have G:ay k=false:=by simp at he;exact he.2
   split at h
   ·
    rename_i hu
    cases h
    exact⟨.refl _,fun h0=>⟨h0,.inr (by unfold ep;rw [hu];simp)⟩,Nat.le_refl _⟩
   rename_i hu
   split at h
   ·
    rename_i H
    split at h
    ·
     rename_i hc
     cases h
     exact⟨.refl _,fun h0=>⟨h0,.inr (by unfold ep;rw [H,hc];simp)⟩,Nat.le_refl _⟩
    cases h
    exact⟨.err _ _,fun h0=>by simp at h0,Nat.le_refl _⟩
   rename_i H
   have hu':az s.b k=false:=by simpa using hu
   have Lu:s.on k=false:=by simpa using H
   obtain⟨⟨s2,b2⟩,z,h⟩:=Option.bind_eq_some_iff.1 h;obtain⟨o,ht,h⟩:=Option.bind_eq_some_iff.1 h;simp only [Option.some.injEq] at h;subst h;obtain⟨i,hi,hki,_⟩:=hk.gL G;obtain⟨I,_⟩:=gd.2.1 _ _ _ _ _ z (p.on k);obtain⟨U,he2,ht2⟩:=D _ _ _ _ _ z (p.on k)
   -- the state before, with k under way
   have h1:gC aa {s with busy:=cL s.busy k (.bool true)}+1≤gC aa s:=by
    refine rD (j:=i) (fun j _ v=>?_) hi ?_ ?_
    ·
     simp only [nv,Bool.and_eq_true,Bool.not_eq_true',Bool.or_eq_false_iff] at v ⊢;exact⟨v.1,v.2.2⟩
    ·
     grind
    grind [nv]
   have B:Good aa aC o∧iF s2 o∧(o.e=0→s2.e=0∧az o.b k=true)∧(o.bj.length+gC aa o≤s2.bj.length+gC aa s2∨(az o.b k=true∧o.bj.length+gC aa o≤s2.bj.length+gC aa s2+1)):=by
    split at ht
    ·
     obtain⟨a,b,c⟩:=F _ _ _ _ _ ht I (hk.gL G);exact⟨(gd.2.2 _ _ _ _ _ ht I (hk.gL G) rfl (fun a C=>by cases C)).1,a,b,c⟩
    rename_i hb
    simp only [Option.some.injEq] at ht;subst ht;exact⟨I,.refl _,fun h0=>⟨h0,(he2 h0).2 (by simpa using hb)⟩,.inl (Nat.le_refl _)⟩
   obtain⟨J,V,he3,ht3⟩:=B
   have Iy:∀k',o.on k'=(decide (k=k') || s.on k'):=fun k'=>by rw [V.on,U.on,nv]
   have q:iF s {o with busy:=iW o.busy k}:=⟨fun k'=>by
    rw [Eg J.j5,Iy]
    grind,fun k' h=>V.up _ (U.up _ h)⟩
   refine⟨q,fun h0=>⟨he0,.inr ?_⟩,?_⟩
   ·
    have:=(he3 h0).2
    show ep {o with busy:=iW o.busy k} k=true
    unfold ep
    grind
   show o.bj.length+gC aa {o with busy:=iW o.busy k}≤_
   have amK:s2.bj.length+gC aa s2≤s.bj.length+gC aa {s with busy:=cL s.busy k (.bool true)}:=ht2
   by_cases hu3:az o.b k=true
   ·
    have:gC aa {o with busy:=iW o.busy k}≤gC aa o:=rC fun j _ v=>by
     simp only [Eg J.j5,Bool.and_eq_true,Bool.not_eq_true',Bool.and_eq_false_iff] at v ⊢
     grind
    omega
   have y:gC aa {o with busy:=iW o.busy k}≤gC aa o+1:=Gr (j:=i) fun j v Bg z=>by
    simp only [Eg J.j5,Bool.and_eq_true,Bool.not_eq_true',Bool.and_eq_false_iff] at z ⊢
    grind [dY]
   grind
  ·
   intro s k n s' b h p
   unfold cP at h
   split at h
   ·
    rename_i he
    cases h;exact⟨.refl _,fun h0=>absurd h0 he,Nat.le_refl _⟩
   split at h
   ·
    cases h;exact⟨.refl _,fun h0=>⟨h0,fun hb=>by cases hb⟩,Nat.le_refl _⟩
   rename_i hf
   have W:(aA s.b.ah k).isSome=true:=by grind
   split at h
   ·
    rename_i hv
    cases h;exact⟨.refl _,fun h0=>⟨h0,fun _=>by unfold az;rw [W,hv];simp⟩,Nat.le_refl _⟩
   split at h
   ·
    cases h
    have q:iF s {s with b:=cH s.b (aB s.b.ah s.b.ad k) false}:=.mark _ _ _;exact⟨q,fun h0=>⟨h0,fun _=>gZ W (Ef _ _ _)⟩,Nat.add_le_add_left q.gC _⟩
   rename_i c hc
   split at h
   ·
    obtain⟨t,ht,h⟩:=Option.bind_eq_some_iff.1 h;obtain⟨h1,O,B⟩:=S _ _ _ ht p (fT p hc);obtain⟨Q,y,X⟩:=D _ _ _ _ _ h (gd.1 _ _ _ ht p (fT p hc)).1;exact⟨h1.trans Q,fun h0=>⟨(O (y h0).1).1,(y h0).2⟩,Nat.le_trans X B⟩
   split at h
   ·
    split at h <;> cases h
    ·
     have q:iF s {s with b:=cH s.b (aB s.b.ah s.b.ad k) true}:=.mark _ _ _;exact⟨q,fun h0=>⟨h0,fun hb=>by cases hb⟩,Nat.add_le_add_left q.gC _⟩
    exact⟨.refl _,fun h0=>⟨h0,fun hb=>by cases hb⟩,Nat.le_refl _⟩
   exact D _ _ _ _ _ h p
  intro s k reads ae s' h p C
  unfold gQ at h
  split at h
  ·
   rename_i he
   cases h;exact⟨.refl _,fun h0=>absurd h0 he,.inl (Nat.le_refl _)⟩
  rename_i he
  split at h
  ·
   split at h
   ·
    cases h;exact⟨.err _ _,fun h0=>by simp at h0,.inl (Nat.le_refl _)⟩
   cases h
   have q:iF s {s with b:={s.b with ah:=eh s.b.ah (bF s.b k (aH aa k ae).value reads)},bj:=s.bj++[k]}:=⟨fun _=>rfl,fun _ h=>Hp rfl h⟩;have hu:az ({s.b with ah:=eh s.b.ah (bF s.b k (aH aa k ae).value reads)}:cm) k=true:=jg (r:=bF s.b k (aH aa k ae).value reads) rfl;refine⟨q,fun h0=>⟨h0,hu⟩,.inr ⟨hu,?_⟩⟩
   have:=q.gC (aa:=aa)
   grind
  rename_i hd
  obtain⟨t,ht,h⟩:=Option.bind_eq_some_iff.1 h;have hn:=C.next hR (by simpa using hd);obtain⟨h1,O,B⟩:=S _ _ _ ht p hn.2;have Y:=(gd.1 _ _ _ ht p hn.2).1
  have h7:iF t s'∧(s'.e=0→t.e=0∧az s'.b k=true)∧(s'.bj.length+gC aa s'≤t.bj.length+gC aa t∨(az s'.b k=true∧s'.bj.length+gC aa s'≤t.bj.length+gC aa t+1)):=by
   split at h
   ·
    exact F _ _ _ _ _ h Y (by simpa using hn.1)
   exact F _ _ _ _ _ h Y C
  obtain⟨Q,y,X⟩:=h7;refine⟨h1.trans Q,fun h0=>⟨(O (y h0).1).1,(y h0).2⟩,?_⟩
  grind
/-! ### more fuel does no harm -/
theorem ny:∀f,(∀s k s',kV aa val f s k=some s'→kV aa val (f+1) s k=some s')∧(∀s k n p,cP aa val f s k n=some p→cP aa val (f+1) s k n=some p)∧(∀s k r a s',gQ aa val f s k r a=some s'→gQ aa val (f+1) s k r a=some s'):=by
 intro f
 induction f with
 | zero=>grind [kV,cP,gQ]
 | succ f o=>
  obtain⟨v,y,z⟩:=o;refine⟨?_,?_,?_⟩
  ·
   intro s k s' h
   unfold kV at h ⊢
   split at h
   ·
    grind
   rename_i h1;rw [if_neg h1]
   split at h
   ·
    grind
   rename_i i;rw [if_neg i]
   split at h
   ·
    grind
   rename_i j;rw [if_neg j]
   obtain⟨p,B,h⟩:=Option.bind_eq_some_iff.1 h;obtain⟨C,ht,h⟩:=Option.bind_eq_some_iff.1 h
   grind
  ·
   intro s k n p h
   unfold cP at h ⊢
   split at h
   ·
    grind
   rename_i h1;rw [if_neg h1]
   split at h
   ·
    grind
   rename_i i;rw [if_neg i]
   split at h
   ·
    grind
   rename_i j;rw [if_neg j]
   split at h
   ·
    exact h
   rename_i c hc
   split at h
   ·
    rename_i q;rw [if_pos q]
    grind [Option.bind_eq_some_iff]
   grind
  intro s k r a s' h
  unfold gQ at h ⊢
  split at h
  ·
   grind
  rename_i h1;rw [if_neg h1]
  split at h
  ·
   grind
  rename_i i;rw [if_neg i]
  obtain⟨t,ht,h⟩:=Option.bind_eq_some_iff.1 h
  grind
theorem og{f g:Nat}(h:f≤g) {s:ES}{k:Key}{s':ES}(hu:kV aa val f s k=some s'):kV aa val g s k=some s':=by
 induction h with
 | refl=>exact hu
 | step _ i=>exact(ny _).1 _ _ _ i
theorem pq{f g:Nat}(h:f≤g) {s:ES}{k:Key}{n:Nat}{p:ES × Bool}(hu:cP aa val f s k n=some p):cP aa val g s k n=some p:=by
 induction h with
 | refl=>exact hu
 | step _ i=>exact(ny _).2.1 _ _ _ _ i
theorem uw{f g:Nat}(h:f≤g) {s:ES}{k:Key}{r:List Key}{a:List ByteArray}{s':ES}(hu:gQ aa val f s k r a=some s'):gQ aa val g s k r a=some s':=by
 induction h with
 | refl=>exact hu
 | step _ i=>exact(ny _).2.2 _ _ _ _ _ i
/-! ### there is fuel enough -/
theorem Eh(hR:aq aa) {d:Nat}(D:∀s k,Good aa aC s→dX aa k→off aa s≤d→∃f s',kV aa val f s k=some s') (k:Key) :
  ∀(m:Nat) (s:ES) (n:Nat),gC aa s*200000000+(200000000 - n)≤m→n≤100000000→Good aa aC s→off aa s≤d→∃f p,cP aa val f s k n=some p:=by
 intro m
 induction m using Nat.strongRecOn with
 | _ m B=>
  intro s n hm hn h v
  by_cases h1:s.e≠0
  ·
   exact⟨1,(s,false),by unfold cP;rw [if_pos h1]⟩
  by_cases o:(!(aA s.b.ah k).isSome || (aD s.b.ah k).bA)=true
  ·
   exact⟨1,(s,true),by unfold cP;rw [if_neg h1,if_pos o]⟩
  by_cases r:(aD s.b.ah k).av=s.b.ad
  ·
   exact⟨1,(s,false),by unfold cP;grind⟩
  have F:(aB s.b.ah s.b.ad k).length≤4001:=by grind [kl,Good.len]
  have W:=tN h F
  cases hc:(bR s.b.ah (aB s.b.ah s.b.ad k))[n]? with
  | none=>exact⟨1,_,by unfold cP;rw [if_neg h1,if_neg o,if_neg r,hc]⟩
  | some c=>
   have X:n<(bR s.b.ah (aB s.b.ah s.b.ad k)).length:=(List.getElem?_eq_some_iff.1 hc).1
   by_cases y:ep s c.read=false
   ·
    obtain⟨f,t,ht⟩:=D s c.read h (fT h hc) v;obtain⟨z,Y,_⟩:=(iy (val:=val) hR f).1 _ _ _ ht h (fT h hc);have G:=((cy (val:=val) hR f).1 _ _ _ ht h (fT h hc)).1
    have H:ay c.read=false:=by grind [ep]
    by_cases I:t.e=0
    ·
     obtain⟨i,hi,C,_⟩:=(fT h hc).gL H
     have Ml:ep t c.read=true:=by grind
     have AH:gC aa t+1≤gC aa s:=by
      have J:az s.b c.read=false:=by grind [ep]
      have hoc:(s.on c.read && ax c.read)=false:=by grind [ep]
      have O:az t.b c.read=true:=by grind [ep,iF.on]
      have Q:s.on c.read=false:=by
       cases ho:s.on c.read with
       | false=>rfl
       | true=>
        exfalso
        cases f with
        | zero=>simp [kV] at ht
        | succ f=>
         unfold kV at ht
         grind
      refine rD (j:=i) (fun j _ q=>?_) hi ?_ ?_
      ·
       simp only [Bool.and_eq_true,Bool.not_eq_true'] at q ⊢;rw [z.on] at q;refine⟨?_,q.2⟩
       cases S:az s.b (aL aa (j:Int)) with
       | false=>rfl
       | true=>rw [z.up _ S] at q;exact absurd q.1 (by simp)
      ·
       rw [← C,J,Q];rfl
      rw [← C,O];rfl
     obtain⟨f2,p,U⟩:=B (gC aa t*200000000+(200000000 - n)) (by omega) t n (Nat.le_refl _) hn G (by rw [z.off];exact v);refine⟨max f f2+1,p,?_⟩
     unfold cP
     rw [if_neg h1,if_neg o,if_neg r,hc]
     simp only
     rw [if_pos y,og (Nat.le_max_left _ _) ht]
     grind [pq,Nat.le_max_right]
    refine⟨max f 1+1,(t,false),?_⟩
    unfold cP
    rw [if_neg h1,if_neg o,if_neg r,hc]
    simp only
    rw [if_pos y,og (Nat.le_max_left _ _) ht];refine pq (f:=1) (Nat.le_max_right _ _) ?_
    unfold cP
    rw [if_pos I]
   by_cases V:(aD s.b.ah c.dC).av<aV val s.b c.read
   ·
    exact⟨1,_,by unfold cP;rw [if_neg h1,if_neg o,if_neg r,hc];simp only;rw [if_neg y,if_pos V]⟩
   obtain⟨f2,p,U⟩:=B (gC aa s*200000000+(200000000 - (n+1))) (by omega) s (n+1) (Nat.le_refl _) (by omega) h v;refine⟨f2+1,p,?_⟩
   unfold cP
   grind
theorem Jy(hR:aq aa) {d:Nat}(v:∀s k,Good aa aC s→dX aa k→off aa s≤d→∃f s',kV aa val f s k=some s') (k:Key) :
  ∀(m:Nat) (s:ES) (reads:List Key) (ae:List ByteArray),7 - ae.length≤m→Good aa aC s→hh aa k ae.length→off aa s≤d→∃f s',gQ aa val f s k reads ae=some s':=by
 intro m
 induction m with
 | zero=>intro s r a hm _ i _;have:=i.le hR;omega
 | succ m y=>
  intro s reads ae hm j i p
  by_cases h1:s.e≠0
  ·
   exact⟨1,s,by unfold gQ;rw [if_pos h1]⟩
  by_cases h:(aH aa k ae).done=true
  ·
   by_cases q:(!(aA s.b.ah k).isSome && decide (4000≤s.b.ah.length))=true
   ·
    exact⟨1,_,by unfold gQ;rw [if_neg h1,if_pos h,if_pos q]⟩
   exact⟨1,_,by unfold gQ;rw [if_neg h1,if_pos h,if_neg q]⟩
  have hn:=i.next hR (by simpa using h);obtain⟨f,t,ht⟩:=v s _ j hn.2 p;obtain⟨z,_,_⟩:=(iy (val:=val) hR f).1 _ _ _ ht j hn.2;have B:=((cy (val:=val) hR f).1 _ _ _ ht j hn.2).1
  by_cases o:t.e=0
  ·
   obtain⟨f2,s',C⟩:=y t (reads++[(aH aa k ae).ask]) (ae++[bS val t.b (aH aa k ae).ask]) (by simp;omega) B (by simpa using hn.1) (by rw [z.off];exact p);refine⟨max f f2+1,s',?_⟩
   unfold gQ
   rw [if_neg h1,if_neg h,og (Nat.le_max_left _ _) ht];simp only [Option.bind_some];rw [if_pos o]
   grind [uw,Nat.le_max_right]
  refine⟨max f 1+1,t,?_⟩
  unfold gQ
  rw [if_neg h1,if_neg h,og (Nat.le_max_left _ _) ht];simp only [Option.bind_some];rw [if_neg o];refine uw (f:=1) (Nat.le_max_right _ _) ?_
  unfold gQ
  rw [if_pos o]
theorem Mm(hR:aq aa):∀(d:Nat) (s:ES) (k:Key),Good aa aC s→dX aa k→off aa s≤d→∃f s',kV aa val f s k=some s':=by
 intro d
 induction d with
 | zero=>
  intro s k p hk C
  by_cases h1:s.e≠0∨ay k=true
  ·
   exact⟨1,s,by unfold kV;rw [if_pos h1]⟩
  by_cases h:az s.b k=true
  ·
   exact⟨1,s,by unfold kV;rw [if_neg h1,if_pos h]⟩
  by_cases o:s.on k=true
  ·
   by_cases q:ax k=true
   ·
    exact⟨1,s,by unfold kV;grind⟩
   exact⟨1,_,by unfold kV;rw [if_neg h1,if_neg h,if_pos o,if_neg q]⟩
  exfalso
  obtain⟨i,hi,r,_⟩:=hk.gL (by simp at h1;exact h1.2)
  have:off aa {s with busy:=cL s.busy k (.bool true)}+1≤off aa s:=by
   refine rD (j:=i) (fun j _ D=>?_) hi ?_ ?_
   ·
    grind [nv]
   ·
    rw [← r];simpa using o
   grind [nv]
  omega
 | succ d y=>
  intro s k p hk C
  by_cases h1:s.e≠0∨ay k=true
  ·
   exact⟨1,s,by unfold kV;rw [if_pos h1]⟩
  by_cases h:az s.b k=true
  ·
   exact⟨1,s,by unfold kV;rw [if_neg h1,if_pos h]⟩
  by_cases o:s.on k=true
  ·
   by_cases q:ax k=true
   ·
    exact⟨1,s,by unfold kV;grind⟩
   exact⟨1,_,by unfold kV;rw [if_neg h1,if_neg h,if_pos o,if_neg q]⟩
  have z:ay k=false:=by simp at h1;exact h1.2
  obtain⟨i,hi,r,_⟩:=hk.gL z
  have H:off aa {s with busy:=cL s.busy k (.bool true)}+1≤off aa s:=by
   refine rD (j:=i) (fun j _ D=>?_) hi ?_ ?_
   ·
    grind [nv]
   ·
    rw [← r];simpa using o
   grind [nv]
  obtain⟨f,⟨s2,b2⟩,v⟩:=Eh (val:=val) hR y k _ {s with busy:=cL s.busy k (.bool true)} 0 (Nat.le_refl _) (by omega) (p.on k) (by omega);have F:=((cy (val:=val) hR f).2.1 _ _ _ _ _ v (p.on k)).1;have G:=((iy (val:=val) hR f).2.1 _ _ _ _ _ v (p.on k)).1
  cases b2 with
  | false=>
   refine⟨f+1,{s2 with busy:=iW s2.busy k},?_⟩
   unfold kV
   grind
  | true=>
   obtain⟨f2,B,I⟩:=Jy (val:=val) hR y k _ s2 [] [] (Nat.le_refl _) F (hk.gL z) (by rw [G.off];omega);refine⟨max f f2+1,{B with busy:=iW B.busy k},?_⟩
   unfold kV
   rw [if_neg h1,if_neg h,if_neg o,pq (Nat.le_max_left _ _) v];simp only [Option.bind_some,if_true]
   grind [uw,Nat.le_max_right]
end
end Go.Rc

namespace Go.Rc
open Go
noncomputable def dK(aa:List aG) (val:Key→ByteArray) (f:Nat):ES→List Key→Option ES
 | s,[]=>some s
 | s,k::r=>(kV aa val f s k).bind fun t=>dK aa val f t r
def ES.base(s:ES) (x:cm):cm:=if s.e=0 then s.b else x
noncomputable def ES.list(s:ES):List Key:=if s.e=0 then jP s.bj else []
theorem pr{aa:List aG}{aC:List cv}{val:Key→ByteArray}(hR:aq aa) {f:Nat}:∀{l:List Key}{s s':ES},dK aa val f s l=some s'→Good aa aC s→(∀k∈l,dX aa k)→Good aa aC s'∧Gq s s'
 | [],s,s',h,i,_=>by simp only [dK,Option.some.injEq] at h;subst h;exact⟨i,.refl _⟩
 | k::r,s,s',h,i,hk=>by
  simp only [dK] at h;obtain⟨t,h1,p⟩:=Option.bind_eq_some_iff.1 h;have j:=(cy (val:=val) hR f).1 _ _ _ h1 i (hk k (by simp))
  have o:=pr hR p j.1 fun k q=>hk k (by simp [q])
  exact⟨o.1,j.2.trans o.2⟩
theorem St.V3{κ:Type}{enc:κ→Value}{w0 w:World}{M Z:Nat→Prop}{l:List As}{s m T:Nat}{cs:List Value}{q:List (κ × Value)}(h:St w0 M Z w (As.blk s T cs::As.map enc m q::l)):s≠m:=fun e=>by
 have h1:=(List.pairwise_cons.1 h.ry).1 (As.map enc m q) (by simp) s rfl;exact h1 e
end Go.Rc

namespace Go.Rc
open Go
/-! ### the order of keys -/
theorem xK:∀a b:List UInt8,Lib.compareBytes b a = - Lib.compareBytes a b
 | [],[]=>rfl
 | [],_::_=>rfl
 | _::_,[]=>rfl
 | x::a,y::b=>by
  simp only [Lib.compareBytes]
  by_cases h1:x<y
  ·
   grind
  by_cases h:y<x
  ·
   grind
  rw [if_neg h,if_neg h1,if_neg h1,if_neg h,xK a b]
theorem ux:∀a b c:List UInt8,Lib.compareBytes a b<0→Lib.compareBytes b c<0→Lib.compareBytes a c<0
 | _,[],[],_,h=>by simp [Lib.compareBytes] at h
 | [],[],_::_,h,_=>by simp [Lib.compareBytes] at h
 | _::_,[],_::_,h,_=>by simp [Lib.compareBytes] at h
 | _,_::_,[],_,h=>by simp [Lib.compareBytes] at h
 | [],_::_,_::_,_,_=>by simp [Lib.compareBytes]
 | x::a,y::b,z::c,h1,i=>by
  simp only [Lib.compareBytes] at h1 i ⊢
  by_cases e1:x<y
  ·
   grind
  rw [if_neg e1] at h1
  by_cases e3:y<x
  ·
   rw [if_pos e3] at h1;simp at h1
  rw [if_neg e3] at h1
  by_cases e2:y<z
  ·
   grind
  rw [if_neg e2] at i
  by_cases e4:z<y
  ·
   rw [if_pos e4] at i;simp at i
  rw [if_neg e4] at i;rw [if_neg (by grind),if_neg (by grind)];exact ux a b c h1 i
theorem jh(a b:Key):bC b a = - bC a b:=by
 unfold bC
 by_cases h1:a.kind<b.kind
 ·
  grind
 by_cases h:b.kind<a.kind
 ·
  grind
 rw [if_neg h,if_neg h1,if_neg h1,if_neg h,xK]
theorem il{a b c:Key}(h1:bC a b<0) (h:bC b c<0):bC a c<0:=by
 unfold bC at h1 h ⊢
 by_cases e1:a.kind<b.kind
 ·
  grind
 rw [if_neg e1] at h1
 by_cases e4:b.kind<a.kind
 ·
  rw [if_pos e4] at h1;simp at h1
 rw [if_neg e4] at h1
 by_cases e2:b.kind<c.kind
 ·
  rw [if_pos (by omega)];decide
 rw [if_neg e2] at h
 by_cases e3:c.kind<b.kind
 ·
  rw [if_pos e3] at h;simp at h
 rw [if_neg e3] at h;rw [if_neg (by omega),if_neg (by omega)];exact ux _ _ _ h1 h
def pT(l:List Rec):Prop:=l.Pairwise fun a b=>bC a.key b.key<0
theorem uy(r:Rec):∀l:List Rec,eZ r l true=l.filter fun x=>!decide (bC x.key r.key=0)
 | []=>rfl
 | x::xs=>by
  simp only [eZ,Bool.not_true,Bool.and_false,Bool.false_eq_true,if_false,Bool.true_or,List.nil_append,uy r xs,List.filter_cons]
  grind
theorem pT.put{r:Rec}:∀{l:List Rec},pT l→pT (eh l r)
 | [],_=>by simp [pT,eh,eZ]
 | x::xs,h=>by
  obtain⟨h1,i⟩:=List.pairwise_cons.1 h;have o:pT (eh xs r):=pT.put i;have j:pT (xs.filter fun y=>!decide (bC y.key r.key=0)):=List.Pairwise.filter _ i
  show pT (eZ r (x::xs) false)
  simp only [eZ,Bool.not_false,Bool.and_true,Bool.false_or]
  by_cases c1:bC x.key r.key<0
  ·
   rw [decide_eq_false (show ¬0≤bC x.key r.key by omega),if_neg (show ¬bC x.key r.key=0 by omega)];simp only [Bool.false_eq_true,if_false,List.nil_append,List.singleton_append];refine List.pairwise_cons.2 ⟨fun y hy=>?_,o⟩
   grind [gH]
  rw [decide_eq_true (show 0≤bC x.key r.key by omega),uy];simp only [if_true]
  by_cases c2:bC x.key r.key=0
  ·
   rw [if_pos c2];simp only [List.append_nil,List.singleton_append];refine List.pairwise_cons.2 ⟨fun y hy=>?_,j⟩
   grind [l9]
  rw [if_neg c2];simp only [List.singleton_append,List.cons_append]
  have c3:bC r.key x.key<0:=by rw [jh x.key r.key];omega
  refine List.pairwise_cons.2 ⟨fun y hy=>?_,List.pairwise_cons.2 ⟨fun y hy=>h1 y (List.mem_filter.1 hy).1,j⟩⟩
  grind [il]
theorem pT.nk{l:List Rec}(h:pT l) (hn:l.length≤4000) (o:∀r∈l,eE r=true):nk l:=by
 refine⟨hn,fun i x j=>⟨o x (List.mem_of_getElem? j),fun hi=>?_⟩⟩;obtain⟨hl,rfl⟩:=List.getElem?_eq_some_iff.1 j;rw [getElem!_pos l (i - 1) (by omega)];exact List.pairwise_iff_getElem.1 h (i - 1) i (by omega) hl (by omega)
/-! ### values are short -/
section
variable {aa:List aG}{aC:List cv}
theorem rF{n:Nat}(h:n≤65535):(itoa (n:Int)).size≤6:=by
 have e:Lib.itoa (n:Int)=Lib.decDigits n:=by unfold Lib.itoa;rw [if_neg (by omega)];rfl
 grind [itoa,Lib.decDigits,ByteArray.size]
theorem Ei(hR:aq aa) {i:Nat}(hi:i<aa.length):∃n:Nat,n≤65535∧valOf aa aC (aL aa (i:Int))=itoa (n:Int):=by
 have h1:=fF (aC:=aC) hR hi;rw [gB hR hi (gA _ _ _).2] at h1;have hc:=aq.hb hR _ (List.getElem_mem hi);refine⟨_,oa (kind:=aa[i].final) (c:=aa[i].c.toNat) (l:=(dT (cx aa (aL aa (i:Int))) (valOf aa aC) (cJ aa i)).2.map cD) (by omega) (fun x h=>?_),?_⟩
 ·
  grind [kI]
 grind
theorem Jz(hR:aq aa) {i:Nat}(hi:aa.length≤i):ts aa aC i=⟨#[]⟩:=by
 have hk:aL aa (i:Int)=eR:=by unfold aL;rw [if_pos (by omega)]
 unfold ts ql
 rw [if_neg (by rw [lW hi];simp),hk]
 unfold cx
 rw [if_pos (.inl (by unfold number eR;simp))]
theorem Ej(hR:aq aa) (hi:∀x∈aC,x.value.size≤1000) (k:Key):(valOf aa aC k).size≤1000:=by
 by_cases hk:ay k=true
 ·
  unfold valOf cellOf
  rw [if_pos hk]
  unfold bz
  cases i:aC.find? fun x=>x.key == k with
  | none=>simp [ByteArray.size]
  | some x=>grind
 have e:valOf aa aC k=ts aa aC (number k).toNat:=by unfold valOf;rw [if_neg hk]
 rw [e]
 rcases Nat.lt_or_ge (number k).toNat aa.length with h | h
 ·
  rw [← gY hR h];obtain⟨n,hn,j⟩:=Ei (aC:=aC) hR h
  grind [rF]
 grind [Jz,ByteArray.size]
theorem pw(aa:List aG) (aC:List cv) (i:Nat):(cG aa aC i).length=cJ aa i:=(gA _ _ _).1
theorem px(hR:aq aa) {i:Nat}(hi:i<aa.length):∀a∈cG aa aC i,eT aa i a:=by
 have key:∀n,n≤cJ aa i→∀a∈(dT (cx aa (aL aa (i:Int))) (valOf aa aC) n).1,eT aa i a:=by
  intro n
  induction n with
  | zero=>intro _ a h;simp [dT] at h
  | succ n j=>grind [dT,ek,gA]
 exact key _ (Nat.le_refl _)
theorem dX.valid{k:Key}(h:dX aa k):fS k=true:=by
 cases h with
 | cell h=>
  rename_i n
  have hc:bZ (n:Int)=⟨30,itoa (n:Int)⟩:=by unfold bZ;rw [if_neg (by omega)]
  rw [hc]
  unfold fS number
  simp only [];rw [if_pos (by omega)]
  grind [jW]
 | eX h jo=>
  rename_i i
  have h1:=ck h jo;have j:=eF h jo
  unfold fS
  grind
end
section
variable {aa:List aG}{aC:List cv}{s t:ES}{k:Key}
theorem aJ{l:List Rec}{r:Rec}(h:aA l k=some r):r∈l∧r.key=k:=by grind [aA]
def nz(aa:List aG) (j:Nat):Nat:=if aF aa j then bE aa j else j
def Lw(aa:List aG) (i b:Nat):Prop:=if aF aa i then bE aa i≤b else i<b
def acJ(aa:List aG) (s:ES) (i:Nat):Prop:=∀j:Nat,j<aa.length→s.on (aL aa (j:Int))=true→Lw aa i (nz aa j)
def UX(aa:List aG) (s:ES) (i:Nat):Prop:=∀j:Nat,j<aa.length→s.on (aL aa (j:Int))=true→j=i∨Lw aa i (nz aa j)
theorem Gt(hR:aq aa) {i:Nat}(hi:i<aa.length) {ae:List ByteArray}(hn:ae.length<cJ aa i) :
  ∃a,cx aa (aL aa (i:Int)) ae=⟨false,⟨#[]⟩,a⟩∧eT aa i a∧∀m:Nat,m<aa.length→a=aL aa (m:Int)→Lw aa m (nz aa i)∧∀b,Lw aa i b→Lw aa m b:=by
 have G:=hR.len;obtain⟨a,h1,h,o⟩:=ek hR hi hn;refine⟨a,h1,h,fun m hm p=>?_⟩;have hb:=gu aa m
 cases hr:aF aa i with
 | false=>
  have H:m<i:=by
   rcases h with⟨n,j,rfl⟩ | ⟨q,j,rfl,_,r,_⟩
   ·
    grind [bp,dj]
   grind [dY]
  unfold Lw nz
  grind
 | true=>
  unfold Lw nz
  rw [hr];simp only [if_true]
  cases I:aF aa m with
  | false=>
   have J:m<bE aa i:=by
    rcases h with⟨n,j,rfl⟩ | ⟨q,j,rfl,_,_,_,r⟩
    ·
     grind [bp,dj]
    grind [dY]
   grind
  | true=>
   obtain⟨x,v,y⟩:=o hr;have z:=List.mem_of_getElem? v
   have B:outside aa x=false:=by grind [jd,bd]
   obtain⟨O,C,D,F⟩:=ij hR hi hr z B
   have:=dY hR F hm (D.symm.trans (y.symm.trans p))
   subst this;have Q:=kg hR (cU.step cU.refl C)
   grind
end
end Go.Rc

namespace Go.Rc
open Go
theorem fm(x:Rec):eE x=true↔(∀a∈x.reads,fS a=true)∧fS x.key=true∧ay x.key=false∧(x.value.size:Int)≤1073741824∧(x.reads.length:Int)≤4000∧0≤x.changed∧x.changed≤x.av∧x.av≤1073741824∧1≤x.cost∧x.cost≤1073741824∧(x.bA=false∨ax x.key=true):=by
 unfold eE gp
 grind
structure xL (s:ES):Prop where
 st:pT s.b.ah
 v:∀r∈s.b.ah,eE r=true∧r.av≤s.b.ad
 r0:0≤s.b.ad
 r1:s.b.ad≤1073741824
section
variable {aa:List aG}{aC:List cv}{val:Key→ByteArray}{s t:ES}{k:Key}
theorem pT.map{l:List Rec}(h:pT l) {f:Rec→Rec}(i:∀r,(f r).key=r.key):pT (l.map f):=by grind [pT]
theorem xL.BN(h:xL s) (g:List Key):xL {s with b:=cH s.b g false}:=by
 refine⟨h.st.map fun r=>(cR _ _ _ r).1,fun r hr=>?_,h.r0,h.r1⟩;obtain⟨q,o,rfl⟩:=List.mem_map.1 hr;obtain⟨h1,p⟩:=h.v q o;have h0:=h.r0;have y:=h.r1
 unfold a7
 by_cases hk:q.key∈g
 ·
  rw [if_pos hk];simp only [Bool.false_eq_true,if_false];rw [fm] at h1 ⊢;obtain⟨a,b,c,d,e,f,g,i,j,k,l⟩:=h1;exact⟨⟨a,b,c,d,e,f,by grind,y,j,k,l⟩,Int.le_refl _⟩
 rw [if_neg hk];exact⟨h1,p⟩
theorem xL.BO(h:xL s) {g:List Key}(hc:∀x∈g,ax x=true):xL {s with b:=cH s.b g true}:=by
 refine⟨h.st.map fun r=>(cR _ _ _ r).1,fun r hr=>?_,h.r0,h.r1⟩;obtain⟨q,p,rfl⟩:=List.mem_map.1 hr;obtain⟨h1,o⟩:=h.v q p
 unfold a7
 by_cases hk:q.key∈g
 ·
  rw [if_pos hk];simp only [if_true];rw [fm] at h1 ⊢;obtain⟨a,b,c,d,e,f,g,i,j,k,l⟩:=h1;exact⟨⟨a,b,c,d,e,f,g,i,j,k,.inr (hc _ hk)⟩,o⟩
 rw [if_neg hk];exact⟨h1,o⟩
theorem py{l:List Rec}{rev:Int}(hk:ax k=true):∀x∈aB l rev k,ax x=true:=fun x h=>by
 unfold aB at h
 split at h
 ·
  rw [oe,List.mem_cons] at h
  rcases h with rfl | h
  ·
   exact hk
  obtain⟨r,hr,rfl⟩:=List.mem_map.1 h
  have:=(List.mem_filter.1 hr).2
  unfold BJ at this
  simp only [Bool.and_eq_true] at this;have i:=(kj.1 this.2.1).gC
  unfold bU at i
  grind
 grind
theorem xL.put(h:xL s) {r:Rec}{bj:List Key}(j:eE r=true) (hr:r.av≤s.b.ad):xL {s with b:={s.b with ah:=eh s.b.ah r},bj:=bj}:=
 ⟨h.st.put,fun q i=>by rcases gH _ _ _ _ i with rfl | i;exact⟨j,hr⟩;exact h.v q i,h.r0,h.r1⟩
theorem Hq(hR:aq aa) {ae:List ByteArray}(h:hh aa k ae.length) (j:(aH aa k ae).done=true):(aH aa k ae).value.size≤6:=by
 obtain⟨i,hi,rfl,hn⟩:=h;have o:=hR.len;rw [dU hi (by omega)] at j ⊢
 rcases Nat.lt_or_ge ae.length (cJ aa i) with p | q
 ·
  grind [ek]
 rw [gB hR hi (by omega)];have hc:=aq.hb hR _ (List.getElem_mem hi);exact rF (oa (by omega) fun x r=>by grind [kI])
theorem pz(hR:aq aa) (h:xL s) {ae:List ByteArray}{reads:List Key}(i:hh aa k ae.length) (q:(aH aa k ae).done=true) (hl:reads.length=ae.length) (hr:∀a∈reads,dX aa a) :
  eE (bF s.b k (aH aa k ae).value reads)=true:=by
 have B:=i.le hR;have C:=Hq hR i q;have h0:=h.r0;have h1:=h.r1;rw [fm]
 unfold bF
 have y:∀c:Int,(c=if (aA s.b.ah k).isSome && decide ((aD s.b.ah k).value=(aH aa k ae).value) then (aD s.b.ah k).changed else s.b.ad)→0≤c∧c≤s.b.ad:=fun c hc=>by
  split at hc
  ·
   rename_i j
   simp only [Bool.and_eq_true] at j;obtain⟨r,z⟩:=Option.isSome_iff_exists.1 j.1;have hm:=(aJ z).1;obtain⟨o,p⟩:=h.v r hm
   grind [fm,aD]
  omega
 obtain⟨o,p⟩:=y _ rfl;exact⟨fun a hm=>(hr a hm).valid,(i.Ix hR).valid,(i.not hR).2,by grind,by grind,o,p,h1,by grind,by grind,.inl rfl⟩
def UpO(aa:List aG) (val:Key→ByteArray) (aC:List cv) (f:Nat):Prop:=∀s k s',kV aa val f s k=some s'→Good aa aC s→xL s→dX aa k→xL s'
def ChO(aa:List aG) (val:Key→ByteArray) (aC:List cv) (f:Nat):Prop:=∀s k n s' b,cP aa val f s k n=some (s',b)→Good aa aC s→xL s→xL s'
def RuO(aa:List aG) (val:Key→ByteArray) (aC:List cv) (f:Nat):Prop:=∀s k reads ae s',gQ aa val f s k reads ae=some s'→Good aa aC s→xL s→hh aa k ae.length→reads.length=ae.length→(∀a∈reads,dX aa a)→xL s'
theorem Hr(hR:aq aa):∀f,UpO aa val aC f∧ChO aa val aC f∧RuO aa val aC f:=by
 intro f
 induction f with
 | zero=>exact⟨fun s k s' h=>by simp [kV] at h,fun s k n s' b h=>by simp [cP] at h,fun s k r a s' h=>by simp [gQ] at h⟩
 | succ f G=>
  obtain⟨D,z,B⟩:=G;have gd:=cy (val:=val) (aC:=aC) hR f;refine⟨?_,?_,?_⟩
  ·
   intro s k s' h j i hk
   unfold kV at h
   split at h
   ·
    cases h;exact i
   rename_i he
   split at h
   ·
    cases h;exact i
   split at h
   ·
    split at h <;> cases h
    ·
     exact i
    exact⟨i.st,i.v,i.r0,i.r1⟩
   obtain⟨p,F,h⟩:=Option.bind_eq_some_iff.1 h;obtain⟨t,ht,h⟩:=Option.bind_eq_some_iff.1 h
   cases h
   have h1:=z _ _ _ p.1 p.2 (by rw [F]) (j.on k) ⟨i.st,i.v,i.r0,i.r1⟩;have q:=(gd.2.1 _ _ _ p.1 p.2 (by rw [F]) (j.on k)).1
   have y:xL t:=by
    split at ht
    ·
     exact B _ _ _ _ _ ht q h1 (hk.gL (by simp at he;exact he.2)) rfl (fun a o=>by cases o)
    cases ht;exact h1
   exact⟨y.st,y.v,y.r0,y.r1⟩
  ·
   intro s k n s' b h j i
   unfold cP at h
   split at h
   ·
    cases h;exact i
   split at h
   ·
    cases h;exact i
   split at h
   ·
    cases h;exact i
   split at h
   ·
    cases h;exact i.BN _
   rename_i c hc
   split at h
   ·
    obtain⟨t,ht,h⟩:=Option.bind_eq_some_iff.1 h;have h1:=D _ _ _ ht j i (fT j hc);exact z _ _ _ _ _ h (gd.1 _ _ _ ht j (fT j hc)).1 h1
   split at h
   ·
    split at h
    ·
     rename_i H
     cases h
     exact i.BO (py H)
    cases h;exact i
   exact z _ _ _ _ _ h j i
  intro s k reads ae s' h j i o hl hr
  unfold gQ at h
  split at h
  ·
   cases h;exact i
  split at h
  ·
   rename_i C
   split at h
   ·
    cases h;exact⟨i.st,i.v,i.r0,i.r1⟩
   cases h
   exact i.put (pz hR i o C hl hr) (Int.le_refl _)
  rename_i C
  obtain⟨t,ht,h⟩:=Option.bind_eq_some_iff.1 h;have hn:=o.next hR (by simpa using C);have h1:=D _ _ _ ht j i hn.2;have q:=(gd.1 _ _ _ ht j hn.2).1
  split at h
  ·
   exact B _ _ _ _ _ h q h1 (by simpa using hn.1) (by simp [hl]) (fun a o=>by grind)
  exact B _ _ _ _ _ h q h1 o hl hr
theorem BP(hR:aq aa) {f:Nat}:∀{l:List Key}{s s':ES},dK aa val f s l=some s'→Good aa aC s→xL s→(∀k∈l,dX aa k)→xL s'
 | [],s,s',h,_,i,_=>by grind [dK]
 | k::r,s,s',h,j,i,hk=>by
  simp only [dK] at h;obtain⟨t,h1,o⟩:=Option.bind_eq_some_iff.1 h
  exact BP hR o ((cy (val:=val) hR f).1 _ _ _ h1 j (hk k (by simp))).1 ((Hr hR f).1 _ _ _ h1 j i (hk k (by simp))) fun k p=>hk k (by simp [p])
end
end Go.Rc

namespace Go.Rc
open Go
theorem Ek{α:Type}{R:α→α→Prop}(ht:∀a b c,R a b→R b c→R a c) {l:List α}(h:∀(i:Nat) (hi:i+1<l.length),R (l[i]'(by omega)) l[i+1]):l.Pairwise R:=by
 refine List.pairwise_iff_getElem.2 fun i j hi o p=>?_;obtain⟨d,rfl⟩:∃d,j=i+1+d:=⟨j - (i+1),by omega⟩
 induction d with
 | zero=>exact h i o
 | succ d q=>grind
def tt(l:List cv):Prop:=l.Pairwise fun a b=>bC a.key b.key<0
def Mn(rev:Int) (x:cv):Prop:=fS x.key=true∧ay x.key=true∧(x.value.size:Int)≤1073741824∧0≤x.changed∧x.changed≤rev
theorem El{rev:Int}{l:List cv}:yL rev l↔tt l∧∀x∈l,Mn rev x:=by
 constructor
 ·
  intro h
  have h1:∀(i:Nat) (hi:i<l.length),Mn rev l[i]∧(0<i→bC (l[i - 1]!).key l[i].key<0):=fun i hi=>by
   have j:=h i _ (ak hi)
   unfold ig at j
   simp only [getElem!_pos l i hi,Bool.or_eq_false_iff,Bool.not_eq_false',Bool.and_eq_false_iff,decide_eq_false_iff_not] at j;obtain⟨a,b,c,d,e,f⟩:=j;exact⟨⟨a,b,by omega,by omega,by omega⟩,fun h0=>by rcases c with c | c <;> omega⟩
  refine⟨Ek (R:=fun a b:cv=>bC a.key b.key<0) (fun a b c h k=>il h k) fun i hi=>?_,fun x o=>?_⟩
  ·
   grind
  grind [List.mem_iff_getElem]
 rintro⟨h1,j⟩ i y hy;obtain⟨hi,rfl⟩:=List.getElem?_eq_some_iff.1 hy;obtain⟨a,b,c,d,e⟩:=j _ (List.getElem_mem hi)
 unfold ig
 simp only [getElem!_pos l i hi,Bool.or_eq_false_iff,Bool.not_eq_false',Bool.and_eq_false_iff,decide_eq_false_iff_not];refine⟨a,b,?_,by omega,by omega,by omega⟩
 by_cases h0:0<i
 ·
  right
  rw [getElem!_pos l (i - 1) (by omega)]
  have:=List.pairwise_iff_getElem.1 h1 (i - 1) i (by omega) hi (by omega)
  omega
 left
 omega
def fU(n:cv):List cv→Bool→List cv
 | [],put=>if put then [] else [n]
 | x::xs,put=>(if decide (0≤bC x.key n.key) && !put then [n] else [])++(if bC x.key n.key=0 then [] else [x])++fU n xs (put || decide (0≤bC x.key n.key))
theorem uz(n:cv):∀(l:List cv) (b:Bool) (x:cv),x∈fU n l b→x=n∨x∈l:=by
 intro l
 induction l with
 | nil=>grind [fU]
 | cons y h i=>grind [fU]
theorem rG(n:cv):∀l:List cv,fU n l true=l.filter fun x=>!decide (bC x.key n.key=0)
 | []=>rfl
 | x::xs=>by
  simp only [fU,Bool.not_true,Bool.and_false,Bool.false_eq_true,if_false,Bool.true_or,List.nil_append,rG n xs,List.filter_cons]
  grind
theorem nA(n:cv):∀(l:List cv) (b:Bool),(fU n l b).length≤l.length+1
 | [],b=>by cases b <;> simp [fU]
 | x::xs,b=>by
  by_cases h:(decide (0≤bC x.key n.key) && !b)=true
  ·
   have hb:(b || decide (0≤bC x.key n.key))=true:=by simp at h;simp [h.1]
   simp only [fU,List.length_append,List.length_cons];rw [if_pos h,hb,rG]
   grind
  have i:=nA n xs (b || decide (0≤bC x.key n.key));simp only [fU,List.length_append,List.length_cons]
  grind
theorem tt.put{n:cv}:∀{l:List cv},tt l→tt (fU n l false)
 | [],_=>by simp [tt,fU]
 | x::xs,h=>by
  obtain⟨h1,i⟩:=List.pairwise_cons.1 h;have o:tt (fU n xs false):=tt.put i;have j:tt (xs.filter fun y=>!decide (bC y.key n.key=0)):=List.Pairwise.filter _ i
  show tt (fU n (x::xs) false)
  simp only [fU,Bool.not_false,Bool.and_true,Bool.false_or]
  by_cases c1:bC x.key n.key<0
  ·
   rw [decide_eq_false (show ¬0≤bC x.key n.key by omega),if_neg (show ¬bC x.key n.key=0 by omega)];simp only [Bool.false_eq_true,if_false,List.nil_append,List.singleton_append];refine List.pairwise_cons.2 ⟨fun y hy=>?_,o⟩
   grind [uz]
  rw [decide_eq_true (show 0≤bC x.key n.key by omega),rG];simp only [if_true]
  by_cases c2:bC x.key n.key=0
  ·
   rw [if_pos c2];simp only [List.append_nil,List.singleton_append];refine List.pairwise_cons.2 ⟨fun y hy=>?_,j⟩
   grind [l9]
  rw [if_neg c2];simp only [List.singleton_append,List.cons_append]
  have c3:bC n.key x.key<0:=by rw [jh x.key n.key];omega
  refine List.pairwise_cons.2 ⟨fun y hy=>?_,List.pairwise_cons.2 ⟨fun y hy=>h1 y (List.mem_filter.1 hy).1,j⟩⟩
  grind [il]
end Go.Rc

namespace Go.Rc
open Go
def Mo(r:aG):Prop:=r.ring=false∧r.asks=[]∧r.final=1∧0≤r.c∧r.c≤99
theorem Mo.key{aa:List aG}{i:Nat}(hi:i<aa.length) (jo:i≤99) (h:Mo aa[i]):aL aa (i:Int)=⟨31,itoa i⟩:=by
 unfold aL
 rw [if_neg (by omega)]
 simp [bW hi,h.1]
end Go.Rc
namespace Go.Rc
open Go
def QN(i:Nat) (v:ByteArray):Rec:=⟨⟨31,itoa i⟩,v,[],0,0,1,false⟩
def uA{α:Type}(l:List α) (p:α→Bool) (j:Int):Prop:=(∃i:Nat,∃x,l[i]?=some x∧p x=true∧(∀j x,j<i→l[j]?=some x→p x=false)∧j=i)∨((∀x∈l,p x=false)∧j = -1)
end Go.Rc
namespace Go.Rc
open Go
structure WD where
 (ar a1 a2:Option Addr) (r cr n1 c1 n2 c2 m v:Nat)
end Go.Rc

namespace Go.Rc
open Go
def wD(a b:Int):Int:=if a<b then -1 else if b<a then 1 else 0
def QO(l:List Int):Int:=(l.find? fun x=>decide (x≠0)).getD 0
theorem QP{l:List Int}{i:Nat}(hi:i<l.length) (o:∀j x,j<i→l[j]?=some x→x=0) (h:l[i]≠0):QO l=l[i]:=by grind [QO,jw]
theorem Mp{l:List Int}(h:∀x∈l,x=0):QO l=0:=by grind [QO,List.find?_eq_none]
theorem Mq{a b:Key}:QO [wD a.kind b.kind,Lib.compareBytes a.text.data.toList b.text.data.toList]=bC a b:=by
 unfold QO wD bC
 grind
theorem BQ{α:Type}{R:α→List Value→Prop}{x y:α}{r s:List Value}(h1:R x r) (h:R y s):∀(i:Nat) (z:α) (t:List Value),[x,y][i]?=some z→[r,s][i]?=some t→R z t:=fun i z t j ht=>by grind
theorem dX.shape{aa:List aG}{k:Key}(h:dX aa k):∃i:Nat,i≤99∧k.text=itoa i∧(30≤k.kind∧k.kind≤32):=by
 cases h with
 | cell h=>rename_i n;exact⟨n,h,by unfold bZ;rw [if_neg (by omega)],by unfold bZ;rw [if_neg (by omega)];simp⟩
 | eX h jo=>rename_i i;exact⟨i,jo,by unfold aL;rw [if_neg (by omega)],by grind [eF]⟩
theorem dX.cZ{aa:List aG}{k:Key}(h:dX aa k):cZ k:=by
 obtain⟨_,_,_,h1⟩:=h.shape;exact .inr (by omega)
theorem qn{aa:List aG}{k:Key}(h:dX aa k) (hc:ax k=true):k.kind=32:=by
 cases h with
 | cell h=>grind [kf]
 | eX h jo=>grind [bd,eF]
theorem uA.any{α:Type}{l:List α}{p:α→Bool}{j:Int}(h:uA l p j):decide (0≤j)=l.any p:=by
 rcases h with⟨i,x,h1,o,_,rfl⟩ | ⟨h1,rfl⟩
 ·
  grind
 grind
def JA(aa:List aG) (x:Rec):Prop:=dX aa x.key∧ay x.key=false∧(∀a∈x.reads,dX aa a)∧eE x=true
def uB(aa:List aG) (x:cm):Prop:=0≤x.ad∧x.ad≤1073741824∧(tt x.ab∧∀y∈x.ab,Mn x.ad y)∧(∀y∈x.ab,∃i:Nat,i≤99∧y.key=⟨30,itoa i⟩)∧x.ab.length≤64∧(∀r∈x.ah,JA aa r)∧pT x.ah∧x.ah.length≤4000∧∀r∈x.ah,r.av≤x.ad
end Go.Rc

namespace Go.Rc
open Go
section
variable {l l':List aG}
def ct(l l':List aG):Prop:=l.map (·.ring)=l'.map (·.ring)
theorem ct.len(h:ct l l'):l.length=l'.length:=by simpa using congrArg List.length h
theorem ct.rg(h:ct l l') (i:Nat):aF l i=aF l' i:=by
 have j:=congrArg (fun x=>x[i]?) h
 grind [aF]
theorem ct.lo(h:ct l l'):∀k,bE l k=bE l' k
 | 0=>rfl
 | k+1=>by unfold bE;rw [h.rg k,h.lo k]
theorem mC:∀{l l':List aG},ct l l'→(l.takeWhile (·.ring)).length=(l'.takeWhile (·.ring)).length
 | [],[],_=>rfl
 | [],_::_,h=>by simp [ct] at h
 | _::_,[],h=>by simp [ct] at h
 | x::r,y::s,h=>by
  simp only [ct,List.map_cons,List.cons.injEq] at h;have i:=mC (l:=r) (l':=s) h.2
  grind [List.takeWhile_cons]
theorem ct.hi(h:ct l l') (m:Nat):dJ l m=dJ l' m:=by grind [dJ,mC,ct,List.map_drop]
theorem ct.block(h:ct l l') (n:Int):block l n=block l' n:=by
 unfold Go.Rc.block
 rw [h.len,h.rg,h.lo,h.hi]
theorem ct.may(h:ct l l') (i:Nat) (c:Bool) (n:Int):gz l i c n=gz l' i c n:=by grind [gz,fE,rg,block]
theorem ct.ask(h:ct l l') (i:Nat) (g:Bool) (k:Nat) (x:Ask):fk l i g k x=fk l' i g k x:=by
 unfold fk
 rw [h.may,h.may]
theorem ct.eX(h:ct l l') (i:Nat) (r:aG):lY l i r↔lY l' i r:=by
 unfold lY
 simp only [h.ask]
theorem ct.set{i:Nat}(hi:i<l.length) {r:aG}(hr:r.ring=aF l i):ct (l.set i r) l:=by
 unfold ct
 rw [List.map_set,hr,bW hi];refine List.ext_getElem? fun j=>?_
 grind
def kW(l:List aG) (i:Nat):Prop:=l.length≤8∧∀(j:Nat) (r:aG),l[j]?=some r→j<i→lY l j r
theorem kW.start(h:l.length≤8):kW l 0:=⟨h,fun _ _ _ h=>by omega⟩
theorem kW.set{i:Nat}(h:kW l i) (hi:i<l.length) {r:aG}(hr:r.ring=aF l i) (q:lY l i r):kW (l.set i r) (i+1):=by
 have p:=ct.set hi hr;refine⟨by rw [List.length_set];exact h.1,fun j x o v=>?_⟩;rw [p.eX];rw [List.getElem?_set] at o
 split at o
 ·
  grind
 exact h.2 j x o (by omega)
theorem kW.ok(h:kW l l.length):aq l:=⟨by have:=h.1;omega,fun i r hr=>h.2 i r hr (List.getElem?_eq_some_iff.1 hr).1⟩
theorem QQ{i k:Nat}{g:Bool}{x:Ask}{most:Int}(hm:most=if x.cell then 4 else fE l i) (h0:0≤x.n) (h1:x.n<most) (h:x.pick=true→g=false∧k≠0∧0≤x.DU∧x.DU<most) (he:x.pick=false→x.DU=0):fk l i g k x=true:=by grind [gz,fk]
end
end Go.Rc

namespace Go.Rc
open Go
def As.hM(E d:Nat):As where
 fp x:=x=d
 ok Z w:=D2 Z w E d
 lt h x hx:=by subst hx;exact h.lt
 mono hZ h:=by
  obtain⟨l,a,n,c,t,h1,h2,h3⟩:=h;exact⟨l,a,n,c,t,h1,SR.mono h2 (fun b hb _=>hZ b hb) (fun _ _ h=>h),h3⟩
 st hs hc h:=by
  obtain⟨l,a,n,c,t,h1,h2,h3⟩:=h;exact⟨l,a,n,c,t,(As.blk d E _).st (Z:=fun _=>False) hs (fun x hx=>hc x (hx.imp id False.elim)) h1,SR.st hs (fun x hx=>hc x (.inr hx)) (fun _ _ h=>h) h2,h3⟩
theorem As.gd{E d:Nat}{Z:Nat→Prop}{w:World}(h:(As.hM E d).ok Z w):D2 Z w E d:=h
def RR.bV:RR Change:=RR.flat Change.cells
def begun(g:Bool):aG:=⟨g,[],0,0⟩
theorem Ow.flat{α:Type}{f:α→List Value}{b T k n:Nat}{Z:Nat→Prop}{w:World}{xs:List α}{l:List Value}(h:bT w b T l) (hl:l=(xs.map f).flatten) (hk:∀x∈xs,(f x).length=k) (h1:∀u∈l,u.oneCell'=true) (hn:n=xs.length) (hm:xs.length≤140737488355328) :
  Ow (RR.flat f) T k Z w (some ⟨b,0,none⟩) n n xs:=by
 subst hn hl
 have hlen:∀(j:List α),(∀x∈j,(f x).length=k)→(j.map f).flatten.length=j.length*k:=by
  intro j
  induction j with
  | nil=>simp
  | cons y j p=>grind
 refine⟨rfl,xs.map f,by simp,by simpa using hk,by simpa using OL.blk (k:=k) h (Nat.zero_le _) (m:=xs.length) (hlen xs hk) h1 hm,fun i x r o hr=>?_⟩;rw [List.getElem?_map,o] at hr
 simp at hr
 exact hr.symm
def As.acK{ι:Type}(b T:Nat) (F:ι→List Value):As where
 fp x:=x=b
 ok _ w:=∃i,bT w b T (F i)
 lt h x hx:=by obtain⟨i,h⟩:=h;subst hx;exact h.lt
 mono _ h:=h
 st hs hc h:=by obtain⟨i,h⟩:=h;exact⟨i,(As.blk b T _).st (Z:=fun _=>False) hs (fun x hx=>hc x (hx.imp id False.elim)) h⟩
theorem Ow.ring{E n c i b:Nat}{Z:Nat→Prop}{w:World}{a:Option Addr}{l:List aG}(h:Ow RR.eX E 4 Z w a n c l) (p:a=some ⟨b,0,none⟩) (hle:l.length≤140737488355328) (hi:i<l.length):w.rangeAt b (0+i*4) [.bool l[i].ring]:=by
 obtain⟨b',r,h1,_,q,y⟩:=Ow.at h hle (ak hi);rw [p] at h1;simp only [Option.some.injEq,Addr.mk.injEq,and_true] at h1;subst h1;obtain⟨z,B,C,rfl,_⟩:=q;intro j v o
 cases j with
 | zero=>exact y 0 v o
 | succ j=>simp at o
theorem yS(l:List aG) (m:Nat) (hm:m≤l.length):dJ l m≤l.length:=by grind [dJ,List.takeWhile_sublist]
theorem wE{l:List aG}{i:Nat}(hi:i<l.length):0≤fE l i∧fE l i≤l.length:=by
 have h1:=yS l (i+1) (by omega)
 have hb:block l (i:Int)=if aF l i then ((bE l i:Int),(dJ l (i+1):Int)) else ((i:Int),(i:Int)+1):=by
  unfold block;grind
 grind [fE]
theorem Hs{l:List aG}{i:Nat}{g:Bool}{xs:List Ask}{x:Ask}(h:∀(k:Nat) y,xs[k]?=some y→fk l i g k y=true) (j:fk l i g xs.length x=true):∀(k:Nat) y,(xs++[x])[k]?=some y→fk l i g k y=true:=fun k y hy=>by grind
end Go.Rc

namespace Go.Rc
open Go
theorem pT.ne{l:List Rec}(h:pT l) {i:Nat}(hi:i<l.length):∀y∈l.take i,y.key≠l[i].key:=fun y hy e=>by
 obtain⟨j,o,rfl⟩:=List.mem_iff_getElem.1 hy
 have p:j<i:=by simp at o;omega
 have h1:bC l[j].key l[i].key<0:=List.pairwise_iff_getElem.1 h j i (by omega) hi p
 grind [jh]
end Go.Rc

namespace Go.Rc
open Go
section
variable {κ:Type}{enc:κ→Value}
def Lx(enc:κ→Value) (w:World) (b m:Nat) (l left:List (κ × Value)) (cur:Option (κ × Value)):Prop:=
 ∃es clock since seen,w.heap[m]?=some (.map es clock)∧(es.toList.map (fun e=>(e.key,e.val))=l.map (fun p=>(enc p.1,p.2))∧(l.map (·.1)).Nodup∧(∀e∈es.toList,e.born<clock)∧(es.toList.map (·.born)).Nodup)∧
  w.heap[b]?=some (.mapIter (some m) since seen clock)∧b≠m∧since≤clock∧(∀e∈es.toList,e.born<since)∧
  (leftOf es seen).toList.map (fun e=>(e.key,e.val))=left.map (fun p=>(enc p.1,p.2))∧
  ∀p,cur=some p→∃e∈es.toList,seen.back?=some e.born∧e.key=enc p.1∧e.val=p.2
variable {w w':World}{b m:Nat}{l left:List (κ × Value)}{cur:Option (κ × Value)}
theorem Lx.lt(h:Lx enc w b m l left cur):b<w.heap.size∧m<w.heap.size:=by
 obtain⟨es,clock,since,seen,h1,_,i,_⟩:=h;exact⟨(Array.getElem?_eq_some_iff.1 i).1,(Array.getElem?_eq_some_iff.1 h1).1⟩
def As.QR(enc:κ→Value) (b m:Nat) (l left:List (κ × Value)) (cur:Option (κ × Value)):As where
 fp x:=x=b∨x=m
 ok _ w:=Lx enc w b m l left cur
 lt h x hx:=by rcases hx with rfl | rfl;exact h.lt.1;exact h.lt.2
 mono _ h:=h
 st hs hc h:=by
  have hl:=h.lt;obtain⟨es,clock,since,seen,h1,h2,h3,h4⟩:=h;exact⟨es,clock,since,seen,by rw [hc m (.inl (.inr rfl)) hl.2];exact h1,h2,by rw [hc b (.inl (.inl rfl)) hl.1];exact h3,h4⟩
theorem As.Mr{Z:Nat→Prop}(h:(As.QR enc b m l left cur).ok Z w):Lx enc w b m l left cur:=h
def xM(enc:κ→Value):Option (κ × Value)→Array Value
 | none=>#[.bool false]
 | some p=>#[.bool true,enc p.1,p.2]
theorem Gu(r:Option (κ × Value)):(xM enc r)[0]?=some (.bool r.isSome):=by cases r <;> rfl
theorem mD:∀(L:List MapEntry) (j:Nat) (e:MapEntry),(L.map (·.born)).Nodup→L[j]?=some e→L.filter (fun x=>!(x.born == e.born))=L.eraseIdx j
 | [],_,_,_,h=>by simp at h
 | x::r,0,e,hn,h=>by
  simp at h
  subst h;simp only [List.map_cons,List.nodup_cons] at hn;rw [List.filter_cons];simp only [beq_self_eq_true,Bool.not_true,Bool.false_eq_true,if_false,List.eraseIdx_zero,List.tail_cons];refine List.filter_eq_self.2 fun y hy=>?_
  have:y.born≠x.born:=fun e=>hn.1 (e ▸ List.mem_map.2 ⟨y,hy,rfl⟩)
  simpa using this
 | x::r,j+1,e,hn,h=>by
  simp only [List.map_cons,List.nodup_cons] at hn;simp only [List.getElem?_cons_succ] at h;have i:x.born≠e.born:=fun o=>hn.1 (o ▸ List.mem_map.2 ⟨e,List.mem_of_getElem? h,rfl⟩);rw [List.filter_cons,if_pos (by simpa using i),mD r j e hn.2 h,List.eraseIdx_cons_succ]
theorem BR(es:Array MapEntry) (seen:Array Nat) (b:Nat):(leftOf es (seen.push b)).toList=(leftOf es seen).toList.filter fun x=>!(x.born == b):=by
 unfold leftOf
 rw [Array.toList_filter,Array.toList_filter,List.filter_filter]
 congr 1
 funext x
 rw [Array.contains_push,Bool.not_or,Bool.and_comm]
theorem map_eraseIdx{α β:Type}(f:α→β):∀(l:List α) (j:Nat),(l.eraseIdx j).map f=(l.map f).eraseIdx j
 | [],_=>by simp
 | _::_,0=>by simp
 | x::r,j+1=>by simp [map_eraseIdx f r j]
variable {P:Program}{kv:KV}{n:Nat}{K:KV→World→Prop}{d:Tmp}{ty:TypeId}{pos:String}{af:Array Edge}{g:Option (Nat × Bool)}{T kt e:TypeId}{x:Operand}
theorem OX.range(hT:P.underlying T=some (.map kt e)) (hm:KM enc w m l) (j:ev kv x=some (.map (some m))) (o:Nat.blt d n=true)
  (h:∀b w',aS [] w w'→w.heap.size≤b→Lx enc w' b m l l none→K ((d,.pointer (some ⟨b,0,none⟩))::kv) w'):OX P ⟨some d,.range T x,ty,pos,af,g⟩ n kv w K:=by
 obtain⟨es,clock,h1,i⟩:=hm;have q:m<w.heap.size:=(Array.getElem?_eq_some_iff.1 h1).1;refine⟨rfl,o,by simp [known,opers,j],?_⟩
 have hr:(execOp (jH kv) ⟨some d,.range T x,ty,pos,af,g⟩).run P w=.ok (.value (.pointer (some ⟨w.heap.size,0,none⟩))) (w.alloc (.mapIter (some m) clock #[] clock)):=by
  simp only [execOp,aK j,Sem.run_bind,run_range_map w T kt e m es clock hT h1,Result.andThen_ok];rfl
 rw [hr];refine h _ _ (j6 _ _) (Nat.le_refl _) ⟨es,clock,clock,#[],by rw [heap_alloc_old w _ (h:=q)];exact h1,i,heap_alloc_new _ _,by omega,Nat.le_refl _,i.2.2.1,?_,fun p r=>by cases r⟩
 have:leftOf es #[]=es:=by unfold leftOf;simp
 rw [this];exact i.1
theorem Ht(hm:Lx enc w b m l left cur):∃(r:Option (κ × Value)) (B:List (κ × Value)) (w':World),(Instr.next (.pointer (some ⟨b,0,none⟩)) false ty).run P w=.ok (.tuple (xM enc r)) w'∧aS [b] w w'∧
  (match r with | none=>left=[]∧B=[] | some p=>∃j,left[j]?=some p∧B=left.eraseIdx j)∧Lx enc w' b m l B r:=by
 obtain⟨es,clock,since,seen,h1,C,h,D,F,i,v,h8⟩:=hm;have S:b<w.heap.size:=(Array.getElem?_eq_some_iff.1 h).1
 have G:∀y∈(leftOf es seen).toList,y∈es.toList:=fun y hy=>by
  unfold leftOf at hy
  rw [Array.toList_filter] at hy;exact(List.mem_filter.1 hy).1
 have J:=next_test_false seen es since clock i F
 have e1:(leftOf es seen).filter (fun x=>decide (x.born<since))=leftOf es seen:=Array.filter_eq_self.2 fun y hy=>by
  have:=i y (G y (by simpa using hy))
  simpa using this
 have e2:(leftOf es seen).filter (fun x=>decide (x.born≥since))=#[]:=by
  rw [Array.filter_eq_empty_iff];intro y hy
  have:=i y (G y (by simpa using hy))
  simp
  omega
 have hlen:(leftOf es seen).size=left.length:=by simpa using congrArg List.length v
 by_cases h0:(leftOf es seen).size=0
 ·
  have U:leftOf es seen=#[]:=Array.eq_empty_of_size_eq_zero h0
  have V:left=[]:=by cases left with
   | nil=>rfl
   | cons a r=>rw [h0] at hlen;simp at hlen
  subst V;refine⟨none,[],w,?_,aS.refl _ _,⟨rfl,rfl⟩,es,clock,since,seen,h1,C,h,D,F,i,v,fun p z=>by cases z⟩;simp only [Instr.next,getObj,Sem.run_bind,Sem.run,h,h1,Result.andThen,J,Bool.false_eq_true,if_false];rw [show(es.filter fun e=>!seen.contains e.born)=leftOf es seen from rfl,U]
  simp [choose,Sem.run,Question.forced,xM]
 have W:(leftOf es seen).isEmpty=false:=by simp [Array.isEmpty,h0]
 have X:∃(j:Nat) (w1:World),j<(leftOf es seen).size∧w1.heap=w.heap∧aS [] w w1∧(choose (Question.mapNext (leftOf es seen).size)).run P w=.ok j w1:=by
  by_cases O:(leftOf es seen).size≤1
  ·
   exact⟨0,w,by omega,rfl,aS.refl _ _,by simp [choose,Sem.run,Question.forced,O]⟩
  exact⟨_,w.drew,Nat.mod_lt _ (by omega),rfl,⟨rfl,rfl,rfl,Nat.le_refl _,Nat.le_succ _,fun _ _ _=>rfl⟩,by
   simp only [choose,Sem.run,Question.forced,decide_eq_true_eq,O,if_false,Question.cut]
   rfl⟩
 obtain⟨j,w1,Y,H,hc1,ju⟩:=X;obtain⟨y,hy⟩:∃y,(leftOf es seen)[j]?=some y:=⟨_,Array.getElem?_eq_getElem Y⟩
 have I:(leftOf es seen).toList[j]?=some y:=by rw [Array.getElem?_toList];exact hy
 have hye:y∈es.toList:=G y (List.mem_of_getElem? I);obtain⟨p,z⟩:∃p,left[j]?=some p:=⟨_,List.getElem?_eq_getElem (by omega)⟩
 have o:(y.key,y.val)=(enc p.1,p.2):=by
  have:=congrArg (fun x=>x[j]?) v
  simp only [List.getElem?_map,I,z,Option.map_some,Option.some.injEq] at this;exact this
 simp only [Prod.mk.injEq] at o
 have hbn:((leftOf es seen).toList.map (·.born)).Nodup:=by
  unfold leftOf
  rw [Array.toList_filter];exact(List.filter_sublist.map _).nodup C.2.2.2
 refine⟨some p,left.eraseIdx j,{w1 with heap:=w1.heap.setIfInBounds b (.mapIter (some m) since (seen.push y.born) clock)},?_,?_,⟨j,z,rfl⟩,es,clock,since,seen.push y.born,?_,C,?_,D,F,i,?_,?_⟩
 ·
  simp only [Instr.next,getObj,Sem.run_bind,Sem.run,h,h1,Result.andThen,J,Bool.false_eq_true,if_false];rw [show(es.filter fun e=>!seen.contains e.born)=leftOf es seen from rfl,e1,e2];simp only [W,Bool.false_eq_true,if_false,Array.empty_append,Array.append_empty,Array.size_map,ju,Array.getElem?_map,hy,Option.map_some]
  have JB:(setObj b (.mapIter (some m) since (seen.push y.born) clock)).run P w1=.ok () {w1 with heap:=w1.heap.setIfInBounds b (.mapIter (some m) since (seen.push y.born) clock)}:=by
   simp only [setObj,Sem.run];rw [H,h]
  simp only [Sem.run_bind,JB,Result.andThen,xM,o.1,o.2]
  try rfl
 ·
  have:=iM w1 b (.mapIter (some m) since (seen.push y.born) clock)
  exact aS.trans (aS.mono hc1 (by simp)) this
 ·
  show(w1.heap.setIfInBounds b _)[m]?=_
  rw [H,Array.getElem?_setIfInBounds_ne D];exact h1
 ·
  show(w1.heap.setIfInBounds b _)[b]?=_
  rw [H,Array.getElem?_setIfInBounds_self]
  simp [S]
 ·
  rw [BR,mD _ j y hbn I,map_eraseIdx,map_eraseIdx,v]
 intro q Q;simp only [Option.some.injEq] at Q;subst Q;exact⟨y,hye,Array.back?_push,o.1,o.2⟩
theorem OX.next(hm:Lx enc w b m l left cur) (o:ev kv x=some (.pointer (some ⟨b,0,none⟩))) (q:Nat.blt d n=true)
  (h:∀r i w',aS [b] w w'→(match r with | none=>left=[]∧i=[] | some p=>∃j,left[j]?=some p∧i=left.eraseIdx j)→Lx enc w' b m l i r→K ((d,.tuple (xM enc r))::kv) w'):OX P ⟨some d,.next x false,ty,pos,af,g⟩ n kv w K:=by
 obtain⟨r,i,w',h1,v,y,z⟩:=Ht (P:=P) (ty:=ty) hm;refine⟨rfl,q,by simp [known,opers,o],?_⟩
 have hr:(execOp (jH kv) ⟨some d,.next x false,ty,pos,af,g⟩).run P w=.ok (.value (.tuple (xM enc r))) w':=by
  simp only [execOp,aK o,Sem.run_bind,h1,Result.andThen_ok];rfl
 rw [hr];exact h _ _ _ v y z
theorem PV.entry{p:κ × Value}(hm:Lx enc w b m l left (some p)) (h:ev kv x=some (.pointer (some ⟨b,0,none⟩))):PV P (.entry x) ty kv w (.tuple #[enc p.1,p.2]):=by
 obtain⟨es,clock,since,seen,h1,i,j,_,_,_,_,o⟩:=hm;obtain⟨y,hy,hb,hk,q⟩:=o p rfl;refine⟨rfl,by simp [known,opers,h],fun _ _ _ _=>?_⟩
 have r:es.find? (·.born == y.born)=some y:=by rw [← Array.find?_toList];exact find_born y es.toList i.2.2.2 hy
 have:(Instr.entry (.pointer (some ⟨b,0,none⟩))).run P w=.ok (.tuple #[enc p.1,p.2]) w:=by
  simp only [Instr.entry,getObj,Sem.run_bind,Sem.run,j,h1,hb,Result.andThen,bne_self_eq_false,Bool.false_eq_true,if_false,r,hk,q]
  rfl
 simp only [execOp,aK h,Sem.run_bind,this,Result.andThen_ok]
 rfl
end
end Go.Rc

namespace Go.Rc
open Go
theorem mE{α:Type}:∀{l:List α}{j:Nat}{p q:α},l[j]?=some p→q∈l→q=p∨q∈l.eraseIdx j
 | [],_,_,_,_,h=>by cases h
 | x::r,0,p,q,h,i=>by grind
 | x::r,j+1,p,q,h,i=>by
  rcases List.mem_cons.1 i with rfl | i
  ·
   exact .inr (by simp)
  rcases mE (l:=r) (by simpa using h) i with h1 | h1
  ·
   exact .inl h1
  exact .inr (by simp [h1])
section
variable {aa:List aG}{aC:List cv}
theorem mM.bf(hR:aq aa) {i0:Nat}{L:List Nat}{u:Nat→Nat}{am:List (Key × Value)}(h:mM aa L u am) (hn:(am.map (·.1)).Nodup) (hr:dt aa aC i0 L u) (r:∀j∈L,u j=rv aa aC j) :
  ∀p∈am,p.2=.string (valOf aa aC p.1):=fun p q=>by
 have o:bD am p.1=some p.2:=(tY hn).2 q
 by_cases hk:∃j∈L,p.1=aL aa (j:Int)
 ·
  obtain⟨j,i,e⟩:=hk;obtain⟨v,y⟩:=hr.ring j i;rw [e,h.1 j i] at o
  grind [gY,iv]
 rw [h.2 p.1 fun j i e=>hk ⟨j,i,e⟩] at o
 cases o
theorem mM.first{i0:Nat}{L:List Nat}{u:Nat→Nat}{am:List (Key × Value)}(h:mM aa L u am) (hn:(am.map (·.1)).Nodup) (hr:dt aa aC i0 L u):∃p∈am,p.1=aL aa (i0:Int):=
 ⟨(_,_),(tY hn).1 (h.1 i0 hr.first),rfl⟩
theorem JC{am left ml:List (Key × Value)}{j:Nat}{p:Key × Value}(i:∀q∈am,q∈left∨bD ml q.1=some q.2) (he:∀q∈am,q.2=.string (valOf aa aC q.1)) (o:left[j]?=some p) :
  ∀q∈am,q∈left.eraseIdx j∨bD (cL ml p.1 (.string (valOf aa aC p.1))) q.1=some q.2:=fun q r=>by
 rw [ef]
 by_cases e:p.1=q.1
 ·
  grind
 rw [if_neg e]
 rcases i q r with h | h
 ·
  rcases mE o h with h1 | h1
  ·
   subst h1;exact absurd rfl e
  exact .inl h1
 exact .inr h
end
end Go.Rc

namespace Go.Rc
open Go
def jA(rev:Int) (l:List cv):Prop:=tt l∧(∀y∈l,Mn rev y)∧∀y∈l,(∃i:Nat,i≤9∧y.key=⟨30,itoa i⟩)∧y.value.size≤1000
theorem jA.nil(rev:Int):jA rev []:=⟨.nil,by simp,by simp⟩
theorem jA.mono{r s:Int}{l:List cv}(h:jA r l) (i:r≤s):jA s l:=⟨h.1,fun y hy=>by obtain⟨a,b,c,d,e⟩:=h.2.1 y hy;exact⟨a,b,c,d,by omega⟩,h.2.2⟩
theorem Change.small.key{c:Change}(h:c.small):∃i:Nat,i≤9∧c.key=⟨30,itoa i⟩:=by
 obtain⟨⟨n,h0,j,hk⟩,_⟩:=h;refine⟨n.toNat,by omega,?_⟩;rw [hk]
 unfold bZ
 grind
theorem Change.small.ok{c:Change}(h:c.small):fS c.key=true∧ay c.key=true:=by
 obtain⟨⟨n,h0,i,hk⟩,_⟩:=h;obtain⟨m,rfl⟩:∃m:Nat,n=(m:Int):=⟨n.toNat,by omega⟩;rw [hk];exact⟨dX.valid (aa:=[]) (.cell (by omega)),bp (by omega)⟩
theorem jA.put{rev:Int}{l:List cv}{c:Change}(h:jA rev l) (hc:c.small) (h0:0≤rev):jA rev (fU ⟨c.key,c.value,rev⟩ l false):=by
 refine⟨tt.put h.1,fun y hy=>?_,fun y hy=>?_⟩
 ·
  rcases uz _ _ _ _ hy with rfl | hy
  ·
   have:=hc.2
   exact⟨hc.ok.1,hc.ok.2,by grind,h0,Int.le_refl _⟩
  exact h.2.1 y hy
 rcases uz _ _ _ _ hy with rfl | hy
 ·
  obtain⟨i,hi,hk⟩:=hc.key;exact⟨⟨i,by omega,hk⟩,Nat.le_trans hc.2 (by decide)⟩
 exact h.2.2 y hy
theorem xN{α:Type} [BEq α] [LawfulBEq α]:∀{l U:List α},l.Nodup→(∀x∈l,x∈U)→l.length≤U.length
 | [],_,_,_=>Nat.zero_le _
 | x::r,U,hn,h=>by
  have i:=h x (by simp);rw [List.nodup_cons] at hn
  have h1:r.length≤(U.erase x).length:=xN hn.2 fun y hy=>by grind
  grind
theorem jA.len{rev:Int}{l:List cv}(h:jA rev l):l.length≤10:=by
 have hn:(l.map fun y=>y.key).Nodup:=by
  unfold List.Nodup
  rw [List.pairwise_map]
  exact h.1.imp fun {a b} h e=>by grind [jh]
 have:=xN (U:=(List.range 10).map fun i:Nat=>(⟨30,itoa i⟩:Key)) hn fun k hk=>by
  obtain⟨y,hy,rfl⟩:=List.mem_map.1 hk;obtain⟨i,hi,he⟩:=(h.2.2 y hy).1
  grind
 simpa using this
theorem jA.k99{rev:Int}{l:List cv}(h:jA rev l):∀y∈l,∃i:Nat,i≤99∧y.key=⟨30,itoa i⟩:=fun y hy=>by
 obtain⟨i,hi,he⟩:=(h.2.2 y hy).1;exact⟨i,by omega,he⟩
theorem BU{n:cv}{k:Key}(h:n.key≠k):∀(l:List cv) (b:Bool),(fU n l b).find? (fun x=>x.key == k)=l.find? fun x=>x.key == k
 | [],b=>by grind [fU]
 | x::xs,b=>by
  have hn:(n.key == k)=false:=by simpa using h
  unfold fU
  rw [List.find?_append,List.find?_append,BU h xs]
  have h1:(if (decide (0≤bC x.key n.key) && !b)=true then [n] else []).find? (fun x=>x.key == k)=none:=by grind
  rw [h1,Option.none_or]
  by_cases e:bC x.key n.key=0
  ·
   rw [if_pos e]
   grind [l9]
  grind
theorem oh{n:cv}{k:Key}(h:n.key≠k) (l:List cv):bz (fU n l false) k=bz l k:=by
 unfold bz
 rw [BU h]
theorem Ms{n:cv}{l:List cv}{q:Nat}{b:Bool}(i:q<l.length) {acc r:List cv}(h:acc++fU n (l.drop q) b=r):acc++(if decide (0≤bC l[q].key n.key) && !b then [n] else [])++(if bC l[q].key n.key=0 then [] else [l[q]])++fU n (l.drop (q+1)) (b || decide (0≤bC l[q].key n.key))=r:=by grind [List.drop_eq_getElem_cons,fU]
theorem Mt{n:cv}{l m acc:List cv}{b:Bool}(h:acc++fU n m b=fU n l false):acc.length≤l.length+1:=by
 have h1:=congrArg List.length h
 grind [nA]
end Go.Rc

namespace Go.Rc
open Go
section
variable {aa:List aG}{aC:List cv}{rev:Int}(hR:aq aa)
include hR
end
end Go.Rc

namespace Go.Rc
open Go
def QS(L:List As) (Z:Nat→Prop) (w:World):Prop:=(List.Pairwise (fun(A B:As)=>∀x,A.fp x→¬B.fp x) L)∧∀A∈L,A.ok Z w
def As.many(L:List As):As where
 fp x:=∃A∈L,A.fp x
 ok:=QS L
 lt h x hx:=by obtain⟨A,hA,hx⟩:=hx;exact A.lt (h.2 A hA) x hx
 mono hZ h:=⟨h.1,fun A hA=>A.mono hZ (h.2 A hA)⟩
 st hs hc h:=⟨h.1,fun A hA=>A.st hs (fun x hx=>hc x (hx.imp (fun hx=>⟨A,hA,hx⟩) id)) (h.2 A hA)⟩
section
variable {w0 w:World}{M Z:Nat→Prop}{A:As}{L l:List As}
theorem St.OJ(h:St w0 M Z w l):St w0 M Z w (As.many []::l):=by
 refine⟨h.bV,h.jK,?_,?_,.cons ?_ h.ry,?_⟩
 ·
  intro B i x j
  rcases List.mem_cons.1 i with rfl | i
  ·
   obtain⟨A,o,_⟩:=j;cases o
  exact h.l4 B i x j
 ·
  intro B i x j
  rcases List.mem_cons.1 i with rfl | i
  ·
   obtain⟨A,o,_⟩:=j;cases o
  exact h.mQ B i x j
 ·
  intro B _ x j;obtain⟨A,o,_⟩:=j;cases o
 intro B i
 rcases List.mem_cons.1 i with rfl | i
 ·
  exact⟨.nil,fun A o=>by cases o⟩
 exact h.ok B i
theorem St.Em(h:St w0 M Z w (A::As.many L::l)):St w0 M Z w (As.many (A::L)::l):=by
 obtain⟨d1,d2⟩:=List.pairwise_cons.1 h.ry;obtain⟨d3,d4⟩:=List.pairwise_cons.1 d2;have hm:(As.many L).ok Z w:=h.ok _ (by simp);refine⟨h.bV,h.jK,?_,?_,.cons ?_ d4,?_⟩
 ·
  intro B o x i
  rcases List.mem_cons.1 o with rfl | o
  ·
   obtain⟨C,j,i⟩:=i
   rcases List.mem_cons.1 j with rfl | j
   ·
    exact h.l4 C (by simp) x i
   exact h.l4 (As.many L) (by simp) x ⟨C,j,i⟩
  exact h.l4 B (by simp [o]) x i
 ·
  intro B o x i
  rcases List.mem_cons.1 o with rfl | o
  ·
   obtain⟨C,j,i⟩:=i
   rcases List.mem_cons.1 j with rfl | j
   ·
    exact h.mQ C (by simp) x i
   exact h.mQ (As.many L) (by simp) x ⟨C,j,i⟩
  exact h.mQ B (by simp [o]) x i
 ·
  intro B o x i;obtain⟨C,j,i⟩:=i
  rcases List.mem_cons.1 j with rfl | j
  ·
   exact d1 B (by simp [o]) x i
  exact d3 B o x ⟨C,j,i⟩
 intro B o
 rcases List.mem_cons.1 o with rfl | o
 ·
  refine⟨.cons (fun C j x i p=>d1 (As.many L) (by simp) x i ⟨C,j,p⟩) hm.1,fun C j=>?_⟩
  rcases List.mem_cons.1 j with rfl | j
  ·
   exact h.ok C (by simp)
  exact hm.2 C j
 exact h.ok B (by simp [o])
theorem St.yT(h:St w0 M Z w (As.many (A::L)::l)):St w0 M Z w (A::As.many L::l):=by
 obtain⟨d1,d2⟩:=List.pairwise_cons.1 h.ry;have hm:(As.many (A::L)).ok Z w:=h.ok _ (by simp);obtain⟨d3,d4⟩:=List.pairwise_cons.1 hm.1;refine⟨h.bV,h.jK,?_,?_,.cons ?_ (.cons ?_ d2),?_⟩
 ·
  intro B i x j
  rcases List.mem_cons.1 i with rfl | i
  ·
   exact h.l4 _ M0 x ⟨B,.head _,j⟩
  rcases List.mem_cons.1 i with rfl | i
  ·
   obtain⟨C,o,j⟩:=j;exact h.l4 _ M0 x ⟨C,.tail _ o,j⟩
  exact h.l4 B (.tail _ i) x j
 ·
  intro B i x j
  rcases List.mem_cons.1 i with rfl | i
  ·
   exact h.mQ _ M0 x ⟨B,.head _,j⟩
  rcases List.mem_cons.1 i with rfl | i
  ·
   obtain⟨C,o,j⟩:=j;exact h.mQ _ M0 x ⟨C,.tail _ o,j⟩
  exact h.mQ B (.tail _ i) x j
 ·
  intro B i x j p
  rcases List.mem_cons.1 i with rfl | i
  ·
   obtain⟨C,o,p⟩:=p;exact d3 C o x j p
  exact d1 B i x ⟨A,.head _,j⟩ p
 ·
  intro B i x j;obtain⟨C,o,j⟩:=j;exact d1 B i x ⟨C,.tail _ o,j⟩
 intro B i
 rcases List.mem_cons.1 i with rfl | i
 ·
  exact hm.2 B M0
 rcases List.mem_cons.1 i with rfl | i
 ·
  exact⟨d4,fun C o=>hm.2 C (.tail _ o)⟩
 exact h.ok B (.tail _ i)
theorem St.V4{L':List As}(o:L.Perm L') (h:St w0 M Z w (As.many L::l)):St w0 M Z w (As.many L'::l):=by
 obtain⟨d1,d2⟩:=List.pairwise_cons.1 h.ry;have hm:(As.many L).ok Z w:=h.ok _ (by simp);have p:∀x,(As.many L').fp x→(As.many L).fp x:=fun x ⟨C,q,j⟩=>⟨C,o.mem_iff.2 q,j⟩;refine⟨h.bV,h.jK,?_,?_,.cons (fun B i x j=>d1 B i x (p x j)) d2,?_⟩
 ·
  intro B i x j
  rcases List.mem_cons.1 i with rfl | i
  ·
   exact h.l4 _ M0 x (p x j)
  exact h.l4 B (.tail _ i) x j
 ·
  intro B i x j
  rcases List.mem_cons.1 i with rfl | i
  ·
   exact h.mQ _ M0 x (p x j)
  exact h.mQ B (.tail _ i) x j
 intro B i
 rcases List.mem_cons.1 i with rfl | i
 ·
  exact⟨hm.1.perm o (fun h x j r=>h x r j),fun C q=>hm.2 C (o.mem_iff.2 q)⟩
 exact h.ok B (.tail _ i)
end
theorem En{P:Program}{w:World}{T:TypeId}(hT:P.underlying T=some .bool) (p q:Bool):(Op.equalIn 10000 T (.bool p) (.bool q)).run P w=.ok (p == q) w:=by
 rw [show(10000:Nat)=9999+1 from rfl]
 unfold Op.equalIn
 simp [run_underlying hT]
theorem PV.eqB{P:Program}{kv:KV}{w:World}{T U ty:TypeId}{x y:Operand}{p q:Bool}(hT:P.underlying T=some .bool) (h:ev kv x=some (.bool p)) (hy:ev kv y=some (.bool q)):PV P (.binOp .eql T x y U) ty kv w (.bool (p == q)):=
 ⟨rfl,by simp [known,opers,h,hy],fun _ _ _ _=>by
  simp only [execOp,aK h,aK hy]
  simp [eqGuard,binOp,Op.equal,Op.maxDepth,En hT]⟩
structure RE where
 key:Key
 a:Option Addr
 n:Nat
 c:Nat
 reads:List Key
def RE.as(EK:Nat) (e:RE):As:=As.os RR.key EK 2 e.a e.n e.c e.reads
end Go.Rc

namespace Go.Rc
open Go
section
variable {aa:List aG}{aC:List cv}{val:Key→ByteArray}
theorem uC{f g:Nat}(h:f≤g):∀{l:List Key}{s s':ES},dK aa val f s l=some s'→dK aa val g s l=some s'
 | [],s,s',hu=>hu
 | k::r,s,s',hu=>by
  simp only [dK] at hu ⊢;obtain⟨t,h1,i⟩:=Option.bind_eq_some_iff.1 hu;rw [og h h1];exact uC h i
theorem uD(hR:aq aa):∀(l:List Key) (s:ES),Good aa aC s→(∀k∈l,dX aa k)→∃f s',dK aa val f s l=some s'
 | [],s,_,_=>⟨0,s,rfl⟩
 | k::r,s,h,hk=>by
  obtain⟨f,t,h1⟩:=Mm (val:=val) hR _ s k h (hk k (by simp)) (Nat.le_refl _);have i:=(cy (val:=val) hR f).1 _ _ _ h1 h (hk k (by simp))
  obtain⟨g,s',o⟩:=uD hR r t i.1 fun k j=>hk k (by simp [j])
  refine⟨max f g,s',?_⟩
  grind [dK,og,uC,Nat.le_max_right]
theorem xO(hR:aq aa) {f:Nat}:∀{l:List Key}{s s':ES},dK aa val f s l=some s'→Good aa aC s→(∀k∈l,dX aa k)→s'.bj.length+gC aa s'≤s.bj.length+gC aa s
 | [],s,s',h,_,_=>by simp only [dK,Option.some.injEq] at h;subst h;exact Nat.le_refl _
 | k::r,s,s',h,i,hk=>by
  simp only [dK] at h;obtain⟨t,h1,j⟩:=Option.bind_eq_some_iff.1 h;have o:=(cy (val:=val) hR f).1 _ _ _ h1 i (hk k (by simp));have p:=(iy (val:=val) hR f).1 _ _ _ h1 i (hk k (by simp))
  have q:=xO hR j o.1 fun k v=>hk k (by simp [v])
  exact Nat.le_trans q p.2.2
end
theorem Hu{aa:List aG}(hR:aq aa) {i:Nat}(hi:i<aa.length):iN aa (aL aa (i:Int))=true:=by
 have h:=hR.len
 unfold iN
 rw [dX.valid (aa:=aa) (.eX hi (by omega)),ck hi (by omega)]
 simp
theorem QT:jz ⟨0,[],[]⟩:=⟨fun i y h=>by simp at h,fun i r h=>by simp at h,by decide,by decide,by decide,⟨by decide,fun i x h=>by simp at h⟩⟩
theorem jA.jz{rev:Int}{aC:List cv}(h:jA rev aC) (h0:0≤rev) (h1:rev≤1073741824) (j:aC.length≤64):jz ⟨rev,aC,[]⟩:=
 ⟨El.2 ⟨h.1,h.2.1⟩,fun i r h=>by simp at h,h0,h1,j,⟨Nat.zero_le _,fun i x h=>by simp at h⟩⟩
end Go.Rc

namespace Go.Rc
open Go
def xP(x:Rec):Int:=16+x.key.text.size+x.value.size+8*x.reads.length
def kn(l:List Rec):Int:=(l.map xP).sum
def Hv(x:Rec):Prop:=x.key.text.size≤1000∧x.value.size≤1073741824∧x.reads.length≤4000
theorem Hv.size{x:Rec}(h:Hv x):0≤xP x∧xP x≤1100000000:=by
 unfold xP
 obtain⟨a,b,c⟩:=h
 omega
theorem BV{l:List Rec}{i:Nat}(hi:i<l.length):kn (l.take (i+1))=kn (l.take i)+xP l[i]:=by grind [kn,List.take_succ_eq_append_getElem]
theorem xQ:∀{l:List Rec},(∀x∈l,Hv x)→0≤kn l∧kn l≤1100000000*l.length
 | [],_=>by simp [kn]
 | x::r,h=>by
  have h1:=(h x (by simp)).size
  have i:=xQ (l:=r) fun y hy=>h y (by simp [hy])
  grind [kn]
theorem BW{c s:Int}(hc:0≤c∧c≤1073741824) (h:0≤s∧s≤1100000000):-9223372036854775808≤c*s∧c*s≤9223372036854775807:=by
 have h1:=Int.mul_nonneg hc.1 h.1;have i:=Int.mul_le_mul hc.2 h.2 h.1 (by decide:(0:Int)≤1073741824)
 omega
theorem JD{α:Type}{out m:List α}{x:α}(p:Nat) (h:out.Perm m):(([]++out.take p)++[x]++out.drop p).Perm (m++[x]):=by
 have h1:(out.take p++[x]++out.drop p).Perm (out++[x]):=by grind [List.perm_append_comm,List.take_append_drop]
 rw [List.nil_append];exact h1.trans (h.append_right _)
theorem xR(l:List Rec) (k:Key):(fl l k).Sublist l:=List.filter_sublist
def As.rgo(c:Prop) (b o:Nat) (r:List Value):As where
 fp _:=False
 ok Z w:=c→(As.rg b o r).ok Z w
 lt _ _ hx:=hx.elim
 mono hZ h:=fun h0=>(As.rg b o r).mono hZ (h h0)
 st hs hc h:=fun h0=>(As.rg b o r).st hs hc (h h0)
theorem As.gro{c:Prop}{b o:Nat}{r:List Value}{Z:Nat→Prop}{w:World}(hc:c) (h:(As.rgo c b o r).ok Z w):w.rangeAt b o r:=(h hc).2.2
theorem Rd.opt{α:Type}{R:RR α}{k n c:Nat}{Z:Nat→Prop}{w:World}{a:Option Addr}{xs:List α}(h:Rd R k Z w a n c xs) (v:∀b,Z b→b<w.heap.size) (p:Nat):∃b o r,(∀i:p<xs.length,a=some ⟨b,o,none⟩∧r.length=k∧R.r Z w xs[p] r)∧(As.rgo (p<xs.length) b (o+p*k) r).ok Z w:=by
 by_cases i:p<xs.length
 ·
  obtain⟨b,o,r,h1,y,z,B,q⟩:=Rd.at h i;exact⟨b,o,r,fun _=>⟨h1,y,z⟩,fun _=>⟨q,v b q,B⟩⟩
 exact⟨0,0,[],fun j=>absurd j i,fun j=>absurd j i⟩
theorem br.one(x:br) (a1:Option Addr) (n1 c1:Nat) (a2:Option Addr) (n2 c2:Nat):∀u∈x.row a1 n1 c1 a2 n2 c2,u.oneCell'=true:=by simp [br.row,Value.oneCell']
end Go.Rc

namespace Go.Rc
open Go
structure qo where
 aa:List aG
 base:cm
 goals:List Key
 stack:List br
 bj:List Key
structure Hw where
 u:Option Addr
 nu:Nat
 cu:Nat
 i:Option Addr
 ni:Nat
 ci:Nat
 r:Option Addr
 nr:Nat
 cr:Nat
 g:Option Addr
 ng:Nat
 cg:Nat
 f:Option Addr
 nf:Nat
 cf:Nat
 p:Option Addr
 np:Nat
 cp:Nat
def qo.row(t:qo) (A:Hw):List Value:=[.slice A.u A.nu A.cu,.int .i64 t.base.ad,.slice A.i A.ni A.ci,.slice A.r A.nr A.cr,.slice A.g A.ng A.cg,.slice A.f A.nf A.cf,.slice A.p A.np A.cp]
structure qo.In (t:qo) (A:Hw) (Z:Nat→Prop) (w:World):Prop where
 u:Rd RR.eX 4 Z w A.u A.nu A.cu t.aa
 i:Rd RR.aC 4 Z w A.i A.ni A.ci t.base.ab
 r:Rd RR.ei 8 Z w A.r A.nr A.cr t.base.ah
 g:Rd RR.key 2 Z w A.g A.ng A.cg t.goals
 f:Rd RR.mL 6 Z w A.f A.nf A.cf t.stack
 p:Rd RR.key 2 Z w A.p A.np A.cp t.bj
structure qo.In5 (t:qo) (A:Hw) (Z:Nat→Prop) (w:World):Prop where
 u:Rd RR.eX 4 Z w A.u A.nu A.cu t.aa
 i:Rd RR.aC 4 Z w A.i A.ni A.ci t.base.ab
 r:Rd RR.ei 8 Z w A.r A.nr A.cr t.base.ah
 g:Rd RR.key 2 Z w A.g A.ng A.cg t.goals
 f:Rd RR.mL 6 Z w A.f A.nf A.cf t.stack
structure qo.Sz (t:qo):Prop where
 u:t.aa.length≤1000000
 a:∀x∈t.aa,x.asks.length≤1000
 i:t.base.ab.length≤1000000
 r:t.base.ah.length≤1000000
 f:t.stack.length≤1000000
 g:t.goals.length≤1000000
 p:t.bj.length≤1000000
end Go.Rc

namespace Go.Rc
open Go
structure eB where
 a:Option Addr
 n:Nat
 c:Nat
 a2:Option Addr
 n2:Nat
 c2:Nat
def br.ov(x:br × eB):List Value:=x.1.row x.2.a x.2.n x.2.c x.2.a2 x.2.n2 x.2.c2
def RR.im:RR (br × eB):=RR.flat br.ov
theorem uE{α:Type}{l:List α}{a:α}(h:l.getLast?=some a):l.dropLast++[a]=l:=by
 rcases List.eq_nil_or_concat l with rfl | ⟨m,b,rfl⟩
 ·
  cases h
 simp at h
 subst h
 simp
def du(L:List (br × eB)):FZ:=
 ⟨fun Z w=>∀y∈L,Rd RR.key 2 Z w y.2.a y.2.n y.2.c y.1.reads∧Rd RR.str 1 Z w y.2.a2 y.2.n2 y.2.c2 y.1.ae,fun hZ h y hy=>⟨(h y hy).1.mono hZ,(h y hy).2.mono hZ⟩,fun h1 h2 h y hy=>⟨(h y hy).1.st h1 h2,(h y hy).2.st h1 h2⟩⟩
theorem du.last{L:List (br × eB)}{Z:Nat→Prop}{w:World}{a a2:Option Addr}{n c n2 c2:Nat}{pl:List Key}{i:List ByteArray}(h:(du L.dropLast).p Z w) (hl:L=[]∨∃f,L.getLast?=some (f,⟨a,n,c,a2,n2,c2⟩)∧pl=f.reads∧i=f.ae) (hk:Rd RR.key 2 Z w a n c pl) (hy:Rd RR.str 1 Z w a2 n2 c2 i):(du L).p Z w:=fun y hm=>by
 rcases hl with rfl | ⟨f,h1,rfl,rfl⟩
 ·
  cases hm
 have e:=uE h1;rw [← e] at hm
 rcases List.mem_append.1 hm with hm | hm
 ·
  exact h y hm
 grind
theorem du.nil(Z:Nat→Prop) (w:World):(du ([]:List (br × eB)).dropLast).p Z w:=fun y hy=>by cases hy
theorem du.mL{L:List (br × eB)}{E n c:Nat}{a:Option Addr}{Z:Nat→Prop}{w:World}(h:Ow RR.im E 6 Z w a n c L) (o:(du L).p Z w) (q:∀y∈L,y.1.reads.length≤4000∧y.1.ae.length≤4000):Ow RR.mL E 6 Z w a n c (L.map Prod.fst):=by
 obtain⟨hn,rows,hl,hk,h1,v⟩:=h;refine⟨by rw [hn,List.length_map],rows,by rw [hl,List.length_map],hk,h1,fun i x r j z=>?_⟩;rw [List.getElem?_map] at j;obtain⟨y,hy,rfl⟩:=Option.map_eq_some_iff.1 j;have hm:=List.mem_of_getElem? hy;have hr:r=br.ov y:=v i y r hy z;obtain⟨B,C⟩:=q y hm;obtain⟨D,F⟩:=o y hm;exact⟨_,_,_,_,_,_,hr,D,F,B,C⟩
end Go.Rc

namespace Go.Rc
open Go
structure BK (aa:List aG) (aC:List cv) (rev:Int) (b:cm):Prop where
 fH:Good aa aC ⟨b,[],[],0⟩
 tO:xL ⟨b,[],[],0⟩
 rv:b.ad=rev
 xS:yL rev aC
 nB:aC.length≤64
section
variable {aa:List aG}{aC:List cv}{rev:Int}{b:cm}
theorem BK.jz(h:BK aa aC rev b):jz b:=
 ⟨by rw [h.rv,show b.ab=aC from h.fH.aC];exact h.xS,fun i r hr=>(h.tO.v r (List.mem_of_getElem? hr)).2,h.tO.r0,h.tO.r1,by rw [show b.ab=aC from h.fH.aC];exact h.nB,h.tO.st.nk h.fH.len fun r hr=>(h.tO.v r hr).1⟩
theorem BK.BN(h:BK aa aC rev b) (g:List Key):BK aa aC rev (cH b g false):=⟨h.fH.mark g false,h.tO.BN g,h.rv,h.xS,h.nB⟩
theorem BK.BO(h:BK aa aC rev b) {g:List Key}(hc:∀x∈g,ax x=true):BK aa aC rev (cH b g true):=⟨h.fH.mark g true,h.tO.BO hc,h.rv,h.xS,h.nB⟩
theorem BK.put(h:BK aa aC rev b) {r:Rec}(hk:dX aa r.key) (hr:r.reads.length≤4000∧∀a∈r.reads,dX aa a) (i:(!(aA b.ah r.key).isSome && decide (4000≤b.ah.length))=false) (j:eE r=true) (o:r.av≤b.ad):BK aa aC rev {b with ah:=eh b.ah r}:=
 ⟨h.fH.put (bj:=[]) hk hr i,h.tO.put (bj:=[]) j o,h.rv,h.xS,h.nB⟩
theorem BK.sub(h:BK aa aC rev b) {rs:List Rec}(i:rs.Sublist b.ah):BK aa aC rev {b with ah:=rs}:=
 ⟨⟨h.fH.aC,Nat.le_trans i.length_le h.fH.len,fun r hr=>h.fH.key r (i.subset hr),fun r hr=>h.fH.AK r (i.subset hr),.nil,fun k=>.inl rfl⟩,⟨h.tO.st.sublist i,fun r hr=>h.tO.v r (i.subset hr),h.tO.r0,h.tO.r1⟩,h.rv,h.xS,h.nB⟩
theorem BK.small(h:BK aa aC rev b):∀r∈b.ah,Hv r∧0≤r.cost∧r.cost≤1073741824:=fun r hr=>by
 obtain⟨i,hi,ht,_⟩:=(h.fH.key r hr).shape;have h1:=(fm _).1 (h.tO.v r hr).1;obtain⟨_,_,_,o,hl,_,_,_,p,j,_⟩:=h1;have q:=rF (n:=i) (by omega);refine⟨⟨by rw [ht];omega,by omega,by omega⟩,by omega,j⟩
end
structure fo (aa:List aG) (f:br):Prop where
 key:dX aa f.key
 aC:ay f.key=false
 AK:∀a∈f.reads,dX aa a
 len:f.reads.length=f.ae.length
 gL:hh aa f.key f.ae.length
 at0:0≤f.at_
theorem fo.new{aa:List aG}{k:Key}(hk:dX aa k) (hi:ay k=false):fo aa ⟨k,false,0,[],[]⟩:=⟨hk,hi,fun a h=>(by cases h),rfl,hk.gL hi,Int.le_refl _⟩
structure TK (aa:List aG) (aC:List cv) (rev:Int) (t:qo):Prop where
 Gv:t.aa=aa
 base:BK aa aC rev t.base
 goals:∀k∈t.goals,dX aa k
 stack:∀f∈t.stack,fo aa f
 bj:∀k∈t.bj,dX aa k
theorem PV.cast{P:Program}{op:Op}{ty:TypeId}{kv:KV}{w:World}{v v':Value}(h:PV P op ty kv w v) (e:v=v'):PV P op ty kv w v':=e ▸ h
theorem bG{α:Type}(L:List α) (x:α):(L++[x])[L.length]?=some x:=by simp
theorem du.snoc{L:List (br × eB)}{f:br}{A:eB}{Z:Nat→Prop}{w:World}(h:(du L).p Z w) (hk:Rd RR.key 2 Z w A.a A.n A.c f.reads) (hy:Rd RR.str 1 Z w A.a2 A.n2 A.c2 f.ae):(du (L++[(f,A)])).p Z w:=fun y hm=>by
 rcases List.mem_append.1 hm with hm | hm
 ·
  exact h y hm
 grind
theorem du.whole{L:List (br × eB)}{f:br}{A:eB}{l:List br}{E n c:Nat}{a:Option Addr}{Z:Nat→Prop}{w:World}(h:Ow RR.im E 6 Z w a n c (L++[(f,A)])) (i:(du (L++[(f,A)])).p Z w) (j:∀y∈L,y.1.reads.length≤4000∧y.1.ae.length≤4000) (o:f.reads.length≤4000∧f.ae.length≤4000) (hl:L.map Prod.fst++[f]=l):Ow RR.mL E 6 Z w a n c l:=by
 have h1:=du.mL h i fun y hm=>by grind
 grind
theorem BX{L:List (br × eB)}{f:br}{A:eB}{l:List br}{E EK ES n c:Nat}{a:Option Addr}{Z:Nat→Prop}{w:World}(o:Ow RR.im E 6 Z w a n c (L++[(f,A)])) (hk:Ow RR.key EK 2 Z w A.a A.n A.c f.reads) (hy:Ow RR.str ES 1 Z w A.a2 A.n2 A.c2 f.ae) (q:(du L).p Z w) (r:∀y∈L,y.1.reads.length≤4000∧y.1.ae.length≤4000) (v:f.reads.length≤4000∧f.ae.length≤4000) (hl:L.map Prod.fst++[f]=l) (F:l.length≤1000000):∃i:Nat→Prop,(∀x,Z x→i x)∧Rd RR.mL 6 i w a n c l:=by
 have h1:=hk.rd (by omega);have z:=hy.rd (by omega)
 let i:Nat→Prop:=fun x=>Z x∨x∈aI A.a∨x∈aI A.a2
 have j:∀x,Z x→i x:=fun x h=>.inl h;have B:(du (L++[(f,A)])).p i w:=du.snoc ((du L).mono j q) (h1.mono fun x h=>h.imp id .inl) (z.mono fun x h=>h.imp id .inr);have C:Ow RR.im E 6 i w a n c (L++[(f,A)]):=(As.os RR.im E 6 a n c (L++[(f,A)])).mono j o;have D:=du.whole C B r v hl;exact⟨_,fun x h=>.inl (j x h),D.rd (by omega)⟩
theorem ma{x:cm}{l others:List br}{k:Key}(h:bJ x l others k=1):ay k=false:=by grind [cM,bJ]
theorem du.push{L:List (br × eB)}{f g:br}{A:eB}{l:List br}{E n c:Nat}{a:Option Addr}{Z:Nat→Prop}{w:World}(h:Ow RR.im E 6 Z w a n c (L++[(f,A)]++[(g,⟨none,0,0,none,0,0⟩)])) (i:(du (L++[(f,A)])).p Z w) (q:∀y∈L,y.1.reads.length≤4000∧y.1.ae.length≤4000) (r:f.reads.length≤4000∧f.ae.length≤4000) (j:g.reads=[]) (o:g.ae=[]) (hl:L.map Prod.fst++[f]=l):Ow RR.mL E 6 Z w a n c (l++[g]):=by
 have h1:=du.mL h (du.snoc (f:=g) (A:=⟨none,0,0,none,0,0⟩) i (by rw [j];exact Rd.nil _ _ _ _) (by rw [o];exact Rd.nil _ _ _ _)) fun y hm=>by grind
 grind
section
variable {w0 w:World}{M Z:Nat→Prop}{l:List As}{A0 A1 A2 A3 A4 A5 A6 A7 A8 A9 VV A11 A12 A13 A14 A15 A16 A17:As}
end
end Go.Rc

namespace Go.Rc
open Go
section
variable {α:Type}{R:RR α}{P:Program}{E k n c b:Nat}{a:Option Addr}{L:List α}{u:α}{Z:Nat→Prop}{w:World}
variable {N:Nat}{kv:KV}{K:KV→World→Prop}{ty:TypeId}{pos:String}{af:Array Edge}{g:Option (Nat × Bool)}{T:TypeId}
theorem OX.AL{x y:Operand}{f:Nat}{v:Value}(hT:(P.info? T).map (·.size)=some 1) (h:Ow R E k Z w a n c (L++[u])) (j:a=some ⟨b,0,none⟩) (p:f<k) (q:ev kv x=some (.pointer (some ⟨b,0+L.length*k+f,none⟩))) (hy:ev kv y=some v)
  (h1:v.oneCell'=true) (i:α) (hR:∀r,R.r Z w u r→R.r Z w i (r.set f v)) (z:∀w',aS (aI a) w w'→OR 0 w' E k (R.r Z w) a n c (L++[i])→K kv w'):OX P ⟨none,.store T x y,ty,pos,af,g⟩ N kv w K:=
 OX.Qx hT h j (bG L u) p q hy h1 i (fun r _ h=>hR r h) fun w' c o=>z w' c (by grind)
end
section
variable {aa:List aG}{f:br}
theorem fo.read(h:fo aa f) {k:Key}{a:ByteArray}(hk:dX aa k) (i:hh aa f.key (f.ae.length+1)):fo aa {f with reads:=f.reads++[k],ae:=f.ae++[a]}:=
 ⟨h.key,h.aC,fun b hb=>by
  rcases List.mem_append.1 hb with hb | hb
  ·
   exact h.AK b hb
  grind,by simp [h.len],by simpa using i,h.at0⟩
theorem fo.runs(h:fo aa f):fo aa {f with running:=true,at_:=0}:=⟨h.key,h.aC,h.AK,h.len,h.gL,Int.le_refl _⟩
theorem fo.step(h:fo aa f):fo aa {f with at_:=f.at_+1}:=⟨h.key,h.aC,h.AK,h.len,h.gL,by have:=h.at0;show 0≤f.at_+1;omega⟩
theorem fo.snoc{L:List (br × eB)}(i:∀y∈L,fo aa y.1) (h:fo aa f):∀g∈L.map Prod.fst++[f],fo aa g:=fun g j=>by grind
end
structure TR (aa:List aG) (aC:List cv) (rev:Int) (n:Nat) (t:qo):Prop where
 ok:TK aa aC rev t
 ns:t.stack.length≤n
 nr:t.bj.length≤n
 ng:t.goals.length≤32
section
variable {aa:List aG}{aC:List cv}{rev:Int}{n:Nat}{t:qo}
theorem TR.mono(h:TR aa aC rev n t) {m:Nat}(hm:n≤m):TR aa aC rev m t:=⟨h.ok,Nat.le_trans h.ns hm,Nat.le_trans h.nr hm,h.ng⟩
theorem TR.sz(h:TR aa aC rev n t) (hR:aq aa) (hn:n≤100000):t.Sz:=by
 have h1:=h.ok.base;have q:=h1.nB;have p:t.base.ab=aC:=h1.fH.aC;have r:t.base.ah.length≤4000:=h1.fH.len;have v:=h.ns;have y:=h.nr;have z:=h.ng;have B:=hR.len;have j:=h.ok.Gv;refine⟨by rw [j];omega,fun x o=>?_,by rw [p];omega,by omega,by omega,by omega,by omega⟩;rw [j] at o;obtain⟨i,hi,rfl⟩:=List.mem_iff_getElem.1 o
 have:=(hR.2 i _ (List.getElem?_eq_getElem hi)).1
 omega
theorem TR.V5(h:TR aa aC rev n t):TR aa aC rev n {t with goals:=t.goals.drop 1}:=
 ⟨⟨h.ok.Gv,h.ok.base,fun k hk=>h.ok.goals k (List.mem_of_mem_drop hk),h.ok.stack,h.ok.bj⟩,h.ns,h.nr,by have:=h.ng;simp;omega⟩
theorem TR.begin(h:TR aa aC rev n t) {k:Key}(hk:dX aa k) (hi:ay k=false) (hn:1≤n):TR aa aC rev n {t with goals:=t.goals.drop 1,stack:=[⟨k,false,0,[],[]⟩]}:=
 ⟨⟨h.ok.Gv,h.ok.base,fun k hk=>h.ok.goals k (List.mem_of_mem_drop hk),fun f i=>by grind [fo.new],h.ok.bj⟩,hn,h.nr,by have:=h.ng;simp;omega⟩
theorem TR.next(h:TR aa aC rev n t) {b:cm}{l:List br}{rk:List Key}(hb:BK aa aC rev b) (hl:∀f∈l,fo aa f) (hk:∀k∈rk,dX aa k) (h1:rk.length≤1) (i:l.length≤t.stack.length+1):TR aa aC rev (n+1) {t with base:=b,stack:=l,bj:=t.bj++rk}:=
 ⟨⟨h.ok.Gv,hb,h.ok.goals,hl,fun k hm=>by rcases List.mem_append.1 hm with hm | hm;exact h.ok.bj k hm;exact hk k hm⟩,by have:=h.ns;show l.length≤_;omega,by have:=h.nr;grind,h.ng⟩
theorem yU{x:cm}{l:List br}{k:Key}(h:cM x l k=true):ay k=false:=by grind [cM]
end
end Go.Rc

