/- Base of the proof: frames, memory, ownership, and the plain meaning of rule systems. Conditions: as each lemma says. -/
import Derived.Test.YtfamnpoplgkkcaaGreatDoorOBe
import Derived.Test.YtfamnpoplgkkcaaGreatDoorOBd
import Derived.Test.YtfamnpoplgkkcaaGreatDoorOBc
import Derived.Laws.IdiomRangeMap
set_option linter.all false
namespace Go.Rc
open Go
/-! ### counting -/
def Dt(p:Nat→Bool):Nat→Nat
 | 0=>0
 | n+1=>Dt p n+(p n).toNat
theorem ry{p q:Nat→Bool}:∀{n:Nat},(∀i,i<n→p i=true→q i=true)→Dt p n≤Dt q n
 | 0,_=>Nat.le_refl _
 | n+1,h=>by
  have h1:=ry (n:=n) fun i hi=>h i (by omega)
  have j:=h n (by omega);simp only [Dt]
  cases o:p n with
  | false=>simp;omega
  | true=>rw [j o];omega
theorem rz{p q:Nat→Bool}{j:Nat}:∀{n:Nat},(∀i,i<n→p i=true→q i=true)→j<n→q j=true→p j=false→Dt p n+1≤Dt q n
 | 0,_,r,_,_=>by omega
 | n+1,h,r,h1,o=>by
  simp only [Dt]
  rcases Nat.lt_or_ge j n with v | C
  ·
   have y:=rz (n:=n) (fun i hi=>h i (by omega)) v h1 o;have z:=h n (by omega)
   cases B:p n with
   | false=>simp;omega
   | true=>rw [z B];omega
  have e:j=n:=by omega
  subst e
  have y:=ry (n:=j) (p:=p) (q:=q) fun i hi=>h i (by omega)
  rw [h1,o];simp;omega
theorem Gb{p q:Nat→Bool}{j:Nat}:∀{n:Nat},(∀i,i<n→i≠j→p i=true→q i=true)→Dt p n≤Dt q n+1
 | 0,_=>by simp [Dt]
 | n+1,h=>by
  simp only [Dt]
  by_cases e:n=j
  ·
   subst e
   have v:=ry (n:=n) (p:=p) (q:=q) fun i hi=>h i (by omega) (by omega)
   cases p n <;> cases q n <;> simp <;> omega
  have h1:=Gb (n:=n) fun i hi=>h i (by omega)
  have o:=h n (by omega) e
  cases r:p n with
  | false=>simp;omega
  | true=>rw [o r];simp;omega
theorem OA(p:Nat→Bool):∀n,Dt p n≤n
 | 0=>Nat.le_refl _
 | n+1=>by have:=OA p n;simp only [Dt];cases p n <;> simp <;> omega
/-! ### what is found in what was put -/
theorem Gc:∀(a b:List UInt8),Lib.compareBytes a b=0→a=b
 | [],[],_=>rfl
 | [],_::_,h=>by simp [Lib.compareBytes] at h
 | _::_,[],h=>by simp [Lib.compareBytes] at h
 | x::a,y::b,h=>by
  simp only [Lib.compareBytes] at h
  split at h
  ·
   cases h
  split at h
  ·
   cases h
  rename_i h1 i
  have e:x=y:=by grind
  rw [e,Gc a b h]
theorem lW{a b:Key}(h:bA a b=0):a=b:=by
 unfold bA at h
 split at h
 ·
  cases h
 split at h
 ·
  cases h
 rename_i h1 i
 have j:=Gc _ _ h;obtain⟨p,o⟩:=a;obtain⟨q,r⟩:=b;simp only at h1 i j
 congr 1
 ·
  omega
 cases o;simp_all
theorem BB(r:Rec) (k:Key):∀(l:List Rec) (b:Bool),az (ff r l b) k=if k=r.key then (if b then none else some r) else az l k:=by
 intro l
 induction l with
 | nil=>
  intro b
  unfold ff az
  grind
 | cons x xs i=>
  intro b;have h1:=i (b || decide (0≤bA x.key r.key))
  unfold ff
  unfold az at h1 ⊢
  rw [List.find?_append,List.find?_append,h1]
  by_cases h:k=r.key
  ·
   subst h;simp only [if_true]
   by_cases hc:bA x.key r.key=0
   ·
    grind
   have o:x.key≠r.key:=fun e=>hc (by rw [e];exact ir _)
   grind
  simp only [if_neg h]
  have hr:(r.key == k)=false:=by simp;exact fun e=>h e.symm
  have j:(List.find? (fun y=>y.key == k) (if (decide (0≤bA x.key r.key) && !b)=true then [r] else []))=none:=by split <;> simp [hr]
  rw [j]
  by_cases hc:bA x.key r.key=0
  ·
   have e:x.key=r.key:=lW hc
   grind
  grind
theorem cT(l:List Rec) (r:Rec) (k:Key):az (ey l r) k=if k=r.key then some r else az l k:=by grind [ey,BB]
theorem rA(f:Rec→Rec) (h:∀r,(f r).key=r.key) (k:Key) (l:List Rec):az (l.map f) k=(az l k).map f:=by
 unfold az
 rw [List.find?_map,show((fun x:Rec=>x.key == k)∘f)=(fun x:Rec=>x.key == k) from funext fun x=>by simp [h]]
/-! ### what goes on being so -/
theorem aT{x:cy}{k:Key}:aA x k=true↔∃r,az x.ah k=some r∧r.av=x.ad:=by
 unfold aA aC
 cases h:az x.ah k with
 | none=>simp
 | some r=>simp
theorem D6{x:cy}{g:List Key}{d:Bool}{k:Key}(h:aA x k=true):aA (cH x g d) k=true:=by
 obtain⟨r,h1,i⟩:=aT.1 h;refine aT.2 ⟨a7 x.ad g d r,?_,?_⟩
 ·
  show az (x.ah.map (a7 x.ad g d)) k=_
  grind [rA,cQ]
 show _=x.ad
 unfold a7
 grind
theorem gT{x:cy}{g:List Key}{k:Key}(h:(az x.ah k).isSome=true) (hk:k∈g):aA (cH x g false) k=true:=by
 obtain⟨r,h1⟩:=Option.isSome_iff_exists.1 h;have i:=List.find?_some h1
 simp at i
 refine aT.2 ⟨a7 x.ad g false r,?_,?_⟩
 ·
  show az (x.ah.map (a7 x.ad g false)) k=_
  grind [rA,cQ]
 show _=x.ad
 grind [a7]
theorem Hc{x:cy}{r:Rec}{k:Key}(hr:r.av=x.ad) (h:aA x k=true):aA {x with ah:=ey x.ah r} k=true:=by
 obtain⟨q,h1,i⟩:=aT.1 h
 by_cases e:k=r.key
 ·
  exact aT.2 ⟨r,by show az (ey x.ah r) k=_;rw [cT,if_pos e],hr⟩
 exact aT.2 ⟨q,by show az (ey x.ah r) k=_;rw [cT,if_neg e,h1],i⟩
theorem jd{x:cy}{r:Rec}(hr:r.av=x.ad):aA {x with ah:=ey x.ah r} r.key=true:=
 aT.2 ⟨r,by show az (ey x.ah r) r.key=_;rw [cT,if_pos rfl],hr⟩
theorem D7(l:List Rec) (rev:Int) (k:Key):k∈aB l rev k:=by grind [aB,ru]
structure iD (s s':ES):Prop where
 on:∀k,s'.on k=s.on k
 up:∀k,aA s.b k=true→aA s'.b k=true
theorem iD.refl(s:ES):iD s s:=⟨fun _=>rfl,fun _ h=>h⟩
theorem iD.trans{s t u:ES}(h:iD s t) (i:iD t u):iD s u:=⟨fun k=>(i.on k).trans (h.on k),fun k hk=>i.up k (h.up k hk)⟩
theorem iD.there{s s':ES}(h:iD s s') {k:Key}(ht:ei s k=true):ei s' k=true:=by
 unfold ei at ht ⊢
 rw [h.on k];simp only [Bool.or_eq_true] at ht ⊢
 rcases ht with h1 | h1 | h1
 ·
  exact .inl h1
 ·
  exact .inr (.inl h1)
 exact .inr (.inr (h.up k h1))
def gC(aa:List aG) (s:ES):Nat:=Dt (fun i=>!aA s.b (aM aa (i:Int)) && !s.on (aM aa (i:Int))) aa.length
def off(aa:List aG) (s:ES):Nat:=Dt (fun i=>!s.on (aM aa (i:Int))) aa.length
theorem iD.gC{aa:List aG}{s s':ES}(h:iD s s'):gC aa s'≤gC aa s:=ry fun i _ j=>by
 simp only [Bool.and_eq_true,Bool.not_eq_true'] at j ⊢;rw [h.on] at j;refine⟨?_,j.2⟩
 cases hu:aA s.b (aM aa (i:Int)) with
 | false=>rfl
 | true=>rw [h.up _ hu] at j;exact absurd j.1 (by simp)
theorem iD.off{aa:List aG}{s s':ES}(h:iD s s'):Go.Rc.off aa s'=Go.Rc.off aa s:=by
 unfold Go.Rc.off
 congr 1
 funext i
 rw [h.on]
section
variable {aa:List aG}{val:Key→ByteArray}{aD:List cv}
theorem nc(s:ES) (k k':Key):ES.on {s with busy:=cJ s.busy k (.bool true)} k'=(decide (k=k') || s.on k'):=by
 unfold ES.on
 simp only [ee]
 by_cases h:k=k' <;> simp [h]
theorem D8{s:ES}(hn:(s.busy.map (·.1)).Nodup) (k k':Key):ES.on {s with busy:=iU s.busy k} k'=(!decide (k=k') && s.on k'):=by
 unfold ES.on
 simp only [Bd hn]
 by_cases h:k=k' <;> simp [h]
def UpK(aa:List aG) (val:Key→ByteArray) (aD:List cv) (f:Nat):Prop:=∀s k s',kU aa val f s k=some s'→Good aa aD s→eG aa k→iD s s'∧(s'.e=0→s.e=0∧(ay k=true∨ei s' k=true))∧s'.bf.length+gC aa s'≤s.bf.length+gC aa s
def ChK(aa:List aG) (val:Key→ByteArray) (aD:List cv) (f:Nat):Prop:=∀s k n s' b,cO aa val f s k n=some (s',b)→Good aa aD s→iD s s'∧(s'.e=0→s.e=0∧(b=false→aA s'.b k=true))∧s'.bf.length+gC aa s'≤s.bf.length+gC aa s
def RuK(aa:List aG) (val:Key→ByteArray) (aD:List cv) (f:Nat):Prop:=∀s k reads ae s',gO aa val f s k reads ae=some s'→Good aa aD s→gV aa k ae.length→iD s s'∧(s'.e=0→s.e=0∧aA s'.b k=true)∧(s'.bf.length+gC aa s'≤s.bf.length+gC aa s∨(aA s'.b k=true∧s'.bf.length+gC aa s'≤s.bf.length+gC aa s+1))
theorem iD.err(s:ES) (e:Int):iD s {s with e:=e}:=⟨fun _=>rfl,fun _ h=>h⟩
theorem iD.mark(s:ES) (g:List Key) (d:Bool):iD s {s with b:=cH s.b g d}:=⟨fun _=>rfl,fun _ h=>D6 h⟩
theorem iu(hR:aq aa):∀f,UpK aa val aD f∧ChK aa val aD f∧RuK aa val aD f:=by
 intro f
 induction f with
 | zero=>exact⟨fun s k s' h=>by simp [kU] at h,fun s k n s' b h=>by simp [cO] at h,fun s k r a s' h=>by simp [gO] at h⟩
 | succ f ih=>
  obtain⟨S,D,F⟩:=ih;have gd:=ct (val:=val) (aD:=aD) hR f;refine⟨?_,?_,?_⟩
  ·
   intro s k s' h p hk
   unfold kU at h
   split at h
   ·
    rename_i he
    cases h
    refine⟨.refl _,fun h0=>⟨h0,?_⟩,Nat.le_refl _⟩
    grind
   rename_i he
   have he0:s.e=0:=by simp at he;exact he.1
   have G:ay k=false:=by simp at he;exact he.2
   split at h
   ·
    rename_i hu
    cases h
    exact⟨.refl _,fun h0=>⟨h0,.inr (by unfold ei;rw [hu];simp)⟩,Nat.le_refl _⟩
   rename_i hu
   split at h
   ·
    rename_i H
    split at h
    ·
     rename_i hc
     cases h
     exact⟨.refl _,fun h0=>⟨h0,.inr (by unfold ei;rw [H,hc];simp)⟩,Nat.le_refl _⟩
    cases h
    exact⟨.err _ _,fun h0=>by simp at h0,Nat.le_refl _⟩
   rename_i H
   have hu':aA s.b k=false:=by simpa using hu
   have Lj:s.on k=false:=by simpa using H
   obtain⟨⟨s2,b2⟩,z,h⟩:=Option.bind_eq_some_iff.1 h;obtain⟨o,ht,h⟩:=Option.bind_eq_some_iff.1 h;simp only [Option.some.injEq] at h;subst h;obtain⟨i,hi,hki,_⟩:=hk.gF G;obtain⟨I,_⟩:=gd.2.1 _ _ _ _ _ z (p.on k);obtain⟨U,he2,ht2⟩:=D _ _ _ _ _ z (p.on k)
   -- the state before, with k under way
   have h1:gC aa {s with busy:=cJ s.busy k (.bool true)}+1≤gC aa s:=by
    refine rz (j:=i) (fun j _ v=>?_) hi ?_ ?_
    ·
     simp only [nc,Bool.and_eq_true,Bool.not_eq_true',Bool.or_eq_false_iff] at v ⊢;exact⟨v.1,v.2.2⟩
    ·
     grind
    grind [nc]
   have B:Good aa aD o∧iD s2 o∧(o.e=0→s2.e=0∧aA o.b k=true)∧(o.bf.length+gC aa o≤s2.bf.length+gC aa s2∨(aA o.b k=true∧o.bf.length+gC aa o≤s2.bf.length+gC aa s2+1)):=by
    split at ht
    ·
     obtain⟨a,b,c⟩:=F _ _ _ _ _ ht I (hk.gF G);exact⟨(gd.2.2 _ _ _ _ _ ht I (hk.gF G) rfl (fun a C=>by cases C)).1,a,b,c⟩
    rename_i hb
    simp only [Option.some.injEq] at ht;subst ht;exact⟨I,.refl _,fun h0=>⟨h0,(he2 h0).2 (by simpa using hb)⟩,.inl (Nat.le_refl _)⟩
   obtain⟨J,V,he3,ht3⟩:=B
   have Il:∀k',o.on k'=(decide (k=k') || s.on k'):=fun k'=>by rw [V.on,U.on,nc]
   have q:iD s {o with busy:=iU o.busy k}:=⟨fun k'=>by
    rw [D8 J.j0,Il]
    grind,fun k' h=>V.up _ (U.up _ h)⟩
   refine⟨q,fun h0=>⟨he0,.inr ?_⟩,?_⟩
   ·
    have:=(he3 h0).2
    show ei {o with busy:=iU o.busy k} k=true
    unfold ei
    grind
   show o.bf.length+gC aa {o with busy:=iU o.busy k}≤_
   have alQ:s2.bf.length+gC aa s2≤s.bf.length+gC aa {s with busy:=cJ s.busy k (.bool true)}:=ht2
   by_cases hu3:aA o.b k=true
   ·
    have:gC aa {o with busy:=iU o.busy k}≤gC aa o:=ry fun j _ v=>by
     simp only [D8 J.j0,Bool.and_eq_true,Bool.not_eq_true',Bool.and_eq_false_iff] at v ⊢
     grind
    omega
   have y:gC aa {o with busy:=iU o.busy k}≤gC aa o+1:=Gb (j:=i) fun j v Dr z=>by
    simp only [D8 J.j0,Bool.and_eq_true,Bool.not_eq_true',Bool.and_eq_false_iff] at z ⊢
    grind [dX]
   grind
  ·
   intro s k n s' b h p
   unfold cO at h
   split at h
   ·
    rename_i he
    cases h;exact⟨.refl _,fun h0=>absurd h0 he,Nat.le_refl _⟩
   split at h
   ·
    cases h;exact⟨.refl _,fun h0=>⟨h0,fun hb=>by cases hb⟩,Nat.le_refl _⟩
   rename_i hf
   have W:(az s.b.ah k).isSome=true:=by grind
   split at h
   ·
    rename_i hv
    cases h;exact⟨.refl _,fun h0=>⟨h0,fun _=>by unfold aA;rw [W,hv];simp⟩,Nat.le_refl _⟩
   split at h
   ·
    cases h
    have q:iD s {s with b:=cH s.b (aB s.b.ah s.b.ad k) false}:=.mark _ _ _;exact⟨q,fun h0=>⟨h0,fun _=>gT W (D7 _ _ _)⟩,Nat.add_le_add_left q.gC _⟩
   rename_i c hc
   split at h
   ·
    obtain⟨t,ht,h⟩:=Option.bind_eq_some_iff.1 h;obtain⟨h1,O,B⟩:=S _ _ _ ht p (fP p hc);obtain⟨Q,y,X⟩:=D _ _ _ _ _ h (gd.1 _ _ _ ht p (fP p hc)).1;exact⟨h1.trans Q,fun h0=>⟨(O (y h0).1).1,(y h0).2⟩,Nat.le_trans X B⟩
   split at h
   ·
    split at h <;> cases h
    ·
     have q:iD s {s with b:=cH s.b (aB s.b.ah s.b.ad k) true}:=.mark _ _ _;exact⟨q,fun h0=>⟨h0,fun hb=>by cases hb⟩,Nat.add_le_add_left q.gC _⟩
    exact⟨.refl _,fun h0=>⟨h0,fun hb=>by cases hb⟩,Nat.le_refl _⟩
   exact D _ _ _ _ _ h p
  intro s k reads ae s' h p C
  unfold gO at h
  split at h
  ·
   rename_i he
   cases h;exact⟨.refl _,fun h0=>absurd h0 he,.inl (Nat.le_refl _)⟩
  rename_i he
  split at h
  ·
   split at h
   ·
    cases h;exact⟨.err _ _,fun h0=>by simp at h0,.inl (Nat.le_refl _)⟩
   cases h
   have q:iD s {s with b:={s.b with ah:=ey s.b.ah (bJ s.b k (aH aa k ae).value reads)},bf:=s.bf++[k]}:=⟨fun _=>rfl,fun _ h=>Hc rfl h⟩;have hu:aA ({s.b with ah:=ey s.b.ah (bJ s.b k (aH aa k ae).value reads)}:cy) k=true:=jd (r:=bJ s.b k (aH aa k ae).value reads) rfl;refine⟨q,fun h0=>⟨h0,hu⟩,.inr ⟨hu,?_⟩⟩
   have:=q.gC (aa:=aa)
   grind
  rename_i hd
  obtain⟨t,ht,h⟩:=Option.bind_eq_some_iff.1 h;have hn:=C.next hR (by simpa using hd);obtain⟨h1,O,B⟩:=S _ _ _ ht p hn.2;have Y:=(gd.1 _ _ _ ht p hn.2).1
  have h7:iD t s'∧(s'.e=0→t.e=0∧aA s'.b k=true)∧(s'.bf.length+gC aa s'≤t.bf.length+gC aa t∨(aA s'.b k=true∧s'.bf.length+gC aa s'≤t.bf.length+gC aa t+1)):=by
   split at h
   ·
    exact F _ _ _ _ _ h Y (by simpa using hn.1)
   exact F _ _ _ _ _ h Y C
  obtain⟨Q,y,X⟩:=h7;refine⟨h1.trans Q,fun h0=>⟨(O (y h0).1).1,(y h0).2⟩,?_⟩
  grind
/-! ### more fuel does no harm -/
theorem nh:∀f,(∀s k s',kU aa val f s k=some s'→kU aa val (f+1) s k=some s')∧(∀s k n p,cO aa val f s k n=some p→cO aa val (f+1) s k n=some p)∧(∀s k r a s',gO aa val f s k r a=some s'→gO aa val (f+1) s k r a=some s'):=by
 intro f
 induction f with
 | zero=>grind [kU,cO,gO]
 | succ f o=>
  obtain⟨v,y,z⟩:=o;refine⟨?_,?_,?_⟩
  ·
   intro s k s' h
   unfold kU at h ⊢
   split at h
   ·
    grind
   rename_i h1;rw [if_neg h1]
   split at h
   ·
    grind
   rename_i i;rw [if_neg i]
   split at h
   ·
    grind
   rename_i j;rw [if_neg j]
   obtain⟨p,B,h⟩:=Option.bind_eq_some_iff.1 h;obtain⟨C,ht,h⟩:=Option.bind_eq_some_iff.1 h
   grind
  ·
   intro s k n p h
   unfold cO at h ⊢
   split at h
   ·
    grind
   rename_i h1;rw [if_neg h1]
   split at h
   ·
    grind
   rename_i i;rw [if_neg i]
   split at h
   ·
    grind
   rename_i j;rw [if_neg j]
   split at h
   ·
    exact h
   rename_i c hc
   split at h
   ·
    rename_i q;rw [if_pos q]
    grind [Option.bind_eq_some_iff]
   grind
  intro s k r a s' h
  unfold gO at h ⊢
  split at h
  ·
   grind
  rename_i h1;rw [if_neg h1]
  split at h
  ·
   grind
  rename_i i;rw [if_neg i]
  obtain⟨t,ht,h⟩:=Option.bind_eq_some_iff.1 h
  grind
theorem nY{f g:Nat}(h:f≤g) {s:ES}{k:Key}{s':ES}(hu:kU aa val f s k=some s'):kU aa val g s k=some s':=by
 induction h with
 | refl=>exact hu
 | step _ i=>exact(nh _).1 _ _ _ i
theorem o0{f g:Nat}(h:f≤g) {s:ES}{k:Key}{n:Nat}{p:ES × Bool}(hu:cO aa val f s k n=some p):cO aa val g s k n=some p:=by
 induction h with
 | refl=>exact hu
 | step _ i=>exact(nh _).2.1 _ _ _ _ i
theorem uz{f g:Nat}(h:f≤g) {s:ES}{k:Key}{r:List Key}{a:List ByteArray}{s':ES}(hu:gO aa val f s k r a=some s'):gO aa val g s k r a=some s':=by
 induction h with
 | refl=>exact hu
 | step _ i=>exact(nh _).2.2 _ _ _ _ _ i
/-! ### there is fuel enough -/
theorem D9(hR:aq aa) {d:Nat}(D:∀s k,Good aa aD s→eG aa k→off aa s≤d→∃f s',kU aa val f s k=some s') (k:Key) :
  ∀(m:Nat) (s:ES) (n:Nat),gC aa s*200000000+(200000000 - n)≤m→n≤100000000→Good aa aD s→off aa s≤d→∃f p,cO aa val f s k n=some p:=by
 intro m
 induction m using Nat.strongRecOn with
 | _ m B=>
  intro s n hm hn h v
  by_cases h1:s.e≠0
  ·
   exact⟨1,(s,false),by unfold cO;rw [if_pos h1]⟩
  by_cases o:(!(az s.b.ah k).isSome || (aC s.b.ah k).bu)=true
  ·
   exact⟨1,(s,true),by unfold cO;rw [if_neg h1,if_pos o]⟩
  by_cases r:(aC s.b.ah k).av=s.b.ad
  ·
   exact⟨1,(s,false),by unfold cO;grind⟩
  have F:(aB s.b.ah s.b.ad k).length≤4001:=by grind [kh,Good.len]
  have W:=tM h F
  cases hc:(bT s.b.ah (aB s.b.ah s.b.ad k))[n]? with
  | none=>exact⟨1,_,by unfold cO;rw [if_neg h1,if_neg o,if_neg r,hc]⟩
  | some c=>
   have X:n<(bT s.b.ah (aB s.b.ah s.b.ad k)).length:=(List.getElem?_eq_some_iff.1 hc).1
   by_cases y:ei s c.read=false
   ·
    obtain⟨f,t,ht⟩:=D s c.read h (fP h hc) v;obtain⟨z,Y,_⟩:=(iu (val:=val) hR f).1 _ _ _ ht h (fP h hc);have G:=((ct (val:=val) hR f).1 _ _ _ ht h (fP h hc)).1
    have H:ay c.read=false:=by grind [ei]
    by_cases I:t.e=0
    ·
     obtain⟨i,hi,C,_⟩:=(fP h hc).gF H
     have Mc:ei t c.read=true:=by grind
     have AB:gC aa t+1≤gC aa s:=by
      have J:aA s.b c.read=false:=by grind [ei]
      have hoc:(s.on c.read && ax c.read)=false:=by grind [ei]
      have O:aA t.b c.read=true:=by grind [ei,iD.on]
      have Q:s.on c.read=false:=by
       cases ho:s.on c.read with
       | false=>rfl
       | true=>
        exfalso
        cases f with
        | zero=>simp [kU] at ht
        | succ f=>
         unfold kU at ht
         grind
      refine rz (j:=i) (fun j _ q=>?_) hi ?_ ?_
      ·
       simp only [Bool.and_eq_true,Bool.not_eq_true'] at q ⊢;rw [z.on] at q;refine⟨?_,q.2⟩
       cases S:aA s.b (aM aa (j:Int)) with
       | false=>rfl
       | true=>rw [z.up _ S] at q;exact absurd q.1 (by simp)
      ·
       rw [← C,J,Q];rfl
      rw [← C,O];rfl
     obtain⟨f2,p,U⟩:=B (gC aa t*200000000+(200000000 - n)) (by omega) t n (Nat.le_refl _) hn G (by rw [z.off];exact v);refine⟨max f f2+1,p,?_⟩
     unfold cO
     rw [if_neg h1,if_neg o,if_neg r,hc]
     simp only
     rw [if_pos y,nY (Nat.le_max_left _ _) ht]
     grind [o0,Nat.le_max_right]
    refine⟨max f 1+1,(t,false),?_⟩
    unfold cO
    rw [if_neg h1,if_neg o,if_neg r,hc]
    simp only
    rw [if_pos y,nY (Nat.le_max_left _ _) ht];refine o0 (f:=1) (Nat.le_max_right _ _) ?_
    unfold cO
    rw [if_pos I]
   by_cases V:(aC s.b.ah c.dP).av<aV val s.b c.read
   ·
    exact⟨1,_,by unfold cO;rw [if_neg h1,if_neg o,if_neg r,hc];simp only;rw [if_neg y,if_pos V]⟩
   obtain⟨f2,p,U⟩:=B (gC aa s*200000000+(200000000 - (n+1))) (by omega) s (n+1) (Nat.le_refl _) (by omega) h v;refine⟨f2+1,p,?_⟩
   unfold cO
   grind
theorem Jn(hR:aq aa) {d:Nat}(v:∀s k,Good aa aD s→eG aa k→off aa s≤d→∃f s',kU aa val f s k=some s') (k:Key) :
  ∀(m:Nat) (s:ES) (reads:List Key) (ae:List ByteArray),7 - ae.length≤m→Good aa aD s→gV aa k ae.length→off aa s≤d→∃f s',gO aa val f s k reads ae=some s':=by
 intro m
 induction m with
 | zero=>intro s r a hm _ i _;have:=i.le hR;omega
 | succ m y=>
  intro s reads ae hm j i p
  by_cases h1:s.e≠0
  ·
   exact⟨1,s,by unfold gO;rw [if_pos h1]⟩
  by_cases h:(aH aa k ae).done=true
  ·
   by_cases q:(!(az s.b.ah k).isSome && decide (4000≤s.b.ah.length))=true
   ·
    exact⟨1,_,by unfold gO;rw [if_neg h1,if_pos h,if_pos q]⟩
   exact⟨1,_,by unfold gO;rw [if_neg h1,if_pos h,if_neg q]⟩
  have hn:=i.next hR (by simpa using h);obtain⟨f,t,ht⟩:=v s _ j hn.2 p;obtain⟨z,_,_⟩:=(iu (val:=val) hR f).1 _ _ _ ht j hn.2;have B:=((ct (val:=val) hR f).1 _ _ _ ht j hn.2).1
  by_cases o:t.e=0
  ·
   obtain⟨f2,s',C⟩:=y t (reads++[(aH aa k ae).ask]) (ae++[bO val t.b (aH aa k ae).ask]) (by simp;omega) B (by simpa using hn.1) (by rw [z.off];exact p);refine⟨max f f2+1,s',?_⟩
   unfold gO
   rw [if_neg h1,if_neg h,nY (Nat.le_max_left _ _) ht];simp only [Option.bind_some];rw [if_pos o]
   grind [uz,Nat.le_max_right]
  refine⟨max f 1+1,t,?_⟩
  unfold gO
  rw [if_neg h1,if_neg h,nY (Nat.le_max_left _ _) ht];simp only [Option.bind_some];rw [if_neg o];refine uz (f:=1) (Nat.le_max_right _ _) ?_
  unfold gO
  rw [if_pos o]
theorem Md(hR:aq aa):∀(d:Nat) (s:ES) (k:Key),Good aa aD s→eG aa k→off aa s≤d→∃f s',kU aa val f s k=some s':=by
 intro d
 induction d with
 | zero=>
  intro s k p hk C
  by_cases h1:s.e≠0∨ay k=true
  ·
   exact⟨1,s,by unfold kU;rw [if_pos h1]⟩
  by_cases h:aA s.b k=true
  ·
   exact⟨1,s,by unfold kU;rw [if_neg h1,if_pos h]⟩
  by_cases o:s.on k=true
  ·
   by_cases q:ax k=true
   ·
    exact⟨1,s,by unfold kU;grind⟩
   exact⟨1,_,by unfold kU;rw [if_neg h1,if_neg h,if_pos o,if_neg q]⟩
  exfalso
  obtain⟨i,hi,r,_⟩:=hk.gF (by simp at h1;exact h1.2)
  have:off aa {s with busy:=cJ s.busy k (.bool true)}+1≤off aa s:=by
   refine rz (j:=i) (fun j _ D=>?_) hi ?_ ?_
   ·
    grind [nc]
   ·
    rw [← r];simpa using o
   grind [nc]
  omega
 | succ d y=>
  intro s k p hk C
  by_cases h1:s.e≠0∨ay k=true
  ·
   exact⟨1,s,by unfold kU;rw [if_pos h1]⟩
  by_cases h:aA s.b k=true
  ·
   exact⟨1,s,by unfold kU;rw [if_neg h1,if_pos h]⟩
  by_cases o:s.on k=true
  ·
   by_cases q:ax k=true
   ·
    exact⟨1,s,by unfold kU;grind⟩
   exact⟨1,_,by unfold kU;rw [if_neg h1,if_neg h,if_pos o,if_neg q]⟩
  have z:ay k=false:=by simp at h1;exact h1.2
  obtain⟨i,hi,r,_⟩:=hk.gF z
  have H:off aa {s with busy:=cJ s.busy k (.bool true)}+1≤off aa s:=by
   refine rz (j:=i) (fun j _ D=>?_) hi ?_ ?_
   ·
    grind [nc]
   ·
    rw [← r];simpa using o
   grind [nc]
  obtain⟨f,⟨s2,b2⟩,v⟩:=D9 (val:=val) hR y k _ {s with busy:=cJ s.busy k (.bool true)} 0 (Nat.le_refl _) (by omega) (p.on k) (by omega);have F:=((ct (val:=val) hR f).2.1 _ _ _ _ _ v (p.on k)).1;have G:=((iu (val:=val) hR f).2.1 _ _ _ _ _ v (p.on k)).1
  cases b2 with
  | false=>
   refine⟨f+1,{s2 with busy:=iU s2.busy k},?_⟩
   unfold kU
   grind
  | true=>
   obtain⟨f2,B,I⟩:=Jn (val:=val) hR y k _ s2 [] [] (Nat.le_refl _) F (hk.gF z) (by rw [G.off];omega);refine⟨max f f2+1,{B with busy:=iU B.busy k},?_⟩
   unfold kU
   rw [if_neg h1,if_neg h,if_neg o,o0 (Nat.le_max_left _ _) v];simp only [Option.bind_some,if_true]
   grind [uz,Nat.le_max_right]
end
end Go.Rc

namespace Go.Rc
open Go
noncomputable def dK(aa:List aG) (val:Key→ByteArray) (f:Nat):ES→List Key→Option ES
 | s,[]=>some s
 | s,k::r=>(kU aa val f s k).bind fun t=>dK aa val f t r
def ES.base(s:ES) (x:cy):cy:=if s.e=0 then s.b else x
noncomputable def ES.list(s:ES):List Key:=if s.e=0 then kf s.bf else []
theorem o7{aa:List aG}{aD:List cv}{val:Key→ByteArray}(hR:aq aa) {f:Nat}:∀{l:List Key}{s s':ES},dK aa val f s l=some s'→Good aa aD s→(∀k∈l,eG aa k)→Good aa aD s'∧Ga s s'
 | [],s,s',h,i,_=>by simp only [dK,Option.some.injEq] at h;subst h;exact⟨i,.refl _⟩
 | k::r,s,s',h,i,hk=>by
  simp only [dK] at h;obtain⟨t,h1,p⟩:=Option.bind_eq_some_iff.1 h;have j:=(ct (val:=val) hR f).1 _ _ _ h1 i (hk k (by simp))
  have o:=o7 hR p j.1 fun k q=>hk k (by simp [q])
  exact⟨o.1,j.2.trans o.2⟩
theorem St.Vz{κ:Type}{enc:κ→Value}{w0 w:World}{M Z:Nat→Prop}{l:List As}{s m T:Nat}{cs:List Value}{q:List (κ × Value)}(h:St w0 M Z w (As.blk s T cs::As.map enc m q::l)):s≠m:=fun e=>by
 have h1:=(List.pairwise_cons.1 h.rl).1 (As.map enc m q) (by simp) s rfl;exact h1 e
end Go.Rc

namespace Go.Rc
open Go
/-! ### the order of keys -/
theorem xC:∀a b:List UInt8,Lib.compareBytes b a = - Lib.compareBytes a b
 | [],[]=>rfl
 | [],_::_=>rfl
 | _::_,[]=>rfl
 | x::a,y::b=>by
  simp only [Lib.compareBytes]
  by_cases h1:x<y
  ·
   grind
  by_cases h:y<x
  ·
   grind
  rw [if_neg h,if_neg h1,if_neg h1,if_neg h,xC a b]
theorem uA:∀a b c:List UInt8,Lib.compareBytes a b<0→Lib.compareBytes b c<0→Lib.compareBytes a c<0
 | _,[],[],_,h=>by simp [Lib.compareBytes] at h
 | [],[],_::_,h,_=>by simp [Lib.compareBytes] at h
 | _::_,[],_::_,h,_=>by simp [Lib.compareBytes] at h
 | _,_::_,[],_,h=>by simp [Lib.compareBytes] at h
 | [],_::_,_::_,_,_=>by simp [Lib.compareBytes]
 | x::a,y::b,z::c,h1,i=>by
  simp only [Lib.compareBytes] at h1 i ⊢
  by_cases e1:x<y
  ·
   grind
  rw [if_neg e1] at h1
  by_cases e3:y<x
  ·
   rw [if_pos e3] at h1;simp at h1
  rw [if_neg e3] at h1
  by_cases e2:y<z
  ·
   grind
  rw [if_neg e2] at i
  by_cases e4:z<y
  ·
   rw [if_pos e4] at i;simp at i
  rw [if_neg e4] at i;rw [if_neg (by grind),if_neg (by grind)];exact uA a b c h1 i
theorem je(a b:Key):bA b a = - bA a b:=by
 unfold bA
 by_cases h1:a.kind<b.kind
 ·
  grind
 by_cases h:b.kind<a.kind
 ·
  grind
 rw [if_neg h,if_neg h1,if_neg h1,if_neg h,xC]
theorem ie{a b c:Key}(h1:bA a b<0) (h:bA b c<0):bA a c<0:=by
 unfold bA at h1 h ⊢
 by_cases e1:a.kind<b.kind
 ·
  grind
 rw [if_neg e1] at h1
 by_cases e4:b.kind<a.kind
 ·
  rw [if_pos e4] at h1;simp at h1
 rw [if_neg e4] at h1
 by_cases e2:b.kind<c.kind
 ·
  rw [if_pos (by omega)];decide
 rw [if_neg e2] at h
 by_cases e3:c.kind<b.kind
 ·
  rw [if_pos e3] at h;simp at h
 rw [if_neg e3] at h;rw [if_neg (by omega),if_neg (by omega)];exact uA _ _ _ h1 h
def pG(l:List Rec):Prop:=l.Pairwise fun a b=>bA a.key b.key<0
theorem uB(r:Rec):∀l:List Rec,ff r l true=l.filter fun x=>!decide (bA x.key r.key=0)
 | []=>rfl
 | x::xs=>by
  simp only [ff,Bool.not_true,Bool.and_false,Bool.false_eq_true,if_false,Bool.true_or,List.nil_append,uB r xs,List.filter_cons]
  grind
theorem pG.put{r:Rec}:∀{l:List Rec},pG l→pG (ey l r)
 | [],_=>by simp [pG,ey,ff]
 | x::xs,h=>by
  obtain⟨h1,j⟩:=List.pairwise_cons.1 h;have p:pG (ey xs r):=pG.put j;have o:pG (xs.filter fun y=>!decide (bA y.key r.key=0)):=List.Pairwise.filter _ j
  show pG (ff r (x::xs) false)
  simp only [ff,Bool.not_false,Bool.and_true,Bool.false_or]
  by_cases c1:bA x.key r.key<0
  ·
   rw [decide_eq_false (show ¬0≤bA x.key r.key by omega),if_neg (show ¬bA x.key r.key=0 by omega)];simp only [Bool.false_eq_true,if_false,List.nil_append,List.singleton_append];refine List.pairwise_cons.2 ⟨fun y i=>?_,p⟩
   grind [gA]
  rw [decide_eq_true (show 0≤bA x.key r.key by omega),uB];simp only [if_true]
  by_cases c2:bA x.key r.key=0
  ·
   rw [if_pos c2];simp only [List.append_nil,List.singleton_append];refine List.pairwise_cons.2 ⟨fun y i=>?_,o⟩
   grind [lW]
  rw [if_neg c2];simp only [List.singleton_append,List.cons_append]
  have c3:bA r.key x.key<0:=by rw [je x.key r.key];omega
  refine List.pairwise_cons.2 ⟨fun y i=>?_,List.pairwise_cons.2 ⟨fun y i=>h1 y (List.mem_filter.1 i).1,o⟩⟩
  grind [ie]
theorem pG.mX{l:List Rec}(h:pG l) (hn:l.length≤4000) (o:∀r∈l,eE r=true):mX l:=by
 refine⟨hn,fun i x j=>⟨o x (List.mem_of_getElem? j),fun hi=>?_⟩⟩;obtain⟨hl,rfl⟩:=List.getElem?_eq_some_iff.1 j;rw [getElem!_pos l (i - 1) (by omega)];exact List.pairwise_iff_getElem.1 h (i - 1) i (by omega) hl (by omega)
/-! ### values are short -/
section
variable {aa:List aG}{aD:List cv}
theorem rB{n:Nat}(h:n≤65535):(itoa (n:Int)).size≤6:=by
 have e:Lib.itoa (n:Int)=Lib.decDigits n:=by unfold Lib.itoa;rw [if_neg (by omega)];rfl
 grind [itoa,Lib.decDigits,ByteArray.size]
theorem Ea(hR:aq aa) {i:Nat}(hi:i<aa.length):∃n:Nat,n≤65535∧valOf aa aD (aM aa (i:Int))=itoa (n:Int):=by
 have h1:=fF (aD:=aD) hR hi;rw [gN hR hi (gx _ _ _).2] at h1;have hc:=aq.hb hR _ (List.getElem_mem hi);refine⟨_,nV (kind:=aa[i].final) (c:=aa[i].c.toNat) (l:=(dW (cq aa (aM aa (i:Int))) (valOf aa aD) (cN aa i)).2.map cB) (by omega) (fun x h=>?_),?_⟩
 ·
  grind [kG]
 grind
theorem Jo(hR:aq aa) {i:Nat}(hi:aa.length≤i):ts aa aD i=⟨#[]⟩:=by
 have hk:aM aa (i:Int)=eU:=by unfold aM;rw [if_pos (by omega)]
 unfold ts pZ
 rw [if_neg (by rw [lN hi];simp),hk]
 unfold cq
 rw [if_pos (.inl (by unfold number eU;simp))]
theorem Eb(hR:aq aa) (hi:∀x∈aD,x.value.size≤1000) (k:Key):(valOf aa aD k).size≤1000:=by
 by_cases hk:ay k=true
 ·
  unfold valOf cellOf
  rw [if_pos hk]
  unfold bw
  cases i:aD.find? fun x=>x.key == k with
  | none=>simp [ByteArray.size]
  | some x=>grind
 have e:valOf aa aD k=ts aa aD (number k).toNat:=by unfold valOf;rw [if_neg hk]
 rw [e]
 rcases Nat.lt_or_ge (number k).toNat aa.length with h | h
 ·
  rw [← gS hR h];obtain⟨n,hn,j⟩:=Ea (aD:=aD) hR h
  grind [rB]
 grind [Jo,ByteArray.size]
theorem uC(aa:List aG) (aD:List cv) (i:Nat):(cS aa aD i).length=cN aa i:=(gx _ _ _).1
theorem o8(hR:aq aa) {i:Nat}(hi:i<aa.length):∀a∈cS aa aD i,eW aa i a:=by
 have key:∀n,n≤cN aa i→∀a∈(dW (cq aa (aM aa (i:Int))) (valOf aa aD) n).1,eW aa i a:=by
  intro n
  induction n with
  | zero=>intro _ a h;simp [dW] at h
  | succ n j=>grind [dW,eh,gx]
 exact key _ (Nat.le_refl _)
theorem eG.valid{k:Key}(h:eG aa k):fN k=true:=by
 cases h with
 | cell h=>
  rename_i n
  have hc:cD (n:Int)=⟨30,itoa (n:Int)⟩:=by unfold cD;rw [if_neg (by omega)]
  rw [hc]
  unfold fN number
  simp only [];rw [if_pos (by omega)]
  grind [jV]
 | eT h jl=>
  rename_i i
  have h1:=cz h jl;have j:=eF h jl
  unfold fN
  grind
end
section
variable {aa:List aG}{aD:List cv}{s t:ES}{k:Key}
theorem aK{l:List Rec}{r:Rec}(h:az l k=some r):r∈l∧r.key=k:=by grind [az]
def nj(aa:List aG) (j:Nat):Nat:=if aF aa j then bD aa j else j
def Lw(aa:List aG) (i b:Nat):Prop:=if aF aa i then bD aa i≤b else i<b
def ack(aa:List aG) (s:ES) (i:Nat):Prop:=∀j:Nat,j<aa.length→s.on (aM aa (j:Int))=true→Lw aa i (nj aa j)
def Uu(aa:List aG) (s:ES) (i:Nat):Prop:=∀j:Nat,j<aa.length→s.on (aM aa (j:Int))=true→j=i∨Lw aa i (nj aa j)
theorem Gd(hR:aq aa) {i:Nat}(hi:i<aa.length) {ae:List ByteArray}(hn:ae.length<cN aa i) :
  ∃a,cq aa (aM aa (i:Int)) ae=⟨false,⟨#[]⟩,a⟩∧eW aa i a∧∀m:Nat,m<aa.length→a=aM aa (m:Int)→Lw aa m (nj aa i)∧∀b,Lw aa i b→Lw aa m b:=by
 have G:=hR.len;obtain⟨a,h1,h,o⟩:=eh hR hi hn;refine⟨a,h1,h,fun m hm p=>?_⟩;have hb:=gi aa m
 cases hr:aF aa i with
 | false=>
  have H:m<i:=by
   rcases h with⟨n,j,rfl⟩ | ⟨q,j,rfl,_,r,_⟩
   ·
    grind [bB,dr]
   grind [dX]
  unfold Lw nj
  grind
 | true=>
  unfold Lw nj
  rw [hr];simp only [if_true]
  cases I:aF aa m with
  | false=>
   have J:m<bD aa i:=by
    rcases h with⟨n,j,rfl⟩ | ⟨q,j,rfl,_,_,_,r⟩
    ·
     grind [bB,dr]
    grind [dX]
   grind
  | true=>
   obtain⟨x,v,y⟩:=o hr;have z:=List.mem_of_getElem? v
   have B:outside aa x=false:=by grind [ja,bE]
   obtain⟨O,C,D,F⟩:=ib hR hi hr z B
   have:=dX hR F hm (D.symm.trans (y.symm.trans p))
   subst this;have Q:=kc hR (cV.step cV.refl C)
   grind
end
end Go.Rc

namespace Go.Rc
open Go
theorem fw(x:Rec):eE x=true↔(∀a∈x.reads,fN a=true)∧fN x.key=true∧ay x.key=false∧(x.value.size:Int)≤1073741824∧(x.reads.length:Int)≤4000∧0≤x.changed∧x.changed≤x.av∧x.av≤1073741824∧1≤x.cost∧x.cost≤1073741824∧(x.bu=false∨ax x.key=true):=by
 unfold eE gh
 grind
structure xD (s:ES):Prop where
 st:pG s.b.ah
 v:∀r∈s.b.ah,eE r=true∧r.av≤s.b.ad
 r0:0≤s.b.ad
 r1:s.b.ad≤1073741824
section
variable {aa:List aG}{aD:List cv}{val:Key→ByteArray}{s t:ES}{k:Key}
theorem pG.map{l:List Rec}(h:pG l) {f:Rec→Rec}(i:∀r,(f r).key=r.key):pG (l.map f):=by grind [pG]
theorem xD.BC(h:xD s) (g:List Key):xD {s with b:=cH s.b g false}:=by
 refine⟨h.st.map fun r=>(cQ _ _ _ r).1,fun r hr=>?_,h.r0,h.r1⟩;obtain⟨q,o,rfl⟩:=List.mem_map.1 hr;obtain⟨h1,p⟩:=h.v q o;have h0:=h.r0;have y:=h.r1
 unfold a7
 by_cases hk:q.key∈g
 ·
  rw [if_pos hk];simp only [Bool.false_eq_true,if_false];rw [fw] at h1 ⊢;obtain⟨a,b,c,d,e,f,g,i,j,k,l⟩:=h1;exact⟨⟨a,b,c,d,e,f,by grind,y,j,k,l⟩,Int.le_refl _⟩
 rw [if_neg hk];exact⟨h1,p⟩
theorem xD.BD(h:xD s) {g:List Key}(hc:∀x∈g,ax x=true):xD {s with b:=cH s.b g true}:=by
 refine⟨h.st.map fun r=>(cQ _ _ _ r).1,fun r hr=>?_,h.r0,h.r1⟩;obtain⟨q,p,rfl⟩:=List.mem_map.1 hr;obtain⟨h1,o⟩:=h.v q p
 unfold a7
 by_cases hk:q.key∈g
 ·
  rw [if_pos hk];simp only [if_true];rw [fw] at h1 ⊢;obtain⟨a,b,c,d,e,f,g,i,j,k,l⟩:=h1;exact⟨⟨a,b,c,d,e,f,g,i,j,k,.inr (hc _ hk)⟩,o⟩
 rw [if_neg hk];exact⟨h1,o⟩
theorem o9{l:List Rec}{rev:Int}(hk:ax k=true):∀x∈aB l rev k,ax x=true:=fun x h=>by
 unfold aB at h
 split at h
 ·
  rw [ru,List.mem_cons] at h
  rcases h with rfl | h
  ·
   exact hk
  obtain⟨r,hr,rfl⟩:=List.mem_map.1 h
  have:=(List.mem_filter.1 hr).2
  unfold Bz at this
  simp only [Bool.and_eq_true] at this;have i:=(kg.1 this.2.1).gC
  unfold bU at i
  grind
 grind
theorem xD.put(h:xD s) {r:Rec}{bf:List Key}(j:eE r=true) (hr:r.av≤s.b.ad):xD {s with b:={s.b with ah:=ey s.b.ah r},bf:=bf}:=
 ⟨h.st.put,fun q i=>by rcases gA _ _ _ _ i with rfl | i;exact⟨j,hr⟩;exact h.v q i,h.r0,h.r1⟩
theorem Hd(hR:aq aa) {ae:List ByteArray}(h:gV aa k ae.length) (j:(aH aa k ae).done=true):(aH aa k ae).value.size≤6:=by
 obtain⟨i,hi,rfl,hn⟩:=h;have o:=hR.len;rw [eY hi (by omega)] at j ⊢
 rcases Nat.lt_or_ge ae.length (cN aa i) with p | q
 ·
  grind [eh]
 rw [gN hR hi (by omega)];have hc:=aq.hb hR _ (List.getElem_mem hi);exact rB (nV (by omega) fun x r=>by grind [kG])
theorem pa(hR:aq aa) (h:xD s) {ae:List ByteArray}{reads:List Key}(i:gV aa k ae.length) (q:(aH aa k ae).done=true) (hl:reads.length=ae.length) (hr:∀a∈reads,eG aa a) :
  eE (bJ s.b k (aH aa k ae).value reads)=true:=by
 have B:=i.le hR;have C:=Hd hR i q;have h0:=h.r0;have h1:=h.r1;rw [fw]
 unfold bJ
 have y:∀c:Int,(c=if (az s.b.ah k).isSome && decide ((aC s.b.ah k).value=(aH aa k ae).value) then (aC s.b.ah k).changed else s.b.ad)→0≤c∧c≤s.b.ad:=fun c hc=>by
  split at hc
  ·
   rename_i j
   simp only [Bool.and_eq_true] at j;obtain⟨r,z⟩:=Option.isSome_iff_exists.1 j.1;have hm:=(aK z).1;obtain⟨o,p⟩:=h.v r hm
   grind [fw,aC]
  omega
 obtain⟨o,p⟩:=y _ rfl;exact⟨fun a hm=>(hr a hm).valid,(i.Jf hR).valid,(i.not hR).2,by grind,by grind,o,p,h1,by grind,by grind,.inl rfl⟩
def UpO(aa:List aG) (val:Key→ByteArray) (aD:List cv) (f:Nat):Prop:=∀s k s',kU aa val f s k=some s'→Good aa aD s→xD s→eG aa k→xD s'
def ChO(aa:List aG) (val:Key→ByteArray) (aD:List cv) (f:Nat):Prop:=∀s k n s' b,cO aa val f s k n=some (s',b)→Good aa aD s→xD s→xD s'
def RuO(aa:List aG) (val:Key→ByteArray) (aD:List cv) (f:Nat):Prop:=∀s k reads ae s',gO aa val f s k reads ae=some s'→Good aa aD s→xD s→gV aa k ae.length→reads.length=ae.length→(∀a∈reads,eG aa a)→xD s'
theorem He(hR:aq aa):∀f,UpO aa val aD f∧ChO aa val aD f∧RuO aa val aD f:=by
 intro f
 induction f with
 | zero=>exact⟨fun s k s' h=>by simp [kU] at h,fun s k n s' b h=>by simp [cO] at h,fun s k r a s' h=>by simp [gO] at h⟩
 | succ f G=>
  obtain⟨D,z,B⟩:=G;have gd:=ct (val:=val) (aD:=aD) hR f;refine⟨?_,?_,?_⟩
  ·
   intro s k s' h j i hk
   unfold kU at h
   split at h
   ·
    cases h;exact i
   rename_i he
   split at h
   ·
    cases h;exact i
   split at h
   ·
    split at h <;> cases h
    ·
     exact i
    exact⟨i.st,i.v,i.r0,i.r1⟩
   obtain⟨p,F,h⟩:=Option.bind_eq_some_iff.1 h;obtain⟨t,ht,h⟩:=Option.bind_eq_some_iff.1 h
   cases h
   have h1:=z _ _ _ p.1 p.2 (by rw [F]) (j.on k) ⟨i.st,i.v,i.r0,i.r1⟩;have q:=(gd.2.1 _ _ _ p.1 p.2 (by rw [F]) (j.on k)).1
   have y:xD t:=by
    split at ht
    ·
     exact B _ _ _ _ _ ht q h1 (hk.gF (by simp at he;exact he.2)) rfl (fun a o=>by cases o)
    cases ht;exact h1
   exact⟨y.st,y.v,y.r0,y.r1⟩
  ·
   intro s k n s' b h j i
   unfold cO at h
   split at h
   ·
    cases h;exact i
   split at h
   ·
    cases h;exact i
   split at h
   ·
    cases h;exact i
   split at h
   ·
    cases h;exact i.BC _
   rename_i c hc
   split at h
   ·
    obtain⟨t,ht,h⟩:=Option.bind_eq_some_iff.1 h;have h1:=D _ _ _ ht j i (fP j hc);exact z _ _ _ _ _ h (gd.1 _ _ _ ht j (fP j hc)).1 h1
   split at h
   ·
    split at h
    ·
     rename_i H
     cases h
     exact i.BD (o9 H)
    cases h;exact i
   exact z _ _ _ _ _ h j i
  intro s k reads ae s' h j i o hl hr
  unfold gO at h
  split at h
  ·
   cases h;exact i
  split at h
  ·
   rename_i C
   split at h
   ·
    cases h;exact⟨i.st,i.v,i.r0,i.r1⟩
   cases h
   exact i.put (pa hR i o C hl hr) (Int.le_refl _)
  rename_i C
  obtain⟨t,ht,h⟩:=Option.bind_eq_some_iff.1 h;have hn:=o.next hR (by simpa using C);have h1:=D _ _ _ ht j i hn.2;have q:=(gd.1 _ _ _ ht j hn.2).1
  split at h
  ·
   exact B _ _ _ _ _ h q h1 (by simpa using hn.1) (by simp [hl]) (fun a o=>by grind)
  exact B _ _ _ _ _ h q h1 o hl hr
theorem BE(hR:aq aa) {f:Nat}:∀{l:List Key}{s s':ES},dK aa val f s l=some s'→Good aa aD s→xD s→(∀k∈l,eG aa k)→xD s'
 | [],s,s',h,_,i,_=>by grind [dK]
 | k::r,s,s',h,j,i,hk=>by
  simp only [dK] at h;obtain⟨t,h1,o⟩:=Option.bind_eq_some_iff.1 h
  exact BE hR o ((ct (val:=val) hR f).1 _ _ _ h1 j (hk k (by simp))).1 ((He hR f).1 _ _ _ h1 j i (hk k (by simp))) fun k p=>hk k (by simp [p])
end
end Go.Rc

namespace Go.Rc
open Go
theorem Ec{α:Type}{R:α→α→Prop}(ht:∀a b c,R a b→R b c→R a c) {l:List α}(h:∀(i:Nat) (hi:i+1<l.length),R (l[i]'(by omega)) l[i+1]):l.Pairwise R:=by
 refine List.pairwise_iff_getElem.2 fun i j hi o p=>?_;obtain⟨d,rfl⟩:∃d,j=i+1+d:=⟨j - (i+1),by omega⟩
 induction d with
 | zero=>exact h i o
 | succ d q=>grind
def tt(l:List cv):Prop:=l.Pairwise fun a b=>bA a.key b.key<0
def Me(rev:Int) (x:cv):Prop:=fN x.key=true∧ay x.key=true∧(x.value.size:Int)≤1073741824∧0≤x.changed∧x.changed≤rev
theorem Ed{rev:Int}{l:List cv}:yI rev l↔tt l∧∀x∈l,Me rev x:=by
 constructor
 ·
  intro h
  have h1:∀(i:Nat) (hi:i<l.length),Me rev l[i]∧(0<i→bA (l[i - 1]!).key l[i].key<0):=fun i hi=>by
   have j:=h i _ (ak hi)
   unfold ia at j
   simp only [getElem!_pos l i hi,Bool.or_eq_false_iff,Bool.not_eq_false',Bool.and_eq_false_iff,decide_eq_false_iff_not] at j;obtain⟨a,b,c,d,e,f⟩:=j;exact⟨⟨a,b,by omega,by omega,by omega⟩,fun h0=>by rcases c with c | c <;> omega⟩
  refine⟨Ec (R:=fun a b:cv=>bA a.key b.key<0) (fun a b c h k=>ie h k) fun i hi=>?_,fun x p=>?_⟩
  ·
   grind
  grind [List.mem_iff_getElem]
 rintro⟨h1,j⟩ i y o;obtain⟨hi,rfl⟩:=List.getElem?_eq_some_iff.1 o;obtain⟨a,b,c,d,e⟩:=j _ (List.getElem_mem hi)
 unfold ia
 simp only [getElem!_pos l i hi,Bool.or_eq_false_iff,Bool.not_eq_false',Bool.and_eq_false_iff,decide_eq_false_iff_not];refine⟨a,b,?_,by omega,by omega,by omega⟩
 by_cases h0:0<i
 ·
  right
  rw [getElem!_pos l (i - 1) (by omega)]
  have:=List.pairwise_iff_getElem.1 h1 (i - 1) i (by omega) hi (by omega)
  omega
 left
 omega
def fQ(n:cv):List cv→Bool→List cv
 | [],put=>if put then [] else [n]
 | x::xs,put=>(if decide (0≤bA x.key n.key) && !put then [n] else [])++(if bA x.key n.key=0 then [] else [x])++fQ n xs (put || decide (0≤bA x.key n.key))
theorem uD(n:cv):∀(l:List cv) (b:Bool) (x:cv),x∈fQ n l b→x=n∨x∈l:=by
 intro l
 induction l with
 | nil=>grind [fQ]
 | cons y h i=>grind [fQ]
theorem rC(n:cv):∀l:List cv,fQ n l true=l.filter fun x=>!decide (bA x.key n.key=0)
 | []=>rfl
 | x::xs=>by
  simp only [fQ,Bool.not_true,Bool.and_false,Bool.false_eq_true,if_false,Bool.true_or,List.nil_append,rC n xs,List.filter_cons]
  grind
theorem nk(n:cv):∀(l:List cv) (b:Bool),(fQ n l b).length≤l.length+1
 | [],b=>by cases b <;> simp [fQ]
 | x::xs,b=>by
  by_cases h:(decide (0≤bA x.key n.key) && !b)=true
  ·
   have hb:(b || decide (0≤bA x.key n.key))=true:=by simp at h;simp [h.1]
   simp only [fQ,List.length_append,List.length_cons];rw [if_pos h,hb,rC]
   grind
  have i:=nk n xs (b || decide (0≤bA x.key n.key));simp only [fQ,List.length_append,List.length_cons]
  grind
theorem tt.put{n:cv}:∀{l:List cv},tt l→tt (fQ n l false)
 | [],_=>by simp [tt,fQ]
 | x::xs,h=>by
  obtain⟨h1,j⟩:=List.pairwise_cons.1 h;have p:tt (fQ n xs false):=tt.put j;have o:tt (xs.filter fun y=>!decide (bA y.key n.key=0)):=List.Pairwise.filter _ j
  show tt (fQ n (x::xs) false)
  simp only [fQ,Bool.not_false,Bool.and_true,Bool.false_or]
  by_cases c1:bA x.key n.key<0
  ·
   rw [decide_eq_false (show ¬0≤bA x.key n.key by omega),if_neg (show ¬bA x.key n.key=0 by omega)];simp only [Bool.false_eq_true,if_false,List.nil_append,List.singleton_append];refine List.pairwise_cons.2 ⟨fun y i=>?_,p⟩
   grind [uD]
  rw [decide_eq_true (show 0≤bA x.key n.key by omega),rC];simp only [if_true]
  by_cases c2:bA x.key n.key=0
  ·
   rw [if_pos c2];simp only [List.append_nil,List.singleton_append];refine List.pairwise_cons.2 ⟨fun y i=>?_,o⟩
   grind [lW]
  rw [if_neg c2];simp only [List.singleton_append,List.cons_append]
  have c3:bA n.key x.key<0:=by rw [je x.key n.key];omega
  refine List.pairwise_cons.2 ⟨fun y i=>?_,List.pairwise_cons.2 ⟨fun y i=>h1 y (List.mem_filter.1 i).1,o⟩⟩
  grind [ie]
end Go.Rc

namespace Go.Rc
open Go
def Mf(r:aG):Prop:=r.ring=false∧r.asks=[]∧r.final=1∧0≤r.c∧r.c≤99
theorem Mf.key{aa:List aG}{i:Nat}(hi:i<aa.length) (jl:i≤99) (h:Mf aa[i]):aM aa (i:Int)=⟨31,itoa i⟩:=by
 unfold aM
 rw [if_neg (by omega)]
 simp [bW hi,h.1]
end Go.Rc
namespace Go.Rc
open Go
def QH(i:Nat) (v:ByteArray):Rec:=⟨⟨31,itoa i⟩,v,[],0,0,1,false⟩
def uE{α:Type}(l:List α) (p:α→Bool) (j:Int):Prop:=(∃i:Nat,∃x,l[i]?=some x∧p x=true∧(∀j x,j<i→l[j]?=some x→p x=false)∧j=i)∨((∀x∈l,p x=false)∧j = -1)
end Go.Rc
namespace Go.Rc
open Go
structure WD where
 (ar a1 a2:Option Addr) (r cr n1 c1 n2 c2 m v:Nat)
end Go.Rc

namespace Go.Rc
open Go
def wu(a b:Int):Int:=if a<b then -1 else if b<a then 1 else 0
def QI(l:List Int):Int:=(l.find? fun x=>decide (x≠0)).getD 0
theorem QJ{l:List Int}{i:Nat}(hi:i<l.length) (o:∀j x,j<i→l[j]?=some x→x=0) (h:l[i]≠0):QI l=l[i]:=by grind [QI,js]
theorem Mg{l:List Int}(h:∀x∈l,x=0):QI l=0:=by grind [QI,List.find?_eq_none]
theorem Mh{a b:Key}:QI [wu a.kind b.kind,Lib.compareBytes a.text.data.toList b.text.data.toList]=bA a b:=by
 unfold QI wu bA
 grind
theorem BF{α:Type}{R:α→List Value→Prop}{x y:α}{r s:List Value}(h1:R x r) (h:R y s):∀(i:Nat) (z:α) (t:List Value),[x,y][i]?=some z→[r,s][i]?=some t→R z t:=fun i z t j ht=>by grind
theorem eG.shape{aa:List aG}{k:Key}(h:eG aa k):∃i:Nat,i≤99∧k.text=itoa i∧(30≤k.kind∧k.kind≤32):=by
 cases h with
 | cell h=>rename_i n;exact⟨n,h,by unfold cD;rw [if_neg (by omega)],by unfold cD;rw [if_neg (by omega)];simp⟩
 | eT h jl=>rename_i i;exact⟨i,jl,by unfold aM;rw [if_neg (by omega)],by grind [eF]⟩
theorem eG.cX{aa:List aG}{k:Key}(h:eG aa k):cX k:=by
 obtain⟨_,_,_,h1⟩:=h.shape;exact .inr (by omega)
theorem qb{aa:List aG}{k:Key}(h:eG aa k) (hc:ax k=true):k.kind=32:=by
 cases h with
 | cell h=>grind [kb]
 | eT h jl=>grind [bE,eF]
theorem uE.any{α:Type}{l:List α}{p:α→Bool}{j:Int}(h:uE l p j):decide (0≤j)=l.any p:=by
 rcases h with⟨i,x,h1,o,_,rfl⟩ | ⟨h1,rfl⟩
 ·
  grind
 grind
def Jp(aa:List aG) (x:Rec):Prop:=eG aa x.key∧ay x.key=false∧(∀a∈x.reads,eG aa a)∧eE x=true
def uF(aa:List aG) (x:cy):Prop:=0≤x.ad∧x.ad≤1073741824∧(tt x.ab∧∀y∈x.ab,Me x.ad y)∧(∀y∈x.ab,∃i:Nat,i≤99∧y.key=⟨30,itoa i⟩)∧x.ab.length≤64∧(∀r∈x.ah,Jp aa r)∧pG x.ah∧x.ah.length≤4000∧∀r∈x.ah,r.av≤x.ad
end Go.Rc

namespace Go.Rc
open Go
section
variable {l l':List aG}
def ck(l l':List aG):Prop:=l.map (·.ring)=l'.map (·.ring)
theorem ck.len(h:ck l l'):l.length=l'.length:=by simpa using congrArg List.length h
theorem ck.rg(h:ck l l') (i:Nat):aF l i=aF l' i:=by
 have j:=congrArg (fun x=>x[i]?) h
 grind [aF]
theorem ck.lo(h:ck l l'):∀k,bD l k=bD l' k
 | 0=>rfl
 | k+1=>by unfold bD;rw [h.rg k,h.lo k]
theorem mq:∀{l l':List aG},ck l l'→(l.takeWhile (·.ring)).length=(l'.takeWhile (·.ring)).length
 | [],[],_=>rfl
 | [],_::_,h=>by simp [ck] at h
 | _::_,[],h=>by simp [ck] at h
 | x::r,y::s,h=>by
  simp only [ck,List.map_cons,List.cons.injEq] at h;have i:=mq (l:=r) (l':=s) h.2
  grind [List.takeWhile_cons]
theorem ck.hi(h:ck l l') (m:Nat):dJ l m=dJ l' m:=by grind [dJ,mq,ck,List.map_drop]
theorem ck.block(h:ck l l') (n:Int):block l n=block l' n:=by
 unfold Go.Rc.block
 rw [h.len,h.rg,h.lo,h.hi]
theorem ck.may(h:ck l l') (i:Nat) (c:Bool) (n:Int):gw l i c n=gw l' i c n:=by grind [gw,fE,rg,block]
theorem ck.ask(h:ck l l') (i:Nat) (g:Bool) (k:Nat) (x:Ask):fq l i g k x=fq l' i g k x:=by
 unfold fq
 rw [h.may,h.may]
theorem ck.eT(h:ck l l') (i:Nat) (r:aG):lP l i r↔lP l' i r:=by
 unfold lP
 simp only [h.ask]
theorem ck.set{i:Nat}(hi:i<l.length) {r:aG}(hr:r.ring=aF l i):ck (l.set i r) l:=by
 unfold ck
 rw [List.map_set,hr,bW hi];refine List.ext_getElem? fun j=>?_
 grind
def kV(l:List aG) (i:Nat):Prop:=l.length≤8∧∀(j:Nat) (r:aG),l[j]?=some r→j<i→lP l j r
theorem kV.start(h:l.length≤8):kV l 0:=⟨h,fun _ _ _ h=>by omega⟩
theorem kV.set{i:Nat}(h:kV l i) (hi:i<l.length) {r:aG}(hr:r.ring=aF l i) (q:lP l i r):kV (l.set i r) (i+1):=by
 have p:=ck.set hi hr;refine⟨by rw [List.length_set];exact h.1,fun j x o v=>?_⟩;rw [p.eT];rw [List.getElem?_set] at o
 split at o
 ·
  grind
 exact h.2 j x o (by omega)
theorem kV.ok(h:kV l l.length):aq l:=⟨by have:=h.1;omega,fun i r hr=>h.2 i r hr (List.getElem?_eq_some_iff.1 hr).1⟩
theorem QK{i k:Nat}{g:Bool}{x:Ask}{most:Int}(hm:most=if x.cell then 4 else fE l i) (h0:0≤x.n) (h1:x.n<most) (h:x.pick=true→g=false∧k≠0∧0≤x.DK∧x.DK<most) (he:x.pick=false→x.DK=0):fq l i g k x=true:=by grind [gw,fq]
end
end Go.Rc

namespace Go.Rc
open Go
def As.gY(E d:Nat):As where
 fp x:=x=d
 ok Z w:=DT Z w E d
 lt h x hx:=by subst hx;exact h.lt
 mono hZ h:=by
  obtain⟨l,a,n,c,t,h1,h2,h3⟩:=h;exact⟨l,a,n,c,t,h1,SR.mono h2 (fun b hb _=>hZ b hb) (fun _ _ h=>h),h3⟩
 st hs hc h:=by
  obtain⟨l,a,n,c,t,h1,h2,h3⟩:=h;exact⟨l,a,n,c,t,(As.blk d E _).st (Z:=fun _=>False) hs (fun x hx=>hc x (hx.imp id False.elim)) h1,SR.st hs (fun x hx=>hc x (.inr hx)) (fun _ _ h=>h) h2,h3⟩
theorem As.gd{E d:Nat}{Z:Nat→Prop}{w:World}(h:(As.gY E d).ok Z w):DT Z w E d:=h
def RR.bV:RR Change:=RR.flat Change.cells
def begun(g:Bool):aG:=⟨g,[],0,0⟩
theorem Ow.flat{α:Type}{f:α→List Value}{b T k n:Nat}{Z:Nat→Prop}{w:World}{xs:List α}{l:List Value}(h:bQ w b T l) (hl:l=(xs.map f).flatten) (hk:∀x∈xs,(f x).length=k) (h1:∀u∈l,u.oneCell'=true) (hn:n=xs.length) (hm:xs.length≤140737488355328) :
  Ow (RR.flat f) T k Z w (some ⟨b,0,none⟩) n n xs:=by
 subst hn hl
 have hlen:∀(j:List α),(∀x∈j,(f x).length=k)→(j.map f).flatten.length=j.length*k:=by
  intro j
  induction j with
  | nil=>simp
  | cons y j p=>grind
 refine⟨rfl,xs.map f,by simp,by simpa using hk,by simpa using OL.blk (k:=k) h (Nat.zero_le _) (m:=xs.length) (hlen xs hk) h1 hm,fun i x r o hr=>?_⟩;rw [List.getElem?_map,o] at hr
 simp at hr
 exact hr.symm
def As.acm{ι:Type}(b T:Nat) (F:ι→List Value):As where
 fp x:=x=b
 ok _ w:=∃i,bQ w b T (F i)
 lt h x hx:=by obtain⟨i,h⟩:=h;subst hx;exact h.lt
 mono _ h:=h
 st hs hc h:=by obtain⟨i,h⟩:=h;exact⟨i,(As.blk b T _).st (Z:=fun _=>False) hs (fun x hx=>hc x (hx.imp id False.elim)) h⟩
theorem Ow.ring{E n c i b:Nat}{Z:Nat→Prop}{w:World}{a:Option Addr}{l:List aG}(h:Ow RR.eT E 4 Z w a n c l) (p:a=some ⟨b,0,none⟩) (hle:l.length≤140737488355328) (hi:i<l.length):w.rangeAt b (0+i*4) [.bool l[i].ring]:=by
 obtain⟨b',r,h1,_,q,y⟩:=Ow.at h hle (ak hi);rw [p] at h1;simp only [Option.some.injEq,Addr.mk.injEq,and_true] at h1;subst h1;obtain⟨z,B,C,rfl,_⟩:=q;intro j v o
 cases j with
 | zero=>exact y 0 v o
 | succ j=>simp at o
theorem yO(l:List aG) (m:Nat) (hm:m≤l.length):dJ l m≤l.length:=by grind [dJ,List.takeWhile_sublist]
theorem wv{l:List aG}{i:Nat}(hi:i<l.length):0≤fE l i∧fE l i≤l.length:=by
 have h1:=yO l (i+1) (by omega)
 have hb:block l (i:Int)=if aF l i then ((bD l i:Int),(dJ l (i+1):Int)) else ((i:Int),(i:Int)+1):=by
  unfold block;grind
 grind [fE]
theorem Hf{l:List aG}{i:Nat}{g:Bool}{xs:List Ask}{x:Ask}(h:∀(k:Nat) y,xs[k]?=some y→fq l i g k y=true) (j:fq l i g xs.length x=true):∀(k:Nat) y,(xs++[x])[k]?=some y→fq l i g k y=true:=fun k y o=>by grind
end Go.Rc

namespace Go.Rc
open Go
theorem pG.ne{l:List Rec}(h:pG l) {i:Nat}(hi:i<l.length):∀y∈l.take i,y.key≠l[i].key:=fun y o e=>by
 obtain⟨j,p,rfl⟩:=List.mem_iff_getElem.1 o
 have q:j<i:=by simp at p;omega
 have h1:bA l[j].key l[i].key<0:=List.pairwise_iff_getElem.1 h j i (by omega) hi q
 grind [je]
end Go.Rc

namespace Go.Rc
open Go
section
variable {κ:Type}{enc:κ→Value}
def Ll(enc:κ→Value) (w:World) (b m:Nat) (l left:List (κ × Value)) (cur:Option (κ × Value)):Prop:=
 ∃es clock since seen,w.heap[m]?=some (.map es clock)∧(es.toList.map (fun e=>(e.key,e.val))=l.map (fun p=>(enc p.1,p.2))∧(l.map (·.1)).Nodup∧(∀e∈es.toList,e.born<clock)∧(es.toList.map (·.born)).Nodup)∧
  w.heap[b]?=some (.mapIter (some m) since seen clock)∧b≠m∧since≤clock∧(∀e∈es.toList,e.born<since)∧
  (leftOf es seen).toList.map (fun e=>(e.key,e.val))=left.map (fun p=>(enc p.1,p.2))∧
  ∀p,cur=some p→∃e∈es.toList,seen.back?=some e.born∧e.key=enc p.1∧e.val=p.2
variable {w w':World}{b m:Nat}{l left:List (κ × Value)}{cur:Option (κ × Value)}
theorem Ll.lt(h:Ll enc w b m l left cur):b<w.heap.size∧m<w.heap.size:=by
 obtain⟨es,clock,since,seen,h1,_,i,_⟩:=h;exact⟨(Array.getElem?_eq_some_iff.1 i).1,(Array.getElem?_eq_some_iff.1 h1).1⟩
def As.QL(enc:κ→Value) (b m:Nat) (l left:List (κ × Value)) (cur:Option (κ × Value)):As where
 fp x:=x=b∨x=m
 ok _ w:=Ll enc w b m l left cur
 lt h x hx:=by rcases hx with rfl | rfl;exact h.lt.1;exact h.lt.2
 mono _ h:=h
 st hs hc h:=by
  have hl:=h.lt;obtain⟨es,clock,since,seen,h1,h2,h3,h4⟩:=h;exact⟨es,clock,since,seen,by rw [hc m (.inl (.inr rfl)) hl.2];exact h1,h2,by rw [hc b (.inl (.inl rfl)) hl.1];exact h3,h4⟩
theorem As.Mi{Z:Nat→Prop}(h:(As.QL enc b m l left cur).ok Z w):Ll enc w b m l left cur:=h
def xE(enc:κ→Value):Option (κ × Value)→Array Value
 | none=>#[.bool false]
 | some p=>#[.bool true,enc p.1,p.2]
theorem Ge(r:Option (κ × Value)):(xE enc r)[0]?=some (.bool r.isSome):=by cases r <;> rfl
theorem mr:∀(L:List MapEntry) (j:Nat) (e:MapEntry),(L.map (·.born)).Nodup→L[j]?=some e→L.filter (fun x=>!(x.born == e.born))=L.eraseIdx j
 | [],_,_,_,h=>by simp at h
 | x::r,0,e,hn,h=>by
  simp at h
  subst h;simp only [List.map_cons,List.nodup_cons] at hn;rw [List.filter_cons];simp only [beq_self_eq_true,Bool.not_true,Bool.false_eq_true,if_false,List.eraseIdx_zero,List.tail_cons];refine List.filter_eq_self.2 fun y i=>?_
  have:y.born≠x.born:=fun e=>hn.1 (e ▸ List.mem_map.2 ⟨y,i,rfl⟩)
  simpa using this
 | x::r,j+1,e,hn,h=>by
  simp only [List.map_cons,List.nodup_cons] at hn;simp only [List.getElem?_cons_succ] at h;have o:x.born≠e.born:=fun p=>hn.1 (p ▸ List.mem_map.2 ⟨e,List.mem_of_getElem? h,rfl⟩);rw [List.filter_cons,if_pos (by simpa using o),mr r j e hn.2 h,List.eraseIdx_cons_succ]
theorem BG(es:Array MapEntry) (seen:Array Nat) (b:Nat):(leftOf es (seen.push b)).toList=(leftOf es seen).toList.filter fun x=>!(x.born == b):=by
 unfold leftOf
 rw [Array.toList_filter,Array.toList_filter,List.filter_filter]
 congr 1
 funext x
 rw [Array.contains_push,Bool.not_or,Bool.and_comm]
theorem map_eraseIdx{α β:Type}(f:α→β):∀(l:List α) (j:Nat),(l.eraseIdx j).map f=(l.map f).eraseIdx j
 | [],_=>by simp
 | _::_,0=>by simp
 | x::r,j+1=>by simp [map_eraseIdx f r j]
variable {P:Program}{kv:KV}{n:Nat}{K:KV→World→Prop}{d:Tmp}{ty:TypeId}{pos:String}{af:Array Edge}{g:Option (Nat × Bool)}{T kt e:TypeId}{x:Operand}
theorem OX.range(hT:P.underlying T=some (.map kt e)) (hm:KM enc w m l) (j:ev kv x=some (.map (some m))) (o:Nat.blt d n=true)
  (h:∀b w',aS [] w w'→w.heap.size≤b→Ll enc w' b m l l none→K ((d,.pointer (some ⟨b,0,none⟩))::kv) w'):OX P ⟨some d,.range T x,ty,pos,af,g⟩ n kv w K:=by
 obtain⟨es,clock,h1,i⟩:=hm;have q:m<w.heap.size:=(Array.getElem?_eq_some_iff.1 h1).1;refine⟨rfl,o,by simp [known,opers,j],?_⟩
 have hr:(execOp (jE kv) ⟨some d,.range T x,ty,pos,af,g⟩).run P w=.ok (.value (.pointer (some ⟨w.heap.size,0,none⟩))) (w.alloc (.mapIter (some m) clock #[] clock)):=by
  simp only [execOp,aJ j,Sem.run_bind,run_range_map w T kt e m es clock hT h1,Result.andThen_ok];rfl
 rw [hr];refine h _ _ (j3 _ _) (Nat.le_refl _) ⟨es,clock,clock,#[],by rw [heap_alloc_old w _ (h:=q)];exact h1,i,heap_alloc_new _ _,by omega,Nat.le_refl _,i.2.2.1,?_,fun p r=>by cases r⟩
 have:leftOf es #[]=es:=by unfold leftOf;simp
 rw [this];exact i.1
theorem Hg(hm:Ll enc w b m l left cur):∃(r:Option (κ × Value)) (C:List (κ × Value)) (w':World),(Instr.next (.pointer (some ⟨b,0,none⟩)) false ty).run P w=.ok (.tuple (xE enc r)) w'∧aS [b] w w'∧
  (match r with | none=>left=[]∧C=[] | some p=>∃j,left[j]?=some p∧C=left.eraseIdx j)∧Ll enc w' b m l C r:=by
 obtain⟨es,clock,since,seen,h1,D,i,F,G,o,z,h8⟩:=hm;have U:b<w.heap.size:=(Array.getElem?_eq_some_iff.1 i).1
 have H:∀y∈(leftOf es seen).toList,y∈es.toList:=fun y h=>by
  unfold leftOf at h
  rw [Array.toList_filter] at h;exact(List.mem_filter.1 h).1
 have O:=next_test_false seen es since clock o G
 have e1:(leftOf es seen).filter (fun x=>decide (x.born<since))=leftOf es seen:=Array.filter_eq_self.2 fun y h=>by
  have:=o y (H y (by simpa using h))
  simpa using this
 have e2:(leftOf es seen).filter (fun x=>decide (x.born≥since))=#[]:=by
  rw [Array.filter_eq_empty_iff];intro y h
  have:=o y (H y (by simpa using h))
  simp
  omega
 have hlen:(leftOf es seen).size=left.length:=by simpa using congrArg List.length z
 by_cases h0:(leftOf es seen).size=0
 ·
  have V:leftOf es seen=#[]:=Array.eq_empty_of_size_eq_zero h0
  have W:left=[]:=by cases left with
   | nil=>rfl
   | cons a r=>rw [h0] at hlen;simp at hlen
  subst W;refine⟨none,[],w,?_,aS.refl _ _,⟨rfl,rfl⟩,es,clock,since,seen,h1,D,i,F,G,o,z,fun p B=>by cases B⟩;simp only [Instr.next,getObj,Sem.run_bind,Sem.run,i,h1,Result.andThen,O,Bool.false_eq_true,if_false];rw [show(es.filter fun e=>!seen.contains e.born)=leftOf es seen from rfl,V]
  simp [choose,Sem.run,Question.forced,xE]
 have X:(leftOf es seen).isEmpty=false:=by simp [Array.isEmpty,h0]
 have Y:∃(j:Nat) (w1:World),j<(leftOf es seen).size∧w1.heap=w.heap∧aS [] w w1∧(choose (Question.mapNext (leftOf es seen).size)).run P w=.ok j w1:=by
  by_cases Q:(leftOf es seen).size≤1
  ·
   exact⟨0,w,by omega,rfl,aS.refl _ _,by simp [choose,Sem.run,Question.forced,Q]⟩
  exact⟨_,w.drew,Nat.mod_lt _ (by omega),rfl,⟨rfl,rfl,rfl,Nat.le_refl _,Nat.le_succ _,fun _ _ _=>rfl⟩,by
   simp only [choose,Sem.run,Question.forced,decide_eq_true_eq,Q,if_false,Question.cut]
   rfl⟩
 obtain⟨j,w1,hj,I,hc1,jq⟩:=Y;obtain⟨y,h⟩:∃y,(leftOf es seen)[j]?=some y:=⟨_,Array.getElem?_eq_getElem hj⟩
 have J:(leftOf es seen).toList[j]?=some y:=by rw [Array.getElem?_toList];exact h
 have hye:y∈es.toList:=H y (List.mem_of_getElem? J);obtain⟨p,B⟩:∃p,left[j]?=some p:=⟨_,List.getElem?_eq_getElem (by omega)⟩
 have v:(y.key,y.val)=(enc p.1,p.2):=by
  have:=congrArg (fun x=>x[j]?) z
  simp only [List.getElem?_map,J,B,Option.map_some,Option.some.injEq] at this;exact this
 simp only [Prod.mk.injEq] at v
 have hbn:((leftOf es seen).toList.map (·.born)).Nodup:=by
  unfold leftOf
  rw [Array.toList_filter];exact(List.filter_sublist.map _).nodup D.2.2.2
 refine⟨some p,left.eraseIdx j,{w1 with heap:=w1.heap.setIfInBounds b (.mapIter (some m) since (seen.push y.born) clock)},?_,?_,⟨j,B,rfl⟩,es,clock,since,seen.push y.born,?_,D,?_,F,G,o,?_,?_⟩
 ·
  simp only [Instr.next,getObj,Sem.run_bind,Sem.run,i,h1,Result.andThen,O,Bool.false_eq_true,if_false];rw [show(es.filter fun e=>!seen.contains e.born)=leftOf es seen from rfl,e1,e2];simp only [X,Bool.false_eq_true,if_false,Array.empty_append,Array.append_empty,Array.size_map,jq,Array.getElem?_map,h,Option.map_some]
  have Jq:(setObj b (.mapIter (some m) since (seen.push y.born) clock)).run P w1=.ok () {w1 with heap:=w1.heap.setIfInBounds b (.mapIter (some m) since (seen.push y.born) clock)}:=by
   simp only [setObj,Sem.run];rw [I,i]
  simp only [Sem.run_bind,Jq,Result.andThen,xE,v.1,v.2]
  try rfl
 ·
  have:=iJ w1 b (.mapIter (some m) since (seen.push y.born) clock)
  exact aS.trans (aS.mono hc1 (by simp)) this
 ·
  show(w1.heap.setIfInBounds b _)[m]?=_
  rw [I,Array.getElem?_setIfInBounds_ne F];exact h1
 ·
  show(w1.heap.setIfInBounds b _)[b]?=_
  rw [I,Array.getElem?_setIfInBounds_self]
  simp [U]
 ·
  rw [BG,mr _ j y hbn J,map_eraseIdx,map_eraseIdx,z]
 intro q S;simp only [Option.some.injEq] at S;subst S;exact⟨y,hye,Array.back?_push,v.1,v.2⟩
theorem OX.next(hm:Ll enc w b m l left cur) (o:ev kv x=some (.pointer (some ⟨b,0,none⟩))) (q:Nat.blt d n=true)
  (h:∀r i w',aS [b] w w'→(match r with | none=>left=[]∧i=[] | some p=>∃j,left[j]?=some p∧i=left.eraseIdx j)→Ll enc w' b m l i r→K ((d,.tuple (xE enc r))::kv) w'):OX P ⟨some d,.next x false,ty,pos,af,g⟩ n kv w K:=by
 obtain⟨r,i,w',h1,v,y,z⟩:=Hg (P:=P) (ty:=ty) hm;refine⟨rfl,q,by simp [known,opers,o],?_⟩
 have hr:(execOp (jE kv) ⟨some d,.next x false,ty,pos,af,g⟩).run P w=.ok (.value (.tuple (xE enc r))) w':=by
  simp only [execOp,aJ o,Sem.run_bind,h1,Result.andThen_ok];rfl
 rw [hr];exact h _ _ _ v y z
theorem PV.entry{p:κ × Value}(hm:Ll enc w b m l left (some p)) (h:ev kv x=some (.pointer (some ⟨b,0,none⟩))):PV P (.entry x) ty kv w (.tuple #[enc p.1,p.2]):=by
 obtain⟨es,clock,since,seen,h1,i,j,_,_,_,_,o⟩:=hm;obtain⟨y,q,hb,hk,r⟩:=o p rfl;refine⟨rfl,by simp [known,opers,h],fun _ _ _ _=>?_⟩
 have v:es.find? (·.born == y.born)=some y:=by rw [← Array.find?_toList];exact find_born y es.toList i.2.2.2 q
 have:(Instr.entry (.pointer (some ⟨b,0,none⟩))).run P w=.ok (.tuple #[enc p.1,p.2]) w:=by
  simp only [Instr.entry,getObj,Sem.run_bind,Sem.run,j,h1,hb,Result.andThen,bne_self_eq_false,Bool.false_eq_true,if_false,v,hk,r]
  rfl
 simp only [execOp,aJ h,Sem.run_bind,this,Result.andThen_ok]
 rfl
end
end Go.Rc

namespace Go.Rc
open Go
theorem mu{α:Type}:∀{l:List α}{j:Nat}{p q:α},l[j]?=some p→q∈l→q=p∨q∈l.eraseIdx j
 | [],_,_,_,_,h=>by cases h
 | x::r,0,p,q,h,i=>by grind
 | x::r,j+1,p,q,h,i=>by
  rcases List.mem_cons.1 i with rfl | i
  ·
   exact .inr (by simp)
  rcases mu (l:=r) (by simpa using h) i with h1 | h1
  ·
   exact .inl h1
  exact .inr (by simp [h1])
section
variable {aa:List aG}{aD:List cv}
theorem mC.br(hR:aq aa) {i0:Nat}{L:List Nat}{u:Nat→Nat}{am:List (Key × Value)}(h:mC aa L u am) (hn:(am.map (·.1)).Nodup) (hr:dw aa aD i0 L u) (r:∀j∈L,u j=rv aa aD j) :
  ∀p∈am,p.2=.string (valOf aa aD p.1):=fun p q=>by
 have o:bC am p.1=some p.2:=(ub hn).2 q
 by_cases hk:∃j∈L,p.1=aM aa (j:Int)
 ·
  obtain⟨j,i,e⟩:=hk;obtain⟨v,y⟩:=hr.ring j i;rw [e,h.1 j i] at o
  grind [gS,iq]
 rw [h.2 p.1 fun j i e=>hk ⟨j,i,e⟩] at o
 cases o
theorem mC.first{i0:Nat}{L:List Nat}{u:Nat→Nat}{am:List (Key × Value)}(h:mC aa L u am) (hn:(am.map (·.1)).Nodup) (hr:dw aa aD i0 L u):∃p∈am,p.1=aM aa (i0:Int):=
 ⟨(_,_),(ub hn).1 (h.1 i0 hr.first),rfl⟩
theorem Jr{am left ml:List (Key × Value)}{j:Nat}{p:Key × Value}(i:∀q∈am,q∈left∨bC ml q.1=some q.2) (he:∀q∈am,q.2=.string (valOf aa aD q.1)) (o:left[j]?=some p) :
  ∀q∈am,q∈left.eraseIdx j∨bC (cJ ml p.1 (.string (valOf aa aD p.1))) q.1=some q.2:=fun q r=>by
 rw [ee]
 by_cases e:p.1=q.1
 ·
  grind
 rw [if_neg e]
 rcases i q r with h | h
 ·
  rcases mu o h with h1 | h1
  ·
   subst h1;exact absurd rfl e
  exact .inl h1
 exact .inr h
end
end Go.Rc

namespace Go.Rc
open Go
def jx(rev:Int) (l:List cv):Prop:=tt l∧(∀y∈l,Me rev y)∧∀y∈l,(∃i:Nat,i≤9∧y.key=⟨30,itoa i⟩)∧y.value.size≤1000
theorem jx.nil(rev:Int):jx rev []:=⟨.nil,by simp,by simp⟩
theorem jx.mono{r s:Int}{l:List cv}(h:jx r l) (j:r≤s):jx s l:=⟨h.1,fun y i=>by obtain⟨a,b,c,d,e⟩:=h.2.1 y i;exact⟨a,b,c,d,by omega⟩,h.2.2⟩
theorem Change.small.key{c:Change}(h:c.small):∃i:Nat,i≤9∧c.key=⟨30,itoa i⟩:=by
 obtain⟨⟨n,h0,j,hk⟩,_⟩:=h;refine⟨n.toNat,by omega,?_⟩;rw [hk]
 unfold cD
 grind
theorem Change.small.ok{c:Change}(h:c.small):fN c.key=true∧ay c.key=true:=by
 obtain⟨⟨n,h0,i,hk⟩,_⟩:=h;obtain⟨m,rfl⟩:∃m:Nat,n=(m:Int):=⟨n.toNat,by omega⟩;rw [hk];exact⟨eG.valid (aa:=[]) (.cell (by omega)),bB (by omega)⟩
theorem jx.put{rev:Int}{l:List cv}{c:Change}(h:jx rev l) (hc:c.small) (h0:0≤rev):jx rev (fQ ⟨c.key,c.value,rev⟩ l false):=by
 refine⟨tt.put h.1,fun y j=>?_,fun y j=>?_⟩
 ·
  rcases uD _ _ _ _ j with rfl | j
  ·
   have:=hc.2
   exact⟨hc.ok.1,hc.ok.2,by grind,h0,Int.le_refl _⟩
  exact h.2.1 y j
 rcases uD _ _ _ _ j with rfl | j
 ·
  obtain⟨i,hi,hk⟩:=hc.key;exact⟨⟨i,by omega,hk⟩,Nat.le_trans hc.2 (by decide)⟩
 exact h.2.2 y j
theorem xF{α:Type} [BEq α] [LawfulBEq α]:∀{l U:List α},l.Nodup→(∀x∈l,x∈U)→l.length≤U.length
 | [],_,_,_=>Nat.zero_le _
 | x::r,U,hn,h=>by
  have i:=h x (by simp);rw [List.nodup_cons] at hn
  have h1:r.length≤(U.erase x).length:=xF hn.2 fun y j=>by grind
  grind
theorem jx.len{rev:Int}{l:List cv}(h:jx rev l):l.length≤10:=by
 have hn:(l.map fun y=>y.key).Nodup:=by
  unfold List.Nodup
  rw [List.pairwise_map]
  exact h.1.imp fun {a b} h e=>by grind [je]
 have:=xF (U:=(List.range 10).map fun i:Nat=>(⟨30,itoa i⟩:Key)) hn fun k hk=>by
  obtain⟨y,j,rfl⟩:=List.mem_map.1 hk;obtain⟨i,hi,he⟩:=(h.2.2 y j).1
  grind
 simpa using this
theorem jx.k99{rev:Int}{l:List cv}(h:jx rev l):∀y∈l,∃i:Nat,i≤99∧y.key=⟨30,itoa i⟩:=fun y j=>by
 obtain⟨i,hi,he⟩:=(h.2.2 y j).1;exact⟨i,by omega,he⟩
theorem BH{n:cv}{k:Key}(h:n.key≠k):∀(l:List cv) (b:Bool),(fQ n l b).find? (fun x=>x.key == k)=l.find? fun x=>x.key == k
 | [],b=>by grind [fQ]
 | x::xs,b=>by
  have hn:(n.key == k)=false:=by simpa using h
  unfold fQ
  rw [List.find?_append,List.find?_append,BH h xs]
  have h1:(if (decide (0≤bA x.key n.key) && !b)=true then [n] else []).find? (fun x=>x.key == k)=none:=by grind
  rw [h1,Option.none_or]
  by_cases e:bA x.key n.key=0
  ·
   rw [if_pos e]
   grind [lW]
  grind
theorem nZ{n:cv}{k:Key}(h:n.key≠k) (l:List cv):bw (fQ n l false) k=bw l k:=by
 unfold bw
 rw [BH h]
theorem Mj{n:cv}{l:List cv}{q:Nat}{b:Bool}(i:q<l.length) {acc r:List cv}(h:acc++fQ n (l.drop q) b=r):acc++(if decide (0≤bA l[q].key n.key) && !b then [n] else [])++(if bA l[q].key n.key=0 then [] else [l[q]])++fQ n (l.drop (q+1)) (b || decide (0≤bA l[q].key n.key))=r:=by grind [List.drop_eq_getElem_cons,fQ]
theorem Mk{n:cv}{l m acc:List cv}{b:Bool}(h:acc++fQ n m b=fQ n l false):acc.length≤l.length+1:=by
 have h1:=congrArg List.length h
 grind [nk]
end Go.Rc

namespace Go.Rc
open Go
section
variable {aa:List aG}{aD:List cv}{rev:Int}(hR:aq aa)
include hR
end
end Go.Rc

namespace Go.Rc
open Go
def QM(L:List As) (Z:Nat→Prop) (w:World):Prop:=(List.Pairwise (fun(A B:As)=>∀x,A.fp x→¬B.fp x) L)∧∀A∈L,A.ok Z w
def As.many(L:List As):As where
 fp x:=∃A∈L,A.fp x
 ok:=QM L
 lt h x hx:=by obtain⟨A,hA,hx⟩:=hx;exact A.lt (h.2 A hA) x hx
 mono hZ h:=⟨h.1,fun A hA=>A.mono hZ (h.2 A hA)⟩
 st hs hc h:=⟨h.1,fun A hA=>A.st hs (fun x hx=>hc x (hx.imp (fun hx=>⟨A,hA,hx⟩) id)) (h.2 A hA)⟩
section
variable {w0 w:World}{M Z:Nat→Prop}{A:As}{L l:List As}
theorem St.OB(h:St w0 M Z w l):St w0 M Z w (As.many []::l):=by
 refine⟨h.bV,h.jG,?_,?_,.cons ?_ h.rl,?_⟩
 ·
  intro B i x j
  rcases List.mem_cons.1 i with rfl | i
  ·
   obtain⟨A,o,_⟩:=j;cases o
  exact h.lR B i x j
 ·
  intro B i x j
  rcases List.mem_cons.1 i with rfl | i
  ·
   obtain⟨A,o,_⟩:=j;cases o
  exact h.mI B i x j
 ·
  intro B _ x j;obtain⟨A,o,_⟩:=j;cases o
 intro B i
 rcases List.mem_cons.1 i with rfl | i
 ·
  exact⟨.nil,fun A o=>by cases o⟩
 exact h.ok B i
theorem St.Ee(h:St w0 M Z w (A::As.many L::l)):St w0 M Z w (As.many (A::L)::l):=by
 obtain⟨d1,d2⟩:=List.pairwise_cons.1 h.rl;obtain⟨d3,d4⟩:=List.pairwise_cons.1 d2;have hm:(As.many L).ok Z w:=h.ok _ (by simp);refine⟨h.bV,h.jG,?_,?_,.cons ?_ d4,?_⟩
 ·
  intro B o x i
  rcases List.mem_cons.1 o with rfl | o
  ·
   obtain⟨C,j,i⟩:=i
   rcases List.mem_cons.1 j with rfl | j
   ·
    exact h.lR C (by simp) x i
   exact h.lR (As.many L) (by simp) x ⟨C,j,i⟩
  exact h.lR B (by simp [o]) x i
 ·
  intro B o x i
  rcases List.mem_cons.1 o with rfl | o
  ·
   obtain⟨C,j,i⟩:=i
   rcases List.mem_cons.1 j with rfl | j
   ·
    exact h.mI C (by simp) x i
   exact h.mI (As.many L) (by simp) x ⟨C,j,i⟩
  exact h.mI B (by simp [o]) x i
 ·
  intro B o x i;obtain⟨C,j,i⟩:=i
  rcases List.mem_cons.1 j with rfl | j
  ·
   exact d1 B (by simp [o]) x i
  exact d3 B o x ⟨C,j,i⟩
 intro B o
 rcases List.mem_cons.1 o with rfl | o
 ·
  refine⟨.cons (fun C j x i p=>d1 (As.many L) (by simp) x i ⟨C,j,p⟩) hm.1,fun C j=>?_⟩
  rcases List.mem_cons.1 j with rfl | j
  ·
   exact h.ok C (by simp)
  exact hm.2 C j
 exact h.ok B (by simp [o])
theorem St.yP(h:St w0 M Z w (As.many (A::L)::l)):St w0 M Z w (A::As.many L::l):=by
 obtain⟨d1,d2⟩:=List.pairwise_cons.1 h.rl;have hm:(As.many (A::L)).ok Z w:=h.ok _ (by simp);obtain⟨d3,d4⟩:=List.pairwise_cons.1 hm.1;refine⟨h.bV,h.jG,?_,?_,.cons ?_ (.cons ?_ d2),?_⟩
 ·
  intro B i x j
  rcases List.mem_cons.1 i with rfl | i
  ·
   exact h.lR _ M0 x ⟨B,.head _,j⟩
  rcases List.mem_cons.1 i with rfl | i
  ·
   obtain⟨C,o,j⟩:=j;exact h.lR _ M0 x ⟨C,.tail _ o,j⟩
  exact h.lR B (.tail _ i) x j
 ·
  intro B i x j
  rcases List.mem_cons.1 i with rfl | i
  ·
   exact h.mI _ M0 x ⟨B,.head _,j⟩
  rcases List.mem_cons.1 i with rfl | i
  ·
   obtain⟨C,o,j⟩:=j;exact h.mI _ M0 x ⟨C,.tail _ o,j⟩
  exact h.mI B (.tail _ i) x j
 ·
  intro B i x j p
  rcases List.mem_cons.1 i with rfl | i
  ·
   obtain⟨C,o,p⟩:=p;exact d3 C o x j p
  exact d1 B i x ⟨A,.head _,j⟩ p
 ·
  intro B i x j;obtain⟨C,o,j⟩:=j;exact d1 B i x ⟨C,.tail _ o,j⟩
 intro B i
 rcases List.mem_cons.1 i with rfl | i
 ·
  exact hm.2 B M0
 rcases List.mem_cons.1 i with rfl | i
 ·
  exact⟨d4,fun C o=>hm.2 C (.tail _ o)⟩
 exact h.ok B (.tail _ i)
theorem St.VB{L':List As}(o:L.Perm L') (h:St w0 M Z w (As.many L::l)):St w0 M Z w (As.many L'::l):=by
 obtain⟨d1,d2⟩:=List.pairwise_cons.1 h.rl;have hm:(As.many L).ok Z w:=h.ok _ (by simp);have p:∀x,(As.many L').fp x→(As.many L).fp x:=fun x ⟨C,q,j⟩=>⟨C,o.mem_iff.2 q,j⟩;refine⟨h.bV,h.jG,?_,?_,.cons (fun B i x j=>d1 B i x (p x j)) d2,?_⟩
 ·
  intro B i x j
  rcases List.mem_cons.1 i with rfl | i
  ·
   exact h.lR _ M0 x (p x j)
  exact h.lR B (.tail _ i) x j
 ·
  intro B i x j
  rcases List.mem_cons.1 i with rfl | i
  ·
   exact h.mI _ M0 x (p x j)
  exact h.mI B (.tail _ i) x j
 intro B i
 rcases List.mem_cons.1 i with rfl | i
 ·
  exact⟨hm.1.perm o (fun h x j r=>h x r j),fun C q=>hm.2 C (o.mem_iff.2 q)⟩
 exact h.ok B (.tail _ i)
end
theorem Ef{P:Program}{w:World}{T:TypeId}(hT:P.underlying T=some .bool) (p q:Bool):(Op.equalIn 10000 T (.bool p) (.bool q)).run P w=.ok (p == q) w:=by
 rw [show(10000:Nat)=9999+1 from rfl]
 unfold Op.equalIn
 simp [run_underlying hT]
theorem PV.eqB{P:Program}{kv:KV}{w:World}{T U ty:TypeId}{x y:Operand}{p q:Bool}(hT:P.underlying T=some .bool) (h:ev kv x=some (.bool p)) (i:ev kv y=some (.bool q)):PV P (.binOp .eql T x y U) ty kv w (.bool (p == q)):=
 ⟨rfl,by simp [known,opers,h,i],fun _ _ _ _=>by
  simp only [execOp,aJ h,aJ i]
  simp [eqGuard,binOp,Op.equal,Op.maxDepth,Ef hT]⟩
structure RE where
 key:Key
 a:Option Addr
 n:Nat
 c:Nat
 reads:List Key
def RE.as(EK:Nat) (e:RE):As:=As.os RR.key EK 2 e.a e.n e.c e.reads
end Go.Rc

namespace Go.Rc
open Go
section
variable {aa:List aG}{aD:List cv}{val:Key→ByteArray}
theorem uG{f g:Nat}(h:f≤g):∀{l:List Key}{s s':ES},dK aa val f s l=some s'→dK aa val g s l=some s'
 | [],s,s',hu=>hu
 | k::r,s,s',hu=>by
  simp only [dK] at hu ⊢;obtain⟨t,h1,i⟩:=Option.bind_eq_some_iff.1 hu;rw [nY h h1];exact uG h i
theorem uH(hR:aq aa):∀(l:List Key) (s:ES),Good aa aD s→(∀k∈l,eG aa k)→∃f s',dK aa val f s l=some s'
 | [],s,_,_=>⟨0,s,rfl⟩
 | k::r,s,h,hk=>by
  obtain⟨f,t,h1⟩:=Md (val:=val) hR _ s k h (hk k (by simp)) (Nat.le_refl _);have i:=(ct (val:=val) hR f).1 _ _ _ h1 h (hk k (by simp))
  obtain⟨g,s',o⟩:=uH hR r t i.1 fun k j=>hk k (by simp [j])
  refine⟨max f g,s',?_⟩
  grind [dK,nY,uG,Nat.le_max_right]
theorem xG(hR:aq aa) {f:Nat}:∀{l:List Key}{s s':ES},dK aa val f s l=some s'→Good aa aD s→(∀k∈l,eG aa k)→s'.bf.length+gC aa s'≤s.bf.length+gC aa s
 | [],s,s',h,_,_=>by simp only [dK,Option.some.injEq] at h;subst h;exact Nat.le_refl _
 | k::r,s,s',h,i,hk=>by
  simp only [dK] at h;obtain⟨t,h1,j⟩:=Option.bind_eq_some_iff.1 h;have o:=(ct (val:=val) hR f).1 _ _ _ h1 i (hk k (by simp));have p:=(iu (val:=val) hR f).1 _ _ _ h1 i (hk k (by simp))
  have q:=xG hR j o.1 fun k v=>hk k (by simp [v])
  exact Nat.le_trans q p.2.2
end
theorem xH{aa:List aG}(hR:aq aa) {i:Nat}(hi:i<aa.length):gM aa (aM aa (i:Int))=true:=by
 have h:=hR.len
 unfold gM
 rw [eG.valid (aa:=aa) (.eT hi (by omega)),cz hi (by omega)]
 simp
theorem QN:gU ⟨0,[],[]⟩:=⟨fun i y h=>by simp at h,fun i r h=>by simp at h,by decide,by decide,by decide,⟨by decide,fun i x h=>by simp at h⟩⟩
theorem jx.gU{rev:Int}{aD:List cv}(h:jx rev aD) (h0:0≤rev) (h1:rev≤1073741824) (j:aD.length≤64):gU ⟨rev,aD,[]⟩:=
 ⟨Ed.2 ⟨h.1,h.2.1⟩,fun i r h=>by simp at h,h0,h1,j,⟨Nat.zero_le _,fun i x h=>by simp at h⟩⟩
end Go.Rc

namespace Go.Rc
open Go
def xI(x:Rec):Int:=16+x.key.text.size+x.value.size+8*x.reads.length
def ki(l:List Rec):Int:=(l.map xI).sum
def Hi(x:Rec):Prop:=x.key.text.size≤1000∧x.value.size≤1073741824∧x.reads.length≤4000
theorem Hi.size{x:Rec}(h:Hi x):0≤xI x∧xI x≤1100000000:=by
 unfold xI
 obtain⟨a,b,c⟩:=h
 omega
theorem BI{l:List Rec}{i:Nat}(hi:i<l.length):ki (l.take (i+1))=ki (l.take i)+xI l[i]:=by grind [ki,List.take_succ_eq_append_getElem]
theorem xJ:∀{l:List Rec},(∀x∈l,Hi x)→0≤ki l∧ki l≤1100000000*l.length
 | [],_=>by simp [ki]
 | x::r,h=>by
  have h1:=(h x (by simp)).size
  have j:=xJ (l:=r) fun y i=>h y (by simp [i])
  grind [ki]
theorem BJ{c s:Int}(hc:0≤c∧c≤1073741824) (h:0≤s∧s≤1100000000):-9223372036854775808≤c*s∧c*s≤9223372036854775807:=by
 have h1:=Int.mul_nonneg hc.1 h.1;have i:=Int.mul_le_mul hc.2 h.2 h.1 (by decide:(0:Int)≤1073741824)
 omega
theorem Js{α:Type}{out m:List α}{x:α}(p:Nat) (h:out.Perm m):(([]++out.take p)++[x]++out.drop p).Perm (m++[x]):=by
 have h1:(out.take p++[x]++out.drop p).Perm (out++[x]):=by grind [List.perm_append_comm,List.take_append_drop]
 rw [List.nil_append];exact h1.trans (h.append_right _)
theorem xK(l:List Rec) (k:Key):(ft l k).Sublist l:=List.filter_sublist
def As.rgo(c:Prop) (b o:Nat) (r:List Value):As where
 fp _:=False
 ok Z w:=c→(As.rg b o r).ok Z w
 lt _ _ hx:=hx.elim
 mono hZ h:=fun h0=>(As.rg b o r).mono hZ (h h0)
 st hs hc h:=fun h0=>(As.rg b o r).st hs hc (h h0)
theorem As.gro{c:Prop}{b o:Nat}{r:List Value}{Z:Nat→Prop}{w:World}(hc:c) (h:(As.rgo c b o r).ok Z w):w.rangeAt b o r:=(h hc).2.2
theorem Rd.opt{α:Type}{R:RR α}{k n c:Nat}{Z:Nat→Prop}{w:World}{a:Option Addr}{xs:List α}(h:Rd R k Z w a n c xs) (v:∀b,Z b→b<w.heap.size) (p:Nat):∃b o r,(∀i:p<xs.length,a=some ⟨b,o,none⟩∧r.length=k∧R.r Z w xs[p] r)∧(As.rgo (p<xs.length) b (o+p*k) r).ok Z w:=by
 by_cases i:p<xs.length
 ·
  obtain⟨b,o,r,h1,y,z,B,q⟩:=Rd.at h i;exact⟨b,o,r,fun _=>⟨h1,y,z⟩,fun _=>⟨q,v b q,B⟩⟩
 exact⟨0,0,[],fun j=>absurd j i,fun j=>absurd j i⟩
theorem bm.one(x:bm) (a1:Option Addr) (n1 c1:Nat) (a2:Option Addr) (n2 c2:Nat):∀u∈x.row a1 n1 c1 a2 n2 c2,u.oneCell'=true:=by simp [bm.row,Value.oneCell']
end Go.Rc

namespace Go.Rc
open Go
structure qc where
 aa:List aG
 base:cy
 goals:List Key
 stack:List bm
 bf:List Key
structure Hj where
 u:Option Addr
 nu:Nat
 cu:Nat
 i:Option Addr
 ni:Nat
 ci:Nat
 r:Option Addr
 nr:Nat
 cr:Nat
 g:Option Addr
 ng:Nat
 cg:Nat
 f:Option Addr
 nf:Nat
 cf:Nat
 p:Option Addr
 np:Nat
 cp:Nat
def qc.row(t:qc) (A:Hj):List Value:=[.slice A.u A.nu A.cu,.int .i64 t.base.ad,.slice A.i A.ni A.ci,.slice A.r A.nr A.cr,.slice A.g A.ng A.cg,.slice A.f A.nf A.cf,.slice A.p A.np A.cp]
structure qc.In (t:qc) (A:Hj) (Z:Nat→Prop) (w:World):Prop where
 u:Rd RR.eT 4 Z w A.u A.nu A.cu t.aa
 i:Rd RR.aD 4 Z w A.i A.ni A.ci t.base.ab
 r:Rd RR.dV 8 Z w A.r A.nr A.cr t.base.ah
 g:Rd RR.key 2 Z w A.g A.ng A.cg t.goals
 f:Rd RR.mB 6 Z w A.f A.nf A.cf t.stack
 p:Rd RR.key 2 Z w A.p A.np A.cp t.bf
structure qc.In5 (t:qc) (A:Hj) (Z:Nat→Prop) (w:World):Prop where
 u:Rd RR.eT 4 Z w A.u A.nu A.cu t.aa
 i:Rd RR.aD 4 Z w A.i A.ni A.ci t.base.ab
 r:Rd RR.dV 8 Z w A.r A.nr A.cr t.base.ah
 g:Rd RR.key 2 Z w A.g A.ng A.cg t.goals
 f:Rd RR.mB 6 Z w A.f A.nf A.cf t.stack
structure qc.Sz (t:qc):Prop where
 u:t.aa.length≤1000000
 a:∀x∈t.aa,x.asks.length≤1000
 i:t.base.ab.length≤1000000
 r:t.base.ah.length≤1000000
 f:t.stack.length≤1000000
 g:t.goals.length≤1000000
 p:t.bf.length≤1000000
end Go.Rc

namespace Go.Rc
open Go
structure eC where
 a:Option Addr
 n:Nat
 c:Nat
 a2:Option Addr
 n2:Nat
 c2:Nat
def bm.oe(x:bm × eC):List Value:=x.1.row x.2.a x.2.n x.2.c x.2.a2 x.2.n2 x.2.c2
def RR.ig:RR (bm × eC):=RR.flat bm.oe
theorem uI{α:Type}{l:List α}{a:α}(h:l.getLast?=some a):l.dropLast++[a]=l:=by
 rcases List.eq_nil_or_concat l with rfl | ⟨m,b,rfl⟩
 ·
  cases h
 simp at h
 subst h
 simp
def dx(L:List (bm × eC)):FZ:=
 ⟨fun Z w=>∀y∈L,Rd RR.key 2 Z w y.2.a y.2.n y.2.c y.1.reads∧Rd RR.str 1 Z w y.2.a2 y.2.n2 y.2.c2 y.1.ae,fun hZ h y hy=>⟨(h y hy).1.mono hZ,(h y hy).2.mono hZ⟩,fun h1 h2 h y hy=>⟨(h y hy).1.st h1 h2,(h y hy).2.st h1 h2⟩⟩
theorem dx.last{L:List (bm × eC)}{Z:Nat→Prop}{w:World}{a a2:Option Addr}{n c n2 c2:Nat}{pl:List Key}{i:List ByteArray}(h:(dx L.dropLast).p Z w) (hl:L=[]∨∃f,L.getLast?=some (f,⟨a,n,c,a2,n2,c2⟩)∧pl=f.reads∧i=f.ae) (hk:Rd RR.key 2 Z w a n c pl) (j:Rd RR.str 1 Z w a2 n2 c2 i):(dx L).p Z w:=fun y hm=>by
 rcases hl with rfl | ⟨f,h1,rfl,rfl⟩
 ·
  cases hm
 have e:=uI h1;rw [← e] at hm
 rcases List.mem_append.1 hm with hm | hm
 ·
  exact h y hm
 grind
theorem dx.nil(Z:Nat→Prop) (w:World):(dx ([]:List (bm × eC)).dropLast).p Z w:=fun y h=>by cases h
theorem dx.mB{L:List (bm × eC)}{E n c:Nat}{a:Option Addr}{Z:Nat→Prop}{w:World}(h:Ow RR.ig E 6 Z w a n c L) (q:(dx L).p Z w) (v:∀y∈L,y.1.reads.length≤4000∧y.1.ae.length≤4000):Ow RR.mB E 6 Z w a n c (L.map Prod.fst):=by
 obtain⟨hn,rows,hl,hk,h1,z⟩:=h;refine⟨by rw [hn,List.length_map],rows,by rw [hl,List.length_map],hk,h1,fun i x r j B=>?_⟩;rw [List.getElem?_map] at j;obtain⟨y,o,rfl⟩:=Option.map_eq_some_iff.1 j;have hm:=List.mem_of_getElem? o;have hr:r=bm.oe y:=z i y r o B;obtain⟨C,D⟩:=v y hm;obtain⟨F,G⟩:=q y hm;exact⟨_,_,_,_,_,_,hr,F,G,C,D⟩
end Go.Rc

namespace Go.Rc
open Go
structure BK (aa:List aG) (aD:List cv) (rev:Int) (b:cy):Prop where
 fR:Good aa aD ⟨b,[],[],0⟩
 tN:xD ⟨b,[],[],0⟩
 rv:b.ad=rev
 xL:yI rev aD
 pc:aD.length≤64
section
variable {aa:List aG}{aD:List cv}{rev:Int}{b:cy}
theorem BK.gU(h:BK aa aD rev b):gU b:=
 ⟨by rw [h.rv,show b.ab=aD from h.fR.aD];exact h.xL,fun i r hr=>(h.tN.v r (List.mem_of_getElem? hr)).2,h.tN.r0,h.tN.r1,by rw [show b.ab=aD from h.fR.aD];exact h.pc,h.tN.st.mX h.fR.len fun r hr=>(h.tN.v r hr).1⟩
theorem BK.BC(h:BK aa aD rev b) (g:List Key):BK aa aD rev (cH b g false):=⟨h.fR.mark g false,h.tN.BC g,h.rv,h.xL,h.pc⟩
theorem BK.BD(h:BK aa aD rev b) {g:List Key}(hc:∀x∈g,ax x=true):BK aa aD rev (cH b g true):=⟨h.fR.mark g true,h.tN.BD hc,h.rv,h.xL,h.pc⟩
theorem BK.put(h:BK aa aD rev b) {r:Rec}(hk:eG aa r.key) (hr:r.reads.length≤4000∧∀a∈r.reads,eG aa a) (i:(!(az b.ah r.key).isSome && decide (4000≤b.ah.length))=false) (j:eE r=true) (o:r.av≤b.ad):BK aa aD rev {b with ah:=ey b.ah r}:=
 ⟨h.fR.put (bf:=[]) hk hr i,h.tN.put (bf:=[]) j o,h.rv,h.xL,h.pc⟩
theorem BK.sub(h:BK aa aD rev b) {rs:List Rec}(i:rs.Sublist b.ah):BK aa aD rev {b with ah:=rs}:=
 ⟨⟨h.fR.aD,Nat.le_trans i.length_le h.fR.len,fun r hr=>h.fR.key r (i.subset hr),fun r hr=>h.fR.AD r (i.subset hr),.nil,fun k=>.inl rfl⟩,⟨h.tN.st.sublist i,fun r hr=>h.tN.v r (i.subset hr),h.tN.r0,h.tN.r1⟩,h.rv,h.xL,h.pc⟩
theorem BK.small(h:BK aa aD rev b):∀r∈b.ah,Hi r∧0≤r.cost∧r.cost≤1073741824:=fun r hr=>by
 obtain⟨i,hi,ht,_⟩:=(h.fR.key r hr).shape;have h1:=(fw _).1 (h.tN.v r hr).1;obtain⟨_,_,_,o,hl,_,_,_,p,j,_⟩:=h1;have q:=rB (n:=i) (by omega);refine⟨⟨by rw [ht];omega,by omega,by omega⟩,by omega,j⟩
end
structure fx (aa:List aG) (f:bm):Prop where
 key:eG aa f.key
 aD:ay f.key=false
 AD:∀a∈f.reads,eG aa a
 len:f.reads.length=f.ae.length
 gF:gV aa f.key f.ae.length
 at0:0≤f.at_
theorem fx.new{aa:List aG}{k:Key}(hk:eG aa k) (hi:ay k=false):fx aa ⟨k,false,0,[],[]⟩:=⟨hk,hi,fun a h=>(by cases h),rfl,hk.gF hi,Int.le_refl _⟩
structure TK (aa:List aG) (aD:List cv) (rev:Int) (t:qc):Prop where
 Gf:t.aa=aa
 base:BK aa aD rev t.base
 goals:∀k∈t.goals,eG aa k
 stack:∀f∈t.stack,fx aa f
 bf:∀k∈t.bf,eG aa k
theorem PV.cast{P:Program}{op:Op}{ty:TypeId}{kv:KV}{w:World}{v v':Value}(h:PV P op ty kv w v) (e:v=v'):PV P op ty kv w v':=e ▸ h
theorem bF{α:Type}(L:List α) (x:α):(L++[x])[L.length]?=some x:=by simp
theorem dx.snoc{L:List (bm × eC)}{f:bm}{A:eC}{Z:Nat→Prop}{w:World}(h:(dx L).p Z w) (hk:Rd RR.key 2 Z w A.a A.n A.c f.reads) (i:Rd RR.str 1 Z w A.a2 A.n2 A.c2 f.ae):(dx (L++[(f,A)])).p Z w:=fun y hm=>by
 rcases List.mem_append.1 hm with hm | hm
 ·
  exact h y hm
 grind
theorem dx.whole{L:List (bm × eC)}{f:bm}{A:eC}{l:List bm}{E n c:Nat}{a:Option Addr}{Z:Nat→Prop}{w:World}(h:Ow RR.ig E 6 Z w a n c (L++[(f,A)])) (i:(dx (L++[(f,A)])).p Z w) (j:∀y∈L,y.1.reads.length≤4000∧y.1.ae.length≤4000) (o:f.reads.length≤4000∧f.ae.length≤4000) (hl:L.map Prod.fst++[f]=l):Ow RR.mB E 6 Z w a n c l:=by
 have h1:=dx.mB h i fun y hm=>by grind
 grind
theorem BL{L:List (bm × eC)}{f:bm}{A:eC}{l:List bm}{E EK ES n c:Nat}{a:Option Addr}{Z:Nat→Prop}{w:World}(o:Ow RR.ig E 6 Z w a n c (L++[(f,A)])) (hk:Ow RR.key EK 2 Z w A.a A.n A.c f.reads) (q:Ow RR.str ES 1 Z w A.a2 A.n2 A.c2 f.ae) (r:(dx L).p Z w) (v:∀y∈L,y.1.reads.length≤4000∧y.1.ae.length≤4000) (z:f.reads.length≤4000∧f.ae.length≤4000) (hl:L.map Prod.fst++[f]=l) (G:l.length≤1000000):∃i:Nat→Prop,(∀x,Z x→i x)∧Rd RR.mB 6 i w a n c l:=by
 have h1:=hk.rd (by omega);have B:=q.rd (by omega)
 let i:Nat→Prop:=fun x=>Z x∨x∈aI A.a∨x∈aI A.a2
 have j:∀x,Z x→i x:=fun x h=>.inl h;have C:(dx (L++[(f,A)])).p i w:=dx.snoc ((dx L).mono j r) (h1.mono fun x h=>h.imp id .inl) (B.mono fun x h=>h.imp id .inr);have D:Ow RR.ig E 6 i w a n c (L++[(f,A)]):=(As.os RR.ig E 6 a n c (L++[(f,A)])).mono j o;have F:=dx.whole D C v z hl;exact⟨_,fun x h=>.inl (j x h),F.rd (by omega)⟩
theorem lX{x:cy}{l others:List bm}{k:Key}(h:bG x l others k=1):ay k=false:=by grind [cE,bG]
theorem dx.push{L:List (bm × eC)}{f g:bm}{A:eC}{l:List bm}{E n c:Nat}{a:Option Addr}{Z:Nat→Prop}{w:World}(h:Ow RR.ig E 6 Z w a n c (L++[(f,A)]++[(g,⟨none,0,0,none,0,0⟩)])) (i:(dx (L++[(f,A)])).p Z w) (q:∀y∈L,y.1.reads.length≤4000∧y.1.ae.length≤4000) (r:f.reads.length≤4000∧f.ae.length≤4000) (j:g.reads=[]) (o:g.ae=[]) (hl:L.map Prod.fst++[f]=l):Ow RR.mB E 6 Z w a n c (l++[g]):=by
 have h1:=dx.mB h (dx.snoc (f:=g) (A:=⟨none,0,0,none,0,0⟩) i (by rw [j];exact Rd.nil _ _ _ _) (by rw [o];exact Rd.nil _ _ _ _)) fun y hm=>by grind
 grind
section
variable {w0 w:World}{M Z:Nat→Prop}{l:List As}{A0 A1 A2 A3 A4 A5 A6 A7 A8 A9 Vs A11 A12 A13 A14 A15 A16 A17:As}
end
end Go.Rc

namespace Go.Rc
open Go
section
variable {α:Type}{R:RR α}{P:Program}{E k n c b:Nat}{a:Option Addr}{L:List α}{u:α}{Z:Nat→Prop}{w:World}
variable {N:Nat}{kv:KV}{K:KV→World→Prop}{ty:TypeId}{pos:String}{af:Array Edge}{g:Option (Nat × Bool)}{T:TypeId}
theorem OX.AE{x y:Operand}{f:Nat}{v:Value}(hT:(P.info? T).map (·.size)=some 1) (h:Ow R E k Z w a n c (L++[u])) (j:a=some ⟨b,0,none⟩) (p:f<k) (q:ev kv x=some (.pointer (some ⟨b,0+L.length*k+f,none⟩))) (z:ev kv y=some v)
  (h1:v.oneCell'=true) (i:α) (hR:∀r,R.r Z w u r→R.r Z w i (r.set f v)) (B:∀w',aS (aI a) w w'→OR 0 w' E k (R.r Z w) a n c (L++[i])→K kv w'):OX P ⟨none,.store T x y,ty,pos,af,g⟩ N kv w K:=
 OX.Qp hT h j (bF L u) p q z h1 i (fun r _ h=>hR r h) fun w' c o=>B w' c (by grind)
end
section
variable {aa:List aG}{f:bm}
theorem fx.read(h:fx aa f) {k:Key}{a:ByteArray}(hk:eG aa k) (i:gV aa f.key (f.ae.length+1)):fx aa {f with reads:=f.reads++[k],ae:=f.ae++[a]}:=
 ⟨h.key,h.aD,fun b hb=>by
  rcases List.mem_append.1 hb with hb | hb
  ·
   exact h.AD b hb
  grind,by simp [h.len],by simpa using i,h.at0⟩
theorem fx.runs(h:fx aa f):fx aa {f with running:=true,at_:=0}:=⟨h.key,h.aD,h.AD,h.len,h.gF,Int.le_refl _⟩
theorem fx.step(h:fx aa f):fx aa {f with at_:=f.at_+1}:=⟨h.key,h.aD,h.AD,h.len,h.gF,by have:=h.at0;show 0≤f.at_+1;omega⟩
theorem fx.snoc{L:List (bm × eC)}(i:∀y∈L,fx aa y.1) (h:fx aa f):∀g∈L.map Prod.fst++[f],fx aa g:=fun g j=>by grind
end
structure TR (aa:List aG) (aD:List cv) (rev:Int) (n:Nat) (t:qc):Prop where
 ok:TK aa aD rev t
 ns:t.stack.length≤n
 nr:t.bf.length≤n
 ng:t.goals.length≤32
section
variable {aa:List aG}{aD:List cv}{rev:Int}{n:Nat}{t:qc}
theorem TR.mono(h:TR aa aD rev n t) {m:Nat}(hm:n≤m):TR aa aD rev m t:=⟨h.ok,Nat.le_trans h.ns hm,Nat.le_trans h.nr hm,h.ng⟩
theorem TR.sz(h:TR aa aD rev n t) (hR:aq aa) (hn:n≤100000):t.Sz:=by
 have h1:=h.ok.base;have q:=h1.pc;have p:t.base.ab=aD:=h1.fR.aD;have r:t.base.ah.length≤4000:=h1.fR.len;have v:=h.ns;have y:=h.nr;have z:=h.ng;have B:=hR.len;have j:=h.ok.Gf;refine⟨by rw [j];omega,fun x o=>?_,by rw [p];omega,by omega,by omega,by omega,by omega⟩;rw [j] at o;obtain⟨i,hi,rfl⟩:=List.mem_iff_getElem.1 o
 have:=(hR.2 i _ (List.getElem?_eq_getElem hi)).1
 omega
theorem TR.VC(h:TR aa aD rev n t):TR aa aD rev n {t with goals:=t.goals.drop 1}:=
 ⟨⟨h.ok.Gf,h.ok.base,fun k hk=>h.ok.goals k (List.mem_of_mem_drop hk),h.ok.stack,h.ok.bf⟩,h.ns,h.nr,by have:=h.ng;simp;omega⟩
theorem TR.begin(h:TR aa aD rev n t) {k:Key}(hk:eG aa k) (hi:ay k=false) (hn:1≤n):TR aa aD rev n {t with goals:=t.goals.drop 1,stack:=[⟨k,false,0,[],[]⟩]}:=
 ⟨⟨h.ok.Gf,h.ok.base,fun k hk=>h.ok.goals k (List.mem_of_mem_drop hk),fun f i=>by grind [fx.new],h.ok.bf⟩,hn,h.nr,by have:=h.ng;simp;omega⟩
theorem TR.next(h:TR aa aD rev n t) {b:cy}{l:List bm}{rk:List Key}(hb:BK aa aD rev b) (hl:∀f∈l,fx aa f) (hk:∀k∈rk,eG aa k) (h1:rk.length≤1) (i:l.length≤t.stack.length+1):TR aa aD rev (n+1) {t with base:=b,stack:=l,bf:=t.bf++rk}:=
 ⟨⟨h.ok.Gf,hb,h.ok.goals,hl,fun k hm=>by rcases List.mem_append.1 hm with hm | hm;exact h.ok.bf k hm;exact hk k hm⟩,by have:=h.ns;show l.length≤_;omega,by have:=h.nr;grind,h.ng⟩
theorem yR{x:cy}{l:List bm}{k:Key}(h:cE x l k=true):ay k=false:=by grind [cE]
end
end Go.Rc

