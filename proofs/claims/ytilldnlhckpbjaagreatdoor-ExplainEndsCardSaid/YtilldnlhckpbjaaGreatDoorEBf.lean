/- Base of the proof: frames, memory, ownership, and the plain meaning of rule systems. Conditions: as each lemma says. -/
import Derived.Test.YtilldnlhckpbjaaGreatDoorEBe
import Derived.Test.YtilldnlhckpbjaaGreatDoorEBd
import Derived.Test.YtilldnlhckpbjaaGreatDoorEBc
import Derived.Laws.IdiomRangeMap
set_option linter.all false
namespace Go.Rc
open Go
/-! ### counting -/
def zv(p:Nat→Bool):Nat→Nat
 | 0=>0
 | n+1=>zv p n+(p n).toNat
theorem q7{p q:Nat→Bool}:∀{n:Nat},(∀i,i<n→p i=true→q i=true)→zv p n≤zv q n
 | 0,_=>Nat.le_refl _
 | n+1,h=>by
  have h1:=q7 (n:=n) fun i hi=>h i (by omega)
  have a:=h n (by omega);simp only [zv]
  cases c:p n with
  | false=>simp;omega
  | true=>rw [a c];omega
theorem q8{p q:Nat→Bool}{j:Nat}:∀{n:Nat},(∀i,i<n→p i=true→q i=true)→j<n→q j=true→p j=false→zv p n+1≤zv q n
 | 0,_,c,_,_=>by omega
 | n+1,h,c,h1,a=>by
  simp only [zv]
  rcases Nat.lt_or_ge j n with f | z
  ·
   have o:=q8 (n:=n) (fun i hi=>h i (by omega)) f h1 a;have u:=h n (by omega)
   cases y:p n with
   | false=>simp;omega
   | true=>rw [u y];omega
  have e:j=n:=by omega
  subst e
  have o:=q7 (n:=j) (p:=p) (q:=q) fun i hi=>h i (by omega)
  rw [h1,a];simp;omega
theorem BB{p q:Nat→Bool}{j:Nat}:∀{n:Nat},(∀i,i<n→i≠j→p i=true→q i=true)→zv p n≤zv q n+1
 | 0,_=>by simp [zv]
 | n+1,h=>by
  simp only [zv]
  by_cases e:n=j
  ·
   subst e
   have f:=q7 (n:=n) (p:=p) (q:=q) fun i hi=>h i (by omega) (by omega)
   cases p n <;> cases q n <;> simp <;> omega
  have h1:=BB (n:=n) fun i hi=>h i (by omega)
  have a:=h n (by omega) e
  cases c:p n with
  | false=>simp;omega
  | true=>rw [a c];simp;omega
theorem Ja(p:Nat→Bool):∀n,zv p n≤n
 | 0=>Nat.le_refl _
 | n+1=>by have:=Ja p n;simp only [zv];cases p n <;> simp <;> omega
/-! ### what is found in what was put -/
theorem BC:∀(a b:List UInt8),Lib.compareBytes a b=0→a=b
 | [],[],_=>rfl
 | [],_::_,h=>by simp [Lib.compareBytes] at h
 | _::_,[],h=>by simp [Lib.compareBytes] at h
 | x::a,y::b,h=>by
  simp only [Lib.compareBytes] at h
  split at h
  ·
   cases h
  split at h
  ·
   cases h
  rename_i h1 c
  have e:x=y:=by grind
  rw [e,BC a b h]
theorem j3{a b:Key}(h:bl a b=0):a=b:=by
 unfold bl at h
 split at h
 ·
  cases h
 split at h
 ·
  cases h
 rename_i h1 c
 have f:=BC _ _ h;obtain⟨j,i⟩:=a;obtain⟨o,p⟩:=b;simp only at h1 c f
 congr 1
 ·
  omega
 cases i;simp_all
theorem xF(r:Rec) (k:Key):∀(l:List Rec) (b:Bool),az (dH r l b) k=if k=r.key then (if b then none else some r) else az l k:=by
 intro l
 induction l with
 | nil=>
  intro b
  unfold dH az
  grind
 | cons x xs a=>
  intro b;have h1:=a (b || decide (0≤bl x.key r.key))
  unfold dH
  unfold az at h1 ⊢
  rw [List.find?_append,List.find?_append,h1]
  by_cases h:k=r.key
  ·
   subst h;simp only [if_true]
   by_cases hc:bl x.key r.key=0
   ·
    grind
   have f:x.key≠r.key:=fun e=>hc (by rw [e];exact gD _)
   grind
  simp only [if_neg h]
  have hr:(r.key == k)=false:=by simp;exact fun e=>h e.symm
  have c:(List.find? (fun y=>y.key == k) (if (decide (0≤bl x.key r.key) && !b)=true then [r] else []))=none:=by split <;> simp [hr]
  rw [c]
  by_cases hc:bl x.key r.key=0
  ·
   have e:x.key=r.key:=j3 hc
   grind
  grind
theorem eR(l:List Rec) (r:Rec) (k:Key):az (eN l r) k=if k=r.key then some r else az l k:=by grind [eN,xF]
theorem oz(f:Rec→Rec) (a:∀r,(f r).key=r.key) (k:Key) (l:List Rec):az (l.map f) k=(az l k).map f:=by
 unfold az
 rw [List.find?_map,show((fun x:Rec=>x.key == k)∘f)=(fun x:Rec=>x.key == k) from funext fun x=>by simp [a]]
/-! ### what goes on being so -/
theorem bU{x:cW}{k:Key}:aI x k=true↔∃r,az x.ah k=some r∧r.av=x.ad:=by
 unfold aI aF
 cases a:az x.ah k with
 | none=>simp
 | some r=>simp
theorem zw{x:cW}{g:List Key}{d:Bool}{k:Key}(h:aI x k=true):aI (de x g d) k=true:=by
 obtain⟨r,h1,a⟩:=bU.1 h;refine bU.2 ⟨bK x.ad g d r,?_,?_⟩
 ·
  show az (x.ah.map (bK x.ad g d)) k=_
  grind [oz,cn]
 show _=x.ad
 unfold bK
 grind
theorem vj{x:cW}{g:List Key}{k:Key}(h:(az x.ah k).isSome=true) (hk:k∈g):aI (de x g false) k=true:=by
 obtain⟨r,h1⟩:=Option.isSome_iff_exists.1 h;have a:=List.find?_some h1
 simp at a
 refine bU.2 ⟨bK x.ad g false r,?_,?_⟩
 ·
  show az (x.ah.map (bK x.ad g false)) k=_
  grind [oz,cn]
 show _=x.ad
 grind [bK]
theorem Cv{x:cW}{r:Rec}{k:Key}(hr:r.av=x.ad) (h:aI x k=true):aI {x with ah:=eN x.ah r} k=true:=by
 obtain⟨q,h1,a⟩:=bU.1 h
 by_cases e:k=r.key
 ·
  exact bU.2 ⟨r,by show az (eN x.ah r) k=_;rw [eR,if_pos e],hr⟩
 exact bU.2 ⟨q,by show az (eN x.ah r) k=_;rw [eR,if_neg e,h1],a⟩
theorem q9{x:cW}{r:Rec}(hr:r.av=x.ad):aI {x with ah:=eN x.ah r} r.key=true:=
 bU.2 ⟨r,by show az (eN x.ah r) r.key=_;rw [eR,if_pos rfl],hr⟩
theorem zx(l:List Rec) (rev:Int) (k:Key):k∈aC l rev k:=by grind [aC,iz]
structure fV (s s':ES):Prop where
 on:∀k,s'.on k=s.on k
 up:∀k,aI s.b k=true→aI s'.b k=true
theorem fV.refl(s:ES):fV s s:=⟨fun _=>rfl,fun _ h=>h⟩
theorem fV.trans{s t u:ES}(h:fV s t) (a:fV t u):fV s u:=⟨fun k=>(a.on k).trans (h.on k),fun k hk=>a.up k (h.up k hk)⟩
theorem fV.there{s s':ES}(h:fV s s') {k:Key}(ht:dj s k=true):dj s' k=true:=by
 unfold dj at ht ⊢
 rw [h.on k];simp only [Bool.or_eq_true] at ht ⊢
 rcases ht with h1 | h1 | h1
 ·
  exact .inl h1
 ·
  exact .inr (.inl h1)
 exact .inr (.inr (h.up k h1))
def eY(aa:List aD) (s:ES):Nat:=zv (fun i=>!aI s.b (aH aa (i:Int)) && !s.on (aH aa (i:Int))) aa.length
def off(aa:List aD) (s:ES):Nat:=zv (fun i=>!s.on (aH aa (i:Int))) aa.length
theorem fV.eY{aa:List aD}{s s':ES}(h:fV s s'):eY aa s'≤eY aa s:=q7 fun i _ a=>by
 simp only [Bool.and_eq_true,Bool.not_eq_true'] at a ⊢;rw [h.on] at a;refine⟨?_,a.2⟩
 cases hu:aI s.b (aH aa (i:Int)) with
 | false=>rfl
 | true=>rw [h.up _ hu] at a;exact absurd a.1 (by simp)
theorem fV.off{aa:List aD}{s s':ES}(h:fV s s'):Go.Rc.off aa s'=Go.Rc.off aa s:=by
 unfold Go.Rc.off
 congr 1
 funext i
 rw [h.on]
section
variable {aa:List aD}{val:Key→ByteArray}{aA:List cj}
theorem k9(s:ES) (k k':Key):ES.on {s with busy:=bZ s.busy k (.bool true)} k'=(decide (k=k') || s.on k'):=by
 unfold ES.on
 simp only [cZ]
 by_cases h:k=k' <;> simp [h]
theorem zy{s:ES}(hn:(s.busy.map (·.1)).Nodup) (k k':Key):ES.on {s with busy:=fI s.busy k} k'=(!decide (k=k') && s.on k'):=by
 unfold ES.on
 simp only [xf hn]
 by_cases h:k=k' <;> simp [h]
def UpK(aa:List aD) (val:Key→ByteArray) (aA:List cj) (f:Nat):Prop:=∀s k s',hY aa val f s k=some s'→Good aa aA s→eB aa k→fV s s'∧(s'.e=0→s.e=0∧(aw k=true∨dj s' k=true))∧s'.cz.length+eY aa s'≤s.cz.length+eY aa s
def ChK(aa:List aD) (val:Key→ByteArray) (aA:List cj) (f:Nat):Prop:=∀s k n s' b,cm aa val f s k n=some (s',b)→Good aa aA s→fV s s'∧(s'.e=0→s.e=0∧(b=false→aI s'.b k=true))∧s'.cz.length+eY aa s'≤s.cz.length+eY aa s
def RuK(aa:List aD) (val:Key→ByteArray) (aA:List cj) (f:Nat):Prop:=∀s k reads ai s',eG aa val f s k reads ai=some s'→Good aa aA s→gh aa k ai.length→fV s s'∧(s'.e=0→s.e=0∧aI s'.b k=true)∧(s'.cz.length+eY aa s'≤s.cz.length+eY aa s∨(aI s'.b k=true∧s'.cz.length+eY aa s'≤s.cz.length+eY aa s+1))
theorem fV.err(s:ES) (e:Int):fV s {s with e:=e}:=⟨fun _=>rfl,fun _ h=>h⟩
theorem fV.mark(s:ES) (g:List Key) (d:Bool):fV s {s with b:=de s.b g d}:=⟨fun _=>rfl,fun _ h=>zw h⟩
theorem fT(Q:ao aa):∀f,UpK aa val aA f∧ChK aa val aA f∧RuK aa val aA f:=by
 intro f
 induction f with
 | zero=>exact⟨fun s k s' h=>by simp [hY] at h,fun s k n s' b h=>by simp [cm] at h,fun s k r a s' h=>by simp [eG] at h⟩
 | succ f ih=>
  obtain⟨R,E,F⟩:=ih;have gd:=bR (val:=val) (aA:=aA) Q f;refine⟨?_,?_,?_⟩
  ·
   intro s k s' h p hk
   unfold hY at h
   split at h
   ·
    rename_i he
    cases h
    refine⟨.refl _,fun h0=>⟨h0,?_⟩,Nat.le_refl _⟩
    grind
   rename_i he
   have Vb:s.e=0:=by simp at he;exact he.1
   have G:aw k=false:=by simp at he;exact he.2
   split at h
   ·
    rename_i hu
    cases h
    exact⟨.refl _,fun h0=>⟨h0,.inr (by unfold dj;rw [hu];simp)⟩,Nat.le_refl _⟩
   rename_i hu
   split at h
   ·
    rename_i H
    split at h
    ·
     rename_i hc
     cases h
     exact⟨.refl _,fun h0=>⟨h0,.inr (by unfold dj;rw [H,hc];simp)⟩,Nat.le_refl _⟩
    cases h
    exact⟨.err _ _,fun h0=>by simp at h0,Nat.le_refl _⟩
   rename_i H
   have hu':aI s.b k=false:=by simpa using hu
   have Gr:s.on k=false:=by simpa using H
   obtain⟨⟨s2,b2⟩,B,h⟩:=Option.bind_eq_some_iff.1 h;obtain⟨o,ht,h⟩:=Option.bind_eq_some_iff.1 h;simp only [Option.some.injEq] at h;subst h;obtain⟨i,hi,Vc,_⟩:=hk.gx G;obtain⟨I,_⟩:=gd.2.1 _ _ _ _ _ B (p.on k);obtain⟨U,TO,ht2⟩:=E _ _ _ _ _ B (p.on k)
   -- the state before, with k under way
   have h1:eY aa {s with busy:=bZ s.busy k (.bool true)}+1≤eY aa s:=by
    refine q8 (j:=i) (fun j _ y=>?_) hi ?_ ?_
    ·
     simp only [k9,Bool.and_eq_true,Bool.not_eq_true',Bool.or_eq_false_iff] at y ⊢;exact⟨y.1,y.2.2⟩
    ·
     grind
    grind [k9]
   have C:Good aa aA o∧fV s2 o∧(o.e=0→s2.e=0∧aI o.b k=true)∧(o.cz.length+eY aa o≤s2.cz.length+eY aa s2∨(aI o.b k=true∧o.cz.length+eY aa o≤s2.cz.length+eY aa s2+1)):=by
    split at ht
    ·
     obtain⟨a,b,c⟩:=F _ _ _ _ _ ht I (hk.gx G);exact⟨(gd.2.2 _ _ _ _ _ ht I (hk.gx G) rfl (fun a D=>by cases D)).1,a,b,c⟩
    rename_i hb
    simp only [Option.some.injEq] at ht;subst ht;exact⟨I,.refl _,fun h0=>⟨h0,(TO h0).2 (by simpa using hb)⟩,.inl (Nat.le_refl _)⟩
   obtain⟨J,V,he3,ht3⟩:=C
   have N9:∀k',o.on k'=(decide (k=k') || s.on k'):=fun k'=>by rw [V.on,U.on,k9]
   have u:fV s {o with busy:=fI o.busy k}:=⟨fun k'=>by
    rw [zy J.ie,N9]
    grind,fun k' h=>V.up _ (U.up _ h)⟩
   refine⟨u,fun h0=>⟨Vb,.inr ?_⟩,?_⟩
   ·
    have:=(he3 h0).2
    show dj {o with busy:=fI o.busy k} k=true
    unfold dj
    grind
   show o.cz.length+eY aa {o with busy:=fI o.busy k}≤_
   have aeh:s2.cz.length+eY aa s2≤s.cz.length+eY aa {s with busy:=bZ s.busy k (.bool true)}:=ht2
   by_cases hu3:aI o.b k=true
   ·
    have:eY aa {o with busy:=fI o.busy k}≤eY aa o:=q7 fun j _ y=>by
     simp only [zy J.ie,Bool.and_eq_true,Bool.not_eq_true',Bool.and_eq_false_iff] at y ⊢
     grind
    omega
   have z:eY aa {o with busy:=fI o.busy k}≤eY aa o+1:=BB (j:=i) fun j y I1 B=>by
    simp only [zy J.ie,Bool.and_eq_true,Bool.not_eq_true',Bool.and_eq_false_iff] at B ⊢
    grind [dh]
   grind
  ·
   intro s k n s' b h p
   unfold cm at h
   split at h
   ·
    rename_i he
    cases h;exact⟨.refl _,fun h0=>absurd h0 he,Nat.le_refl _⟩
   split at h
   ·
    cases h;exact⟨.refl _,fun h0=>⟨h0,fun hb=>by cases hb⟩,Nat.le_refl _⟩
   rename_i hf
   have W:(az s.b.ah k).isSome=true:=by grind
   split at h
   ·
    rename_i hv
    cases h;exact⟨.refl _,fun h0=>⟨h0,fun _=>by unfold aI;rw [W,hv];simp⟩,Nat.le_refl _⟩
   split at h
   ·
    cases h
    have u:fV s {s with b:=de s.b (aC s.b.ah s.b.ad k) false}:=.mark _ _ _;exact⟨u,fun h0=>⟨h0,fun _=>vj W (zx _ _ _)⟩,Nat.add_le_add_left u.eY _⟩
   rename_i c hc
   split at h
   ·
    obtain⟨t,ht,h⟩:=Option.bind_eq_some_iff.1 h;obtain⟨h1,N,C⟩:=R _ _ _ ht p (fm p hc);obtain⟨O,z,X⟩:=E _ _ _ _ _ h (gd.1 _ _ _ ht p (fm p hc)).1;exact⟨h1.trans O,fun h0=>⟨(N (z h0).1).1,(z h0).2⟩,Nat.le_trans X C⟩
   split at h
   ·
    split at h <;> cases h
    ·
     have u:fV s {s with b:=de s.b (aC s.b.ah s.b.ad k) true}:=.mark _ _ _;exact⟨u,fun h0=>⟨h0,fun hb=>by cases hb⟩,Nat.add_le_add_left u.eY _⟩
    exact⟨.refl _,fun h0=>⟨h0,fun hb=>by cases hb⟩,Nat.le_refl _⟩
   exact E _ _ _ _ _ h p
  intro s k reads ai s' h p D
  unfold eG at h
  split at h
  ·
   rename_i he
   cases h;exact⟨.refl _,fun h0=>absurd h0 he,.inl (Nat.le_refl _)⟩
  rename_i he
  split at h
  ·
   split at h
   ·
    cases h;exact⟨.err _ _,fun h0=>by simp at h0,.inl (Nat.le_refl _)⟩
   cases h
   have u:fV s {s with b:={s.b with ah:=eN s.b.ah (di s.b k (bB aa k ai).value reads)},cz:=s.cz++[k]}:=⟨fun _=>rfl,fun _ h=>Cv rfl h⟩;have hu:aI ({s.b with ah:=eN s.b.ah (di s.b k (bB aa k ai).value reads)}:cW) k=true:=q9 (r:=di s.b k (bB aa k ai).value reads) rfl;refine⟨u,fun h0=>⟨h0,hu⟩,.inr ⟨hu,?_⟩⟩
   have:=u.eY (aa:=aa)
   grind
  rename_i hd
  obtain⟨t,ht,h⟩:=Option.bind_eq_some_iff.1 h;have hn:=D.next Q (by simpa using hd);obtain⟨h1,N,C⟩:=R _ _ _ ht p hn.2;have Y:=(gd.1 _ _ _ ht p hn.2).1
  have h7:fV t s'∧(s'.e=0→t.e=0∧aI s'.b k=true)∧(s'.cz.length+eY aa s'≤t.cz.length+eY aa t∨(aI s'.b k=true∧s'.cz.length+eY aa s'≤t.cz.length+eY aa t+1)):=by
   split at h
   ·
    exact F _ _ _ _ _ h Y (by simpa using hn.1)
   exact F _ _ _ _ _ h Y D
  obtain⟨O,z,X⟩:=h7;refine⟨h1.trans O,fun h0=>⟨(N (z h0).1).1,(z h0).2⟩,?_⟩
  grind
/-! ### more fuel does no harm -/
theorem lg:∀f,(∀s k s',hY aa val f s k=some s'→hY aa val (f+1) s k=some s')∧(∀s k n p,cm aa val f s k n=some p→cm aa val (f+1) s k n=some p)∧(∀s k r a s',eG aa val f s k r a=some s'→eG aa val (f+1) s k r a=some s'):=by
 intro f
 induction f with
 | zero=>grind [hY,cm,eG]
 | succ f o=>
  obtain⟨y,z,B⟩:=o;refine⟨?_,?_,?_⟩
  ·
   intro s k s' h
   unfold hY at h ⊢
   split at h
   ·
    grind
   rename_i h1;rw [if_neg h1]
   split at h
   ·
    grind
   rename_i i;rw [if_neg i]
   split at h
   ·
    grind
   rename_i j;rw [if_neg j]
   obtain⟨p,C,h⟩:=Option.bind_eq_some_iff.1 h;obtain⟨D,ht,h⟩:=Option.bind_eq_some_iff.1 h
   grind
  ·
   intro s k n p h
   unfold cm at h ⊢
   split at h
   ·
    grind
   rename_i h1;rw [if_neg h1]
   split at h
   ·
    grind
   rename_i i;rw [if_neg i]
   split at h
   ·
    grind
   rename_i j;rw [if_neg j]
   split at h
   ·
    exact h
   rename_i c hc
   split at h
   ·
    rename_i u;rw [if_pos u]
    grind [Option.bind_eq_some_iff]
   grind
  intro s k r a s' h
  unfold eG at h ⊢
  split at h
  ·
   grind
  rename_i h1;rw [if_neg h1]
  split at h
  ·
   grind
  rename_i i;rw [if_neg i]
  obtain⟨t,ht,h⟩:=Option.bind_eq_some_iff.1 h
  grind
theorem lJ{f g:Nat}(h:f≤g) {s:ES}{k:Key}{s':ES}(hu:hY aa val f s k=some s'):hY aa val g s k=some s':=by
 induction h with
 | refl=>exact hu
 | step _ a=>exact(lg _).1 _ _ _ a
theorem mP{f g:Nat}(h:f≤g) {s:ES}{k:Key}{n:Nat}{p:ES × Bool}(hu:cm aa val f s k n=some p):cm aa val g s k n=some p:=by
 induction h with
 | refl=>exact hu
 | step _ a=>exact(lg _).2.1 _ _ _ _ a
theorem re{f g:Nat}(h:f≤g) {s:ES}{k:Key}{r:List Key}{a:List ByteArray}{s':ES}(hu:eG aa val f s k r a=some s'):eG aa val g s k r a=some s':=by
 induction h with
 | refl=>exact hu
 | step _ c=>exact(lg _).2.2 _ _ _ _ _ c
/-! ### there is fuel enough -/
theorem zz(C:ao aa) {d:Nat}(F:∀s k,Good aa aA s→eB aa k→off aa s≤d→∃f s',hY aa val f s k=some s') (k:Key) :
  ∀(m:Nat) (s:ES) (n:Nat),eY aa s*200000000+(200000000 - n)≤m→n≤100000000→Good aa aA s→off aa s≤d→∃f p,cm aa val f s k n=some p:=by
 intro m
 induction m using Nat.strongRecOn with
 | _ m D=>
  intro s n hm hn a y
  by_cases h1:s.e≠0
  ·
   exact⟨1,(s,false),by unfold cm;rw [if_pos h1]⟩
  by_cases h:(!(az s.b.ah k).isSome || (aF s.b.ah k).bp)=true
  ·
   exact⟨1,(s,true),by unfold cm;rw [if_neg h1,if_pos h]⟩
  by_cases u:(aF s.b.ah k).av=s.b.ad
  ·
   exact⟨1,(s,false),by unfold cm;grind⟩
  have G:(aC s.b.ah s.b.ad k).length≤4001:=by grind [mO,Good.len]
  have W:=BA a G
  cases hc:(bP s.b.ah (aC s.b.ah s.b.ad k))[n]? with
  | none=>exact⟨1,_,by unfold cm;rw [if_neg h1,if_neg h,if_neg u,hc]⟩
  | some c=>
   have X:n<(bP s.b.ah (aC s.b.ah s.b.ad k)).length:=(List.getElem?_eq_some_iff.1 hc).1
   by_cases z:dj s c.read=false
   ·
    obtain⟨f,t,ht⟩:=F s c.read a (fm a hc) y;obtain⟨B,Y,_⟩:=(fT (val:=val) C f).1 _ _ _ ht a (fm a hc);have H:=((bR (val:=val) C f).1 _ _ _ ht a (fm a hc)).1
    have I:aw c.read=false:=by grind [dj]
    by_cases J:t.e=0
    ·
     obtain⟨i,hi,E,_⟩:=(fm a hc).gx I
     have Pk:dj t c.read=true:=by grind
     have tU:eY aa t+1≤eY aa s:=by
      have N:aI s.b c.read=false:=by grind [dj]
      have hoc:(s.on c.read && aB c.read)=false:=by grind [dj]
      have O:aI t.b c.read=true:=by grind [dj,fV.on]
      have Q:s.on c.read=false:=by
       cases ho:s.on c.read with
       | false=>rfl
       | true=>
        exfalso
        cases f with
        | zero=>simp [hY] at ht
        | succ f=>
         unfold hY at ht
         grind
      refine q8 (j:=i) (fun j _ o=>?_) hi ?_ ?_
      ·
       simp only [Bool.and_eq_true,Bool.not_eq_true'] at o ⊢;rw [B.on] at o;refine⟨?_,o.2⟩
       cases R:aI s.b (aH aa (j:Int)) with
       | false=>rfl
       | true=>rw [B.up _ R] at o;exact absurd o.1 (by simp)
      ·
       rw [← E,N,Q];rfl
      rw [← E,O];rfl
     obtain⟨f2,p,U⟩:=D (eY aa t*200000000+(200000000 - n)) (by omega) t n (Nat.le_refl _) hn H (by rw [B.off];exact y);refine⟨max f f2+1,p,?_⟩
     unfold cm
     rw [if_neg h1,if_neg h,if_neg u,hc]
     simp only
     rw [if_pos z,lJ (Nat.le_max_left _ _) ht]
     grind [mP,Nat.le_max_right]
    refine⟨max f 1+1,(t,false),?_⟩
    unfold cm
    rw [if_neg h1,if_neg h,if_neg u,hc]
    simp only
    rw [if_pos z,lJ (Nat.le_max_left _ _) ht];refine mP (f:=1) (Nat.le_max_right _ _) ?_
    unfold cm
    rw [if_pos J]
   by_cases V:(aF s.b.ah c.eQ).av<aP val s.b c.read
   ·
    exact⟨1,_,by unfold cm;rw [if_neg h1,if_neg h,if_neg u,hc];simp only;rw [if_neg z,if_pos V]⟩
   obtain⟨f2,p,U⟩:=D (eY aa s*200000000+(200000000 - (n+1))) (by omega) s (n+1) (Nat.le_refl _) (by omega) a y;refine⟨f2+1,p,?_⟩
   unfold cm
   grind
theorem Ep(h:ao aa) {d:Nat}(y:∀s k,Good aa aA s→eB aa k→off aa s≤d→∃f s',hY aa val f s k=some s') (k:Key) :
  ∀(m:Nat) (s:ES) (reads:List Key) (ai:List ByteArray),7 - ai.length≤m→Good aa aA s→gh aa k ai.length→off aa s≤d→∃f s',eG aa val f s k reads ai=some s':=by
 intro m
 induction m with
 | zero=>intro s r a hm _ i _;have:=i.le h;omega
 | succ m z=>
  intro s reads ai hm j i p
  by_cases h1:s.e≠0
  ·
   exact⟨1,s,by unfold eG;rw [if_pos h1]⟩
  by_cases c:(bB aa k ai).done=true
  ·
   by_cases u:(!(az s.b.ah k).isSome && decide (4000≤s.b.ah.length))=true
   ·
    exact⟨1,_,by unfold eG;rw [if_neg h1,if_pos c,if_pos u]⟩
   exact⟨1,_,by unfold eG;rw [if_neg h1,if_pos c,if_neg u]⟩
  have hn:=i.next h (by simpa using c);obtain⟨f,t,ht⟩:=y s _ j hn.2 p;obtain⟨B,_,_⟩:=(fT (val:=val) h f).1 _ _ _ ht j hn.2;have C:=((bR (val:=val) h f).1 _ _ _ ht j hn.2).1
  by_cases o:t.e=0
  ·
   obtain⟨f2,s',D⟩:=z t (reads++[(bB aa k ai).ask]) (ai++[dt val t.b (bB aa k ai).ask]) (by simp;omega) C (by simpa using hn.1) (by rw [B.off];exact p);refine⟨max f f2+1,s',?_⟩
   unfold eG
   rw [if_neg h1,if_neg c,lJ (Nat.le_max_left _ _) ht];simp only [Option.bind_some];rw [if_pos o]
   grind [re,Nat.le_max_right]
  refine⟨max f 1+1,t,?_⟩
  unfold eG
  rw [if_neg h1,if_neg c,lJ (Nat.le_max_left _ _) ht];simp only [Option.bind_some];rw [if_neg o];refine re (f:=1) (Nat.le_max_right _ _) ?_
  unfold eG
  rw [if_pos o]
theorem G7(h:ao aa):∀(d:Nat) (s:ES) (k:Key),Good aa aA s→eB aa k→off aa s≤d→∃f s',hY aa val f s k=some s':=by
 intro d
 induction d with
 | zero=>
  intro s k o hk D
  by_cases h1:s.e≠0∨aw k=true
  ·
   exact⟨1,s,by unfold hY;rw [if_pos h1]⟩
  by_cases a:aI s.b k=true
  ·
   exact⟨1,s,by unfold hY;rw [if_neg h1,if_pos a]⟩
  by_cases c:s.on k=true
  ·
   by_cases p:aB k=true
   ·
    exact⟨1,s,by unfold hY;grind⟩
   exact⟨1,_,by unfold hY;rw [if_neg h1,if_neg a,if_pos c,if_neg p]⟩
  exfalso
  obtain⟨i,hi,u,_⟩:=hk.gx (by simp at h1;exact h1.2)
  have:off aa {s with busy:=bZ s.busy k (.bool true)}+1≤off aa s:=by
   refine q8 (j:=i) (fun j _ E=>?_) hi ?_ ?_
   ·
    grind [k9]
   ·
    rw [← u];simpa using c
   grind [k9]
  omega
 | succ d z=>
  intro s k o hk D
  by_cases h1:s.e≠0∨aw k=true
  ·
   exact⟨1,s,by unfold hY;rw [if_pos h1]⟩
  by_cases a:aI s.b k=true
  ·
   exact⟨1,s,by unfold hY;rw [if_neg h1,if_pos a]⟩
  by_cases c:s.on k=true
  ·
   by_cases p:aB k=true
   ·
    exact⟨1,s,by unfold hY;grind⟩
   exact⟨1,_,by unfold hY;rw [if_neg h1,if_neg a,if_pos c,if_neg p]⟩
  have B:aw k=false:=by simp at h1;exact h1.2
  obtain⟨i,hi,u,_⟩:=hk.gx B
  have H:off aa {s with busy:=bZ s.busy k (.bool true)}+1≤off aa s:=by
   refine q8 (j:=i) (fun j _ E=>?_) hi ?_ ?_
   ·
    grind [k9]
   ·
    rw [← u];simpa using c
   grind [k9]
  obtain⟨f,⟨s2,b2⟩,y⟩:=zz (val:=val) h z k _ {s with busy:=bZ s.busy k (.bool true)} 0 (Nat.le_refl _) (by omega) (o.on k) (by omega);have F:=((bR (val:=val) h f).2.1 _ _ _ _ _ y (o.on k)).1;have G:=((fT (val:=val) h f).2.1 _ _ _ _ _ y (o.on k)).1
  cases b2 with
  | false=>
   refine⟨f+1,{s2 with busy:=fI s2.busy k},?_⟩
   unfold hY
   grind
  | true=>
   obtain⟨f2,C,I⟩:=Ep (val:=val) h z k _ s2 [] [] (Nat.le_refl _) F (hk.gx B) (by rw [G.off];omega);refine⟨max f f2+1,{C with busy:=fI C.busy k},?_⟩
   unfold hY
   rw [if_neg h1,if_neg a,if_neg c,mP (Nat.le_max_left _ _) y];simp only [Option.bind_some,if_true]
   grind [re,Nat.le_max_right]
end
end Go.Rc

namespace Go.Rc
open Go
noncomputable def cI(aa:List aD) (val:Key→ByteArray) (f:Nat):ES→List Key→Option ES
 | s,[]=>some s
 | s,k::r=>(hY aa val f s k).bind fun t=>cI aa val f t r
def ES.base(s:ES) (x:cW):cW:=if s.e=0 then s.b else x
noncomputable def ES.list(s:ES):List Key:=if s.e=0 then gP s.cz else []
theorem mQ{aa:List aD}{aA:List cj}{val:Key→ByteArray}(c:ao aa) {f:Nat}:∀{l:List Key}{s s':ES},cI aa val f s l=some s'→Good aa aA s→(∀k∈l,eB aa k)→Good aa aA s'∧Bx s s'
 | [],s,s',h,a,_=>by simp only [cI,Option.some.injEq] at h;subst h;exact⟨a,.refl _⟩
 | k::r,s,s',h,a,hk=>by
  simp only [cI] at h;obtain⟨t,h1,o⟩:=Option.bind_eq_some_iff.1 h;have i:=(bR (val:=val) c f).1 _ _ _ h1 a (hk k (by simp))
  have j:=mQ c o i.1 fun k p=>hk k (by simp [p])
  exact⟨j.1,i.2.trans j.2⟩
theorem St.Vd{κ:Type}{enc:κ→Value}{w0 w:World}{M Z:Nat→Prop}{l:List As}{s m T:Nat}{cs:List Value}{q:List (κ × Value)}(h:St w0 M Z w (As.blk s T cs::As.map enc m q::l)):s≠m:=fun e=>by
 have h1:=(List.pairwise_cons.1 h.pd).1 (As.map enc m q) (by simp) s rfl;exact h1 e
end Go.Rc

namespace Go.Rc
open Go
/-! ### the order of keys -/
theorem ud:∀a b:List UInt8,Lib.compareBytes b a = - Lib.compareBytes a b
 | [],[]=>rfl
 | [],_::_=>rfl
 | _::_,[]=>rfl
 | x::a,y::b=>by
  simp only [Lib.compareBytes]
  by_cases h1:x<y
  ·
   grind
  by_cases c:y<x
  ·
   grind
  rw [if_neg c,if_neg h1,if_neg h1,if_neg c,ud a b]
theorem rf:∀a b c:List UInt8,Lib.compareBytes a b<0→Lib.compareBytes b c<0→Lib.compareBytes a c<0
 | _,[],[],_,h=>by simp [Lib.compareBytes] at h
 | [],[],_::_,h,_=>by simp [Lib.compareBytes] at h
 | _::_,[],_::_,h,_=>by simp [Lib.compareBytes] at h
 | _,_::_,[],_,h=>by simp [Lib.compareBytes] at h
 | [],_::_,_::_,_,_=>by simp [Lib.compareBytes]
 | x::a,y::b,z::c,h1,f=>by
  simp only [Lib.compareBytes] at h1 f ⊢
  by_cases e1:x<y
  ·
   grind
  rw [if_neg e1] at h1
  by_cases e3:y<x
  ·
   rw [if_pos e3] at h1;simp at h1
  rw [if_neg e3] at h1
  by_cases e2:y<z
  ·
   grind
  rw [if_neg e2] at f
  by_cases e4:z<y
  ·
   rw [if_pos e4] at f;simp at f
  rw [if_neg e4] at f;rw [if_neg (by grind),if_neg (by grind)];exact rf a b c h1 f
theorem gE(a b:Key):bl b a = - bl a b:=by
 unfold bl
 by_cases h1:a.kind<b.kind
 ·
  grind
 by_cases c:b.kind<a.kind
 ·
  grind
 rw [if_neg c,if_neg h1,if_neg h1,if_neg c,ud]
theorem fN{a b c:Key}(h1:bl a b<0) (f:bl b c<0):bl a c<0:=by
 unfold bl at h1 f ⊢
 by_cases e1:a.kind<b.kind
 ·
  grind
 rw [if_neg e1] at h1
 by_cases e4:b.kind<a.kind
 ·
  rw [if_pos e4] at h1;simp at h1
 rw [if_neg e4] at h1
 by_cases e2:b.kind<c.kind
 ·
  rw [if_pos (by omega)];decide
 rw [if_neg e2] at f
 by_cases e3:c.kind<b.kind
 ·
  rw [if_pos e3] at f;simp at f
 rw [if_neg e3] at f;rw [if_neg (by omega),if_neg (by omega)];exact rf _ _ _ h1 f
def pX(l:List Rec):Prop:=l.Pairwise fun a b=>bl a.key b.key<0
theorem rh(r:Rec):∀l:List Rec,dH r l true=l.filter fun x=>!decide (bl x.key r.key=0)
 | []=>rfl
 | x::xs=>by
  simp only [dH,Bool.not_true,Bool.and_false,Bool.false_eq_true,if_false,Bool.true_or,List.nil_append,rh r xs,List.filter_cons]
  grind
theorem pX.put{r:Rec}:∀{l:List Rec},pX l→pX (eN l r)
 | [],_=>by simp [pX,eN,dH]
 | x::xs,h=>by
  obtain⟨h1,a⟩:=List.pairwise_cons.1 h;have f:pX (eN xs r):=pX.put a;have c:pX (xs.filter fun y=>!decide (bl y.key r.key=0)):=List.Pairwise.filter _ a
  show pX (dH r (x::xs) false)
  simp only [dH,Bool.not_false,Bool.and_true,Bool.false_or]
  by_cases c1:bl x.key r.key<0
  ·
   rw [decide_eq_false (show ¬0≤bl x.key r.key by omega),if_neg (show ¬bl x.key r.key=0 by omega)];simp only [Bool.false_eq_true,if_false,List.nil_append,List.singleton_append];refine List.pairwise_cons.2 ⟨fun y hy=>?_,f⟩
   grind [eW]
  rw [decide_eq_true (show 0≤bl x.key r.key by omega),rh];simp only [if_true]
  by_cases c2:bl x.key r.key=0
  ·
   rw [if_pos c2];simp only [List.append_nil,List.singleton_append];refine List.pairwise_cons.2 ⟨fun y hy=>?_,c⟩
   grind [j3]
  rw [if_neg c2];simp only [List.singleton_append,List.cons_append]
  have c3:bl r.key x.key<0:=by rw [gE x.key r.key];omega
  refine List.pairwise_cons.2 ⟨fun y hy=>?_,List.pairwise_cons.2 ⟨fun y hy=>h1 y (List.mem_filter.1 hy).1,c⟩⟩
  grind [fN]
theorem pX.kT{l:List Rec}(h:pX l) (hn:l.length≤4000) (c:∀r∈l,dI r=true):kT l:=by
 refine⟨hn,fun i x a=>⟨c x (List.mem_of_getElem? a),fun hi=>?_⟩⟩;obtain⟨hl,rfl⟩:=List.getElem?_eq_some_iff.1 a;rw [getElem!_pos l (i - 1) (by omega)];exact List.pairwise_iff_getElem.1 h (i - 1) i (by omega) hl (by omega)
/-! ### values are short -/
section
variable {aa:List aD}{aA:List cj}
theorem ue{n:Nat}(h:n≤65535):(itoa (n:Int)).size≤6:=by
 have e:Lib.itoa (n:Int)=Lib.decDigits n:=by unfold Lib.itoa;rw [if_neg (by omega)];rfl
 grind [itoa,Lib.decDigits,ByteArray.size]
theorem zA(a:ao aa) {i:Nat}(hi:i<aa.length):∃n:Nat,n≤65535∧valOf aa aA (aH aa (i:Int))=itoa (n:Int):=by
 have h1:=fL (aA:=aA) a hi;rw [eU a hi (ed _ _ _).2] at h1;have hc:=ao.hb a _ (List.getElem_mem hi);refine⟨_,lG (kind:=aa[i].final) (c:=aa[i].c.toNat) (l:=(dG (ca aa (aH aa (i:Int))) (valOf aa aA) (cy aa i)).2.map cc) (by omega) (fun x f=>?_),?_⟩
 ·
  grind [iU]
 grind
theorem Er(a:ao aa) {i:Nat}(hi:aa.length≤i):pW aa aA i=⟨#[]⟩:=by
 have hk:aH aa (i:Int)=bO:=by unfold aH;rw [if_pos (by omega)]
 unfold pW nH
 rw [if_neg (by rw [jR hi];simp),hk]
 unfold ca
 rw [if_pos (.inl (by unfold number bO;simp))]
theorem zB(a:ao aa) (hi:∀x∈aA,x.value.size≤1000) (k:Key):(valOf aa aA k).size≤1000:=by
 by_cases hk:aw k=true
 ·
  unfold valOf cellOf
  rw [if_pos hk]
  unfold bs
  cases c:aA.find? fun x=>x.key == k with
  | none=>simp [ByteArray.size]
  | some x=>grind
 have e:valOf aa aA k=pW aa aA (number k).toNat:=by unfold valOf;rw [if_neg hk]
 rw [e]
 rcases Nat.lt_or_ge (number k).toNat aa.length with h | h
 ·
  rw [← fx a h];obtain⟨n,hn,f⟩:=zA (aA:=aA) a h
  grind [ue]
 grind [Er,ByteArray.size]
theorem mR(aa:List aD) (aA:List cj) (i:Nat):(cO aa aA i).length=cy aa i:=(ed _ _ _).1
theorem mS(f:ao aa) {i:Nat}(hi:i<aa.length):∀a∈cO aa aA i,dJ aa i a:=by
 have key:∀n,n≤cy aa i→∀a∈(dG (ca aa (aH aa (i:Int))) (valOf aa aA) n).1,dJ aa i a:=by
  intro n
  induction n with
  | zero=>intro _ a c;simp [dG] at c
  | succ n h=>grind [dG,da,ed]
 exact key _ (Nat.le_refl _)
theorem eB.valid{k:Key}(h:eB aa k):el k=true:=by
 cases h with
 | cell h=>
  rename_i n
  have hc:bz (n:Int)=⟨30,itoa (n:Int)⟩:=by unfold bz;rw [if_neg (by omega)]
  rw [hc]
  unfold el number
  simp only [];rw [if_pos (by omega)]
  grind [ij]
 | eF h gq=>
  rename_i i
  have h1:=bG h gq;have a:=dA h gq
  unfold el
  grind
end
section
variable {aa:List aD}{aA:List cj}{s t:ES}{k:Key}
theorem aO{l:List Rec}{r:Rec}(h:az l k=some r):r∈l∧r.key=k:=by grind [az]
def j4(aa:List aD) (j:Nat):Nat:=if ax aa j then ba aa j else j
def Lw(aa:List aD) (i b:Nat):Prop:=if ax aa i then ba aa i≤b else i<b
def Ve(aa:List aD) (s:ES) (i:Nat):Prop:=∀j:Nat,j<aa.length→s.on (aH aa (j:Int))=true→Lw aa i (j4 aa j)
def Oa(aa:List aD) (s:ES) (i:Nat):Prop:=∀j:Nat,j<aa.length→s.on (aH aa (j:Int))=true→j=i∨Lw aa i (j4 aa j)
theorem BD(c:ao aa) {i:Nat}(hi:i<aa.length) {ai:List ByteArray}(hn:ai.length<cy aa i) :
  ∃a,ca aa (aH aa (i:Int)) ai=⟨false,⟨#[]⟩,a⟩∧dJ aa i a∧∀m:Nat,m<aa.length→a=aH aa (m:Int)→Lw aa m (j4 aa i)∧∀b,Lw aa i b→Lw aa m b:=by
 have G:=c.len;obtain⟨a,h1,f,j⟩:=da c hi hn;refine⟨a,h1,f,fun m hm o=>?_⟩;have hb:=ew aa m
 cases hr:ax aa i with
 | false=>
  have H:m<i:=by
   rcases f with⟨n,h,rfl⟩ | ⟨p,h,rfl,_,u,_⟩
   ·
    grind [aN,bX]
   grind [dh]
  unfold Lw j4
  grind
 | true=>
  unfold Lw j4
  rw [hr];simp only [if_true]
  cases I:ax aa m with
  | false=>
   have J:m<ba aa i:=by
    rcases f with⟨n,h,rfl⟩ | ⟨p,h,rfl,_,_,_,u⟩
    ·
     grind [aN,bX]
    grind [dh]
   grind
  | true=>
   obtain⟨x,y,z⟩:=j hr;have B:=List.mem_of_getElem? y
   have C:outside aa x=false:=by grind [gA,bd]
   obtain⟨N,D,E,F⟩:=fK c hi hr B C
   have:=dh c F hm (E.symm.trans (z.symm.trans o))
   subst this;have O:=iD c (cv.step cv.refl D)
   grind
end
end Go.Rc

namespace Go.Rc
open Go
theorem eS(x:Rec):dI x=true↔(∀a∈x.reads,el a=true)∧el x.key=true∧aw x.key=false∧(x.value.size:Int)≤1073741824∧(x.reads.length:Int)≤4000∧0≤x.changed∧x.changed≤x.av∧x.av≤1073741824∧1≤x.cost∧x.cost≤1073741824∧(x.bp=false∨aB x.key=true):=by
 unfold dI eO
 grind
structure uf (s:ES):Prop where
 st:pX s.b.ah
 v:∀r∈s.b.ah,dI r=true∧r.av≤s.b.ad
 r0:0≤s.b.ad
 r1:s.b.ad≤1073741824
section
variable {aa:List aD}{aA:List cj}{val:Key→ByteArray}{s t:ES}{k:Key}
theorem pX.map{l:List Rec}(h:pX l) {f:Rec→Rec}(a:∀r,(f r).key=r.key):pX (l.map f):=by grind [pX]
theorem uf.Pl(h:uf s) (g:List Key):uf {s with b:=de s.b g false}:=by
 refine⟨h.st.map fun r=>(cn _ _ _ r).1,fun r hr=>?_,h.r0,h.r1⟩;obtain⟨q,o,rfl⟩:=List.mem_map.1 hr;obtain⟨h1,p⟩:=h.v q o;have h0:=h.r0;have u:=h.r1
 unfold bK
 by_cases hk:q.key∈g
 ·
  rw [if_pos hk];simp only [Bool.false_eq_true,if_false];rw [eS] at h1 ⊢;obtain⟨a,b,c,d,e,f,g,i,j,k,l⟩:=h1;exact⟨⟨a,b,c,d,e,f,by grind,u,j,k,l⟩,Int.le_refl _⟩
 rw [if_neg hk];exact⟨h1,p⟩
theorem uf.Pm(h:uf s) {g:List Key}(hc:∀x∈g,aB x=true):uf {s with b:=de s.b g true}:=by
 refine⟨h.st.map fun r=>(cn _ _ _ r).1,fun r hr=>?_,h.r0,h.r1⟩;obtain⟨q,p,rfl⟩:=List.mem_map.1 hr;obtain⟨h1,o⟩:=h.v q p
 unfold bK
 by_cases hk:q.key∈g
 ·
  rw [if_pos hk];simp only [if_true];rw [eS] at h1 ⊢;obtain⟨a,b,c,d,e,f,g,i,j,k,l⟩:=h1;exact⟨⟨a,b,c,d,e,f,g,i,j,k,.inr (hc _ hk)⟩,o⟩
 rw [if_neg hk];exact⟨h1,o⟩
theorem zC{l:List Rec}{rev:Int}(hk:aB k=true):∀x∈aC l rev k,aB x=true:=fun x a=>by
 unfold aC at a
 split at a
 ·
  rw [iz,List.mem_cons] at a
  rcases a with rfl | a
  ·
   exact hk
  obtain⟨r,hr,rfl⟩:=List.mem_map.1 a
  have:=(List.mem_filter.1 hr).2
  unfold xC at this
  simp only [Bool.and_eq_true] at this;have c:=(iF.1 this.2.1).eY
  unfold bD at c
  grind
 grind
theorem uf.put(h:uf s) {r:Rec}{cz:List Key}(c:dI r=true) (hr:r.av≤s.b.ad):uf {s with b:={s.b with ah:=eN s.b.ah r},cz:=cz}:=
 ⟨h.st.put,fun q a=>by rcases eW _ _ _ _ a with rfl | a;exact⟨c,hr⟩;exact h.v q a,h.r0,h.r1⟩
theorem Cw(a:ao aa) {ai:List ByteArray}(h:gh aa k ai.length) (c:(bB aa k ai).done=true):(bB aa k ai).value.size≤6:=by
 obtain⟨i,hi,rfl,hn⟩:=h;have f:=a.len;rw [ey hi (by omega)] at c ⊢
 rcases Nat.lt_or_ge ai.length (cy aa i) with j | o
 ·
  grind [da]
 rw [eU a hi (by omega)];have hc:=ao.hb a _ (List.getElem_mem hi);exact ue (lG (by omega) fun x p=>by grind [iU])
theorem zD(f:ao aa) (h:uf s) {ai:List ByteArray}{reads:List Key}(i:gh aa k ai.length) (u:(bB aa k ai).done=true) (hl:reads.length=ai.length) (hr:∀a∈reads,eB aa a) :
  dI (di s.b k (bB aa k ai).value reads)=true:=by
 have B:=i.le f;have C:=Cw f i u;have h0:=h.r0;have h1:=h.r1;rw [eS]
 unfold di
 have y:∀c:Int,(c=if (az s.b.ah k).isSome && decide ((aF s.b.ah k).value=(bB aa k ai).value) then (aF s.b.ah k).changed else s.b.ad)→0≤c∧c≤s.b.ad:=fun c hc=>by
  split at hc
  ·
   rename_i j
   simp only [Bool.and_eq_true] at j;obtain⟨r,z⟩:=Option.isSome_iff_exists.1 j.1;have hm:=(aO z).1;obtain⟨o,p⟩:=h.v r hm
   grind [eS,aF]
  omega
 obtain⟨o,p⟩:=y _ rfl;exact⟨fun a hm=>(hr a hm).valid,(i.vf f).valid,(i.not f).2,by grind,by grind,o,p,h1,by grind,by grind,.inl rfl⟩
def UpO(aa:List aD) (val:Key→ByteArray) (aA:List cj) (f:Nat):Prop:=∀s k s',hY aa val f s k=some s'→Good aa aA s→uf s→eB aa k→uf s'
def ChO(aa:List aD) (val:Key→ByteArray) (aA:List cj) (f:Nat):Prop:=∀s k n s' b,cm aa val f s k n=some (s',b)→Good aa aA s→uf s→uf s'
def RuO(aa:List aD) (val:Key→ByteArray) (aA:List cj) (f:Nat):Prop:=∀s k reads ai s',eG aa val f s k reads ai=some s'→Good aa aA s→uf s→gh aa k ai.length→reads.length=ai.length→(∀a∈reads,eB aa a)→uf s'
theorem Cx(z:ao aa):∀f,UpO aa val aA f∧ChO aa val aA f∧RuO aa val aA f:=by
 intro f
 induction f with
 | zero=>exact⟨fun s k s' h=>by simp [hY] at h,fun s k n s' b h=>by simp [cm] at h,fun s k r a s' h=>by simp [eG] at h⟩
 | succ f G=>
  obtain⟨E,B,C⟩:=G;have gd:=bR (val:=val) (aA:=aA) z f;refine⟨?_,?_,?_⟩
  ·
   intro s k s' h j i hk
   unfold hY at h
   split at h
   ·
    cases h;exact i
   rename_i he
   split at h
   ·
    cases h;exact i
   split at h
   ·
    split at h <;> cases h
    ·
     exact i
    exact⟨i.st,i.v,i.r0,i.r1⟩
   obtain⟨p,F,h⟩:=Option.bind_eq_some_iff.1 h;obtain⟨t,ht,h⟩:=Option.bind_eq_some_iff.1 h
   cases h
   have h1:=B _ _ _ p.1 p.2 (by rw [F]) (j.on k) ⟨i.st,i.v,i.r0,i.r1⟩;have u:=(gd.2.1 _ _ _ p.1 p.2 (by rw [F]) (j.on k)).1
   have y:uf t:=by
    split at ht
    ·
     exact C _ _ _ _ _ ht u h1 (hk.gx (by simp at he;exact he.2)) rfl (fun a o=>by cases o)
    cases ht;exact h1
   exact⟨y.st,y.v,y.r0,y.r1⟩
  ·
   intro s k n s' b h j i
   unfold cm at h
   split at h
   ·
    cases h;exact i
   split at h
   ·
    cases h;exact i
   split at h
   ·
    cases h;exact i
   split at h
   ·
    cases h;exact i.Pl _
   rename_i c hc
   split at h
   ·
    obtain⟨t,ht,h⟩:=Option.bind_eq_some_iff.1 h;have h1:=E _ _ _ ht j i (fm j hc);exact B _ _ _ _ _ h (gd.1 _ _ _ ht j (fm j hc)).1 h1
   split at h
   ·
    split at h
    ·
     rename_i H
     cases h
     exact i.Pm (zC H)
    cases h;exact i
   exact B _ _ _ _ _ h j i
  intro s k reads ai s' h j i o hl hr
  unfold eG at h
  split at h
  ·
   cases h;exact i
  split at h
  ·
   rename_i D
   split at h
   ·
    cases h;exact⟨i.st,i.v,i.r0,i.r1⟩
   cases h
   exact i.put (zD z i o D hl hr) (Int.le_refl _)
  rename_i D
  obtain⟨t,ht,h⟩:=Option.bind_eq_some_iff.1 h;have hn:=o.next z (by simpa using D);have h1:=E _ _ _ ht j i hn.2;have u:=(gd.1 _ _ _ ht j hn.2).1
  split at h
  ·
   exact C _ _ _ _ _ h u h1 (by simpa using hn.1) (by simp [hl]) (fun a o=>by grind)
  exact C _ _ _ _ _ h u h1 o hl hr
theorem xG(a:ao aa) {f:Nat}:∀{l:List Key}{s s':ES},cI aa val f s l=some s'→Good aa aA s→uf s→(∀k∈l,eB aa k)→uf s'
 | [],s,s',h,_,c,_=>by grind [cI]
 | k::r,s,s',h,i,c,hk=>by
  simp only [cI] at h;obtain⟨t,h1,j⟩:=Option.bind_eq_some_iff.1 h
  exact xG a j ((bR (val:=val) a f).1 _ _ _ h1 i (hk k (by simp))).1 ((Cx a f).1 _ _ _ h1 i c (hk k (by simp))) fun k o=>hk k (by simp [o])
end
end Go.Rc

namespace Go.Rc
open Go
theorem zF{α:Type}{R:α→α→Prop}(ht:∀a b c,R a b→R b c→R a c) {l:List α}(h:∀(i:Nat) (hi:i+1<l.length),R (l[i]'(by omega)) l[i+1]):l.Pairwise R:=by
 refine List.pairwise_iff_getElem.2 fun i j hi f o=>?_;obtain⟨d,rfl⟩:∃d,j=i+1+d:=⟨j - (i+1),by omega⟩
 induction d with
 | zero=>exact h i f
 | succ d p=>grind
def pY(l:List cj):Prop:=l.Pairwise fun a b=>bl a.key b.key<0
def G8(rev:Int) (x:cj):Prop:=el x.key=true∧aw x.key=true∧(x.value.size:Int)≤1073741824∧0≤x.changed∧x.changed≤rev
theorem zG{rev:Int}{l:List cj}:ve rev l↔pY l∧∀x∈l,G8 rev x:=by
 constructor
 ·
  intro h
  have h1:∀(i:Nat) (hi:i<l.length),G8 rev l[i]∧(0<i→bl (l[i - 1]!).key l[i].key<0):=fun i hi=>by
   have j:=h i _ (ae hi)
   unfold fJ at j
   simp only [getElem!_pos l i hi,Bool.or_eq_false_iff,Bool.not_eq_false',Bool.and_eq_false_iff,decide_eq_false_iff_not] at j;obtain⟨a,b,c,d,e,f⟩:=j;exact⟨⟨a,b,by omega,by omega,by omega⟩,fun h0=>by rcases c with c | c <;> omega⟩
  refine⟨zF (R:=fun a b:cj=>bl a.key b.key<0) (fun a b c h k=>fN h k) fun i hi=>?_,fun x o=>?_⟩
  ·
   grind
  grind [List.mem_iff_getElem]
 rintro⟨h1,j⟩ i y hy;obtain⟨hi,rfl⟩:=List.getElem?_eq_some_iff.1 hy;obtain⟨a,b,c,d,e⟩:=j _ (List.getElem_mem hi)
 unfold fJ
 simp only [getElem!_pos l i hi,Bool.or_eq_false_iff,Bool.not_eq_false',Bool.and_eq_false_iff,decide_eq_false_iff_not];refine⟨a,b,?_,by omega,by omega,by omega⟩
 by_cases h0:0<i
 ·
  right
  rw [getElem!_pos l (i - 1) (by omega)]
  have:=List.pairwise_iff_getElem.1 h1 (i - 1) i (by omega) hi (by omega)
  omega
 left
 omega
def eK(n:cj):List cj→Bool→List cj
 | [],put=>if put then [] else [n]
 | x::xs,put=>(if decide (0≤bl x.key n.key) && !put then [n] else [])++(if bl x.key n.key=0 then [] else [x])++eK n xs (put || decide (0≤bl x.key n.key))
theorem rj(n:cj):∀(l:List cj) (b:Bool) (x:cj),x∈eK n l b→x=n∨x∈l:=by
 intro l
 induction l with
 | nil=>grind [eK]
 | cons y a c=>grind [eK]
theorem oA(n:cj):∀l:List cj,eK n l true=l.filter fun x=>!decide (bl x.key n.key=0)
 | []=>rfl
 | x::xs=>by
  simp only [eK,Bool.not_true,Bool.and_false,Bool.false_eq_true,if_false,Bool.true_or,List.nil_append,oA n xs,List.filter_cons]
  grind
theorem lh(n:cj):∀(l:List cj) (b:Bool),(eK n l b).length≤l.length+1
 | [],b=>by cases b <;> simp [eK]
 | x::xs,b=>by
  by_cases h:(decide (0≤bl x.key n.key) && !b)=true
  ·
   have hb:(b || decide (0≤bl x.key n.key))=true:=by simp at h;simp [h.1]
   simp only [eK,List.length_append,List.length_cons];rw [if_pos h,hb,oA]
   grind
  have a:=lh n xs (b || decide (0≤bl x.key n.key));simp only [eK,List.length_append,List.length_cons]
  grind
theorem pY.put{n:cj}:∀{l:List cj},pY l→pY (eK n l false)
 | [],_=>by simp [pY,eK]
 | x::xs,h=>by
  obtain⟨h1,a⟩:=List.pairwise_cons.1 h;have f:pY (eK n xs false):=pY.put a;have c:pY (xs.filter fun y=>!decide (bl y.key n.key=0)):=List.Pairwise.filter _ a
  show pY (eK n (x::xs) false)
  simp only [eK,Bool.not_false,Bool.and_true,Bool.false_or]
  by_cases c1:bl x.key n.key<0
  ·
   rw [decide_eq_false (show ¬0≤bl x.key n.key by omega),if_neg (show ¬bl x.key n.key=0 by omega)];simp only [Bool.false_eq_true,if_false,List.nil_append,List.singleton_append];refine List.pairwise_cons.2 ⟨fun y hy=>?_,f⟩
   grind [rj]
  rw [decide_eq_true (show 0≤bl x.key n.key by omega),oA];simp only [if_true]
  by_cases c2:bl x.key n.key=0
  ·
   rw [if_pos c2];simp only [List.append_nil,List.singleton_append];refine List.pairwise_cons.2 ⟨fun y hy=>?_,c⟩
   grind [j3]
  rw [if_neg c2];simp only [List.singleton_append,List.cons_append]
  have c3:bl n.key x.key<0:=by rw [gE x.key n.key];omega
  refine List.pairwise_cons.2 ⟨fun y hy=>?_,List.pairwise_cons.2 ⟨fun y hy=>h1 y (List.mem_filter.1 hy).1,c⟩⟩
  grind [fN]
end Go.Rc

namespace Go.Rc
open Go
end Go.Rc
namespace Go.Rc
open Go
def Vf(i:Nat) (v:ByteArray):Rec:=⟨⟨31,itoa i⟩,v,[],0,0,1,false⟩
def ug{α:Type}(l:List α) (p:α→Bool) (j:Int):Prop:=(∃i:Nat,∃x,l[i]?=some x∧p x=true∧(∀j x,j<i→l[j]?=some x→p x=false)∧j=i)∨((∀x∈l,p x=false)∧j = -1)
end Go.Rc
namespace Go.Rc
open Go
structure WD where
 (ar a1 a2:Option Addr) (r cr n1 c1 n2 c2 m v:Nat)
end Go.Rc

namespace Go.Rc
open Go
def sT(a b:Int):Int:=if a<b then -1 else if b<a then 1 else 0
def KA(l:List Int):Int:=(l.find? fun x=>decide (x≠0)).getD 0
theorem KB{l:List Int}{i:Nat}(hi:i<l.length) (a:∀j x,j<i→l[j]?=some x→x=0) (h:l[i]≠0):KA l=l[i]:=by grind [KA,gN]
theorem G9{l:List Int}(h:∀x∈l,x=0):KA l=0:=by grind [KA,List.find?_eq_none]
theorem Ha{a b:Key}:KA [sT a.kind b.kind,Lib.compareBytes a.text.data.toList b.text.data.toList]=bl a b:=by
 unfold KA sT bl
 grind
theorem xH{α:Type}{R:α→List Value→Prop}{x y:α}{r s:List Value}(h1:R x r) (a:R y s):∀(i:Nat) (z:α) (t:List Value),[x,y][i]?=some z→[r,s][i]?=some t→R z t:=fun i z t c ht=>by grind
theorem eB.shape{aa:List aD}{k:Key}(h:eB aa k):∃i:Nat,i≤99∧k.text=itoa i∧(30≤k.kind∧k.kind≤32):=by
 cases h with
 | cell h=>rename_i n;exact⟨n,h,by unfold bz;rw [if_neg (by omega)],by unfold bz;rw [if_neg (by omega)];simp⟩
 | eF h gq=>rename_i i;exact⟨i,gq,by unfold aH;rw [if_neg (by omega)],by grind [dA]⟩
theorem eB.eP{aa:List aD}{k:Key}(h:eB aa k):eP k:=by
 obtain⟨_,_,_,h1⟩:=h.shape;exact .inr (by omega)
theorem nK{aa:List aD}{k:Key}(h:eB aa k) (hc:aB k=true):k.kind=32:=by
 cases h with
 | cell h=>grind [iB]
 | eF h gq=>grind [bd,dA]
theorem ug.any{α:Type}{l:List α}{p:α→Bool}{j:Int}(h:ug l p j):decide (0≤j)=l.any p:=by
 rcases h with⟨i,x,h1,a,_,rfl⟩ | ⟨h1,rfl⟩
 ·
  grind
 grind
def Es(aa:List aD) (x:Rec):Prop:=eB aa x.key∧aw x.key=false∧(∀a∈x.reads,eB aa a)∧dI x=true
def lj(aa:List aD) (x:cW):Prop:=0≤x.ad∧x.ad≤1073741824∧(pY x.ab∧∀y∈x.ab,G8 x.ad y)∧(∀y∈x.ab,∃i:Nat,i≤99∧y.key=⟨30,itoa i⟩)∧x.ab.length≤64∧(∀r∈x.ah,Es aa r)∧pX x.ah∧x.ah.length≤4000∧∀r∈x.ah,r.av≤x.ad
end Go.Rc

namespace Go.Rc
open Go
section
variable {l l':List aD}
def bL(l l':List aD):Prop:=l.map (·.ring)=l'.map (·.ring)
theorem bL.len(h:bL l l'):l.length=l'.length:=by simpa using congrArg List.length h
theorem bL.rg(h:bL l l') (i:Nat):ax l i=ax l' i:=by
 have a:=congrArg (fun x=>x[i]?) h
 grind [ax]
theorem bL.lo(h:bL l l'):∀k,ba l k=ba l' k
 | 0=>rfl
 | k+1=>by unfold ba;rw [h.rg k,h.lo k]
theorem kp:∀{l l':List aD},bL l l'→(l.takeWhile (·.ring)).length=(l'.takeWhile (·.ring)).length
 | [],[],_=>rfl
 | [],_::_,h=>by simp [bL] at h
 | _::_,[],h=>by simp [bL] at h
 | x::r,y::s,h=>by
  simp only [bL,List.map_cons,List.cons.injEq] at h;have a:=kp (l:=r) (l':=s) h.2
  grind [List.takeWhile_cons]
theorem bL.hi(h:bL l l') (m:Nat):cU l m=cU l' m:=by grind [cU,kp,bL,List.map_drop]
theorem bL.block(h:bL l l') (n:Int):block l n=block l' n:=by
 unfold Go.Rc.block
 rw [h.len,h.rg,h.lo,h.hi]
theorem bL.may(h:bL l l') (i:Nat) (c:Bool) (n:Int):eT l i c n=eT l' i c n:=by grind [eT,ep,rg,block]
theorem bL.ask(h:bL l l') (i:Nat) (g:Bool) (k:Nat) (x:Ask):dY l i g k x=dY l' i g k x:=by
 unfold dY
 rw [h.may,h.may]
theorem bL.eF(h:bL l l') (i:Nat) (r:aD):jU l i r↔jU l' i r:=by
 unfold jU
 simp only [h.ask]
theorem bL.set{i:Nat}(hi:i<l.length) {r:aD}(hr:r.ring=ax l i):bL (l.set i r) l:=by
 unfold bL
 rw [List.map_set,hr,bE hi];refine List.ext_getElem? fun j=>?_
 grind
def jj(l:List aD) (i:Nat):Prop:=l.length≤8∧∀(j:Nat) (r:aD),l[j]?=some r→j<i→jU l j r
theorem jj.start(h:l.length≤8):jj l 0:=⟨h,fun _ _ _ h=>by omega⟩
theorem jj.set{i:Nat}(h:jj l i) (hi:i<l.length) {r:aD}(hr:r.ring=ax l i) (f:jU l i r):jj (l.set i r) (i+1):=by
 have c:=bL.set hi hr;refine⟨by rw [List.length_set];exact h.1,fun j x a o=>?_⟩;rw [c.eF];rw [List.getElem?_set] at a
 split at a
 ·
  grind
 exact h.2 j x a (by omega)
theorem jj.ok(h:jj l l.length):ao l:=⟨by have:=h.1;omega,fun i r hr=>h.2 i r hr (List.getElem?_eq_some_iff.1 hr).1⟩
theorem KC{i k:Nat}{g:Bool}{x:Ask}{most:Int}(hm:most=if x.cell then 4 else ep l i) (h0:0≤x.n) (h1:x.n<most) (a:x.pick=true→g=false∧k≠0∧0≤x.zd∧x.zd<most) (he:x.pick=false→x.zd=0):dY l i g k x=true:=by grind [eT,dY]
end
end Go.Rc

namespace Go.Rc
open Go
def As.iG(E d:Nat):As where
 fp x:=x=d
 ok Z w:=zl Z w E d
 lt h x hx:=by subst hx;exact h.lt
 mono hZ h:=by
  obtain⟨l,a,n,c,t,h1,h2,h3⟩:=h;exact⟨l,a,n,c,t,h1,SR.mono h2 (fun b hb _=>hZ b hb) (fun _ _ h=>h),h3⟩
 st hs hc h:=by
  obtain⟨l,a,n,c,t,h1,h2,h3⟩:=h;exact⟨l,a,n,c,t,(As.blk d E _).st (Z:=fun _=>False) hs (fun x hx=>hc x (hx.imp id False.elim)) h1,SR.st hs (fun x hx=>hc x (.inr hx)) (fun _ _ h=>h) h2,h3⟩
theorem As.gd{E d:Nat}{Z:Nat→Prop}{w:World}(h:(As.iG E d).ok Z w):zl Z w E d:=h
def RR.bS:RR Change:=RR.flat Change.cells
def begun(g:Bool):aD:=⟨g,[],0,0⟩
theorem Ow.flat{α:Type}{f:α→List Value}{b T k n:Nat}{Z:Nat→Prop}{w:World}{xs:List α}{l:List Value}(h:bM w b T l) (hl:l=(xs.map f).flatten) (hk:∀x∈xs,(f x).length=k) (h1:∀u∈l,u.oneCell'=true) (hn:n=xs.length) (hm:xs.length≤140737488355328) :
  Ow (RR.flat f) T k Z w (some ⟨b,0,none⟩) n n xs:=by
 subst hn hl
 have hlen:∀(a:List α),(∀x∈a,(f x).length=k)→(a.map f).flatten.length=a.length*k:=by
  intro a
  induction a with
  | nil=>simp
  | cons y a j=>grind
 refine⟨rfl,xs.map f,by simp,by simpa using hk,by simpa using OL.blk (k:=k) h (Nat.zero_le _) (m:=xs.length) (hlen xs hk) h1 hm,fun i x r c hr=>?_⟩;rw [List.getElem?_map,c] at hr
 simp at hr
 exact hr.symm
def As.Vg{ι:Type}(b T:Nat) (F:ι→List Value):As where
 fp x:=x=b
 ok _ w:=∃i,bM w b T (F i)
 lt h x hx:=by obtain⟨i,h⟩:=h;subst hx;exact h.lt
 mono _ h:=h
 st hs hc h:=by obtain⟨i,h⟩:=h;exact⟨i,(As.blk b T _).st (Z:=fun _=>False) hs (fun x hx=>hc x (hx.imp id False.elim)) h⟩
theorem Ow.ring{E n c i b:Nat}{Z:Nat→Prop}{w:World}{a:Option Addr}{l:List aD}(h:Ow RR.eF E 4 Z w a n c l) (o:a=some ⟨b,0,none⟩) (hle:l.length≤140737488355328) (hi:i<l.length):w.rangeAt b (0+i*4) [.bool l[i].ring]:=by
 obtain⟨b',r,h1,_,p,u⟩:=Ow.at h hle (ae hi);rw [o] at h1;simp only [Option.some.injEq,Addr.mk.injEq,and_true] at h1;subst h1;obtain⟨y,z,B,rfl,_⟩:=p;intro j v f
 cases j with
 | zero=>exact u 0 v f
 | succ j=>simp at f
theorem vk(l:List aD) (m:Nat) (hm:m≤l.length):cU l m≤l.length:=by grind [cU,List.takeWhile_sublist]
theorem sU{l:List aD}{i:Nat}(hi:i<l.length):0≤ep l i∧ep l i≤l.length:=by
 have h1:=vk l (i+1) (by omega)
 have hb:block l (i:Int)=if ax l i then ((ba l i:Int),(cU l (i+1):Int)) else ((i:Int),(i:Int)+1):=by
  unfold block;grind
 grind [ep]
theorem Cy{l:List aD}{i:Nat}{g:Bool}{xs:List Ask}{x:Ask}(h:∀(k:Nat) y,xs[k]?=some y→dY l i g k y=true) (a:dY l i g xs.length x=true):∀(k:Nat) y,(xs++[x])[k]?=some y→dY l i g k y=true:=fun k y hy=>by grind
end Go.Rc

namespace Go.Rc
open Go
theorem pX.ne{l:List Rec}(h:pX l) {i:Nat}(hi:i<l.length):∀y∈l.take i,y.key≠l[i].key:=fun y hy e=>by
 obtain⟨j,a,rfl⟩:=List.mem_iff_getElem.1 hy
 have c:j<i:=by simp at a;omega
 have h1:bl l[j].key l[i].key<0:=List.pairwise_iff_getElem.1 h j i (by omega) hi c
 grind [gE]
end Go.Rc

namespace Go.Rc
open Go
section
variable {κ:Type}{enc:κ→Value}
def Gt(enc:κ→Value) (w:World) (b m:Nat) (l left:List (κ × Value)) (cur:Option (κ × Value)):Prop:=
 ∃es clock since seen,w.heap[m]?=some (.map es clock)∧(es.toList.map (fun e=>(e.key,e.val))=l.map (fun p=>(enc p.1,p.2))∧(l.map (·.1)).Nodup∧(∀e∈es.toList,e.born<clock)∧(es.toList.map (·.born)).Nodup)∧
  w.heap[b]?=some (.mapIter (some m) since seen clock)∧b≠m∧since≤clock∧(∀e∈es.toList,e.born<since)∧
  (leftOf es seen).toList.map (fun e=>(e.key,e.val))=left.map (fun p=>(enc p.1,p.2))∧
  ∀p,cur=some p→∃e∈es.toList,seen.back?=some e.born∧e.key=enc p.1∧e.val=p.2
variable {w w':World}{b m:Nat}{l left:List (κ × Value)}{cur:Option (κ × Value)}
theorem Gt.lt(h:Gt enc w b m l left cur):b<w.heap.size∧m<w.heap.size:=by
 obtain⟨es,clock,since,seen,h1,_,a,_⟩:=h;exact⟨(Array.getElem?_eq_some_iff.1 a).1,(Array.getElem?_eq_some_iff.1 h1).1⟩
def As.TP(enc:κ→Value) (b m:Nat) (l left:List (κ × Value)) (cur:Option (κ × Value)):As where
 fp x:=x=b∨x=m
 ok _ w:=Gt enc w b m l left cur
 lt h x hx:=by rcases hx with rfl | rfl;exact h.lt.1;exact h.lt.2
 mono _ h:=h
 st hs hc h:=by
  have hl:=h.lt;obtain⟨es,clock,since,seen,h1,h2,h3,h4⟩:=h;exact⟨es,clock,since,seen,by rw [hc m (.inl (.inr rfl)) hl.2];exact h1,h2,by rw [hc b (.inl (.inl rfl)) hl.1];exact h3,h4⟩
theorem As.Pn{Z:Nat→Prop}(h:(As.TP enc b m l left cur).ok Z w):Gt enc w b m l left cur:=h
def uh(enc:κ→Value):Option (κ × Value)→Array Value
 | none=>#[.bool false]
 | some p=>#[.bool true,enc p.1,p.2]
theorem Hb(r:Option (κ × Value)):(uh enc r)[0]?=some (.bool r.isSome):=by cases r <;> rfl
theorem kq:∀(L:List MapEntry) (j:Nat) (e:MapEntry),(L.map (·.born)).Nodup→L[j]?=some e→L.filter (fun x=>!(x.born == e.born))=L.eraseIdx j
 | [],_,_,_,h=>by simp at h
 | x::r,0,e,hn,h=>by
  simp at h
  subst h;simp only [List.map_cons,List.nodup_cons] at hn;rw [List.filter_cons];simp only [beq_self_eq_true,Bool.not_true,Bool.false_eq_true,if_false,List.eraseIdx_zero,List.tail_cons];refine List.filter_eq_self.2 fun y hy=>?_
  have:y.born≠x.born:=fun e=>hn.1 (e ▸ List.mem_map.2 ⟨y,hy,rfl⟩)
  simpa using this
 | x::r,j+1,e,hn,h=>by
  simp only [List.map_cons,List.nodup_cons] at hn;simp only [List.getElem?_cons_succ] at h;have a:x.born≠e.born:=fun c=>hn.1 (c ▸ List.mem_map.2 ⟨e,List.mem_of_getElem? h,rfl⟩);rw [List.filter_cons,if_pos (by simpa using a),kq r j e hn.2 h,List.eraseIdx_cons_succ]
theorem xI(es:Array MapEntry) (seen:Array Nat) (b:Nat):(leftOf es (seen.push b)).toList=(leftOf es seen).toList.filter fun x=>!(x.born == b):=by
 unfold leftOf
 rw [Array.toList_filter,Array.toList_filter,List.filter_filter]
 congr 1
 funext x
 rw [Array.contains_push,Bool.not_or,Bool.and_comm]
theorem map_eraseIdx{α β:Type}(f:α→β):∀(l:List α) (j:Nat),(l.eraseIdx j).map f=(l.map f).eraseIdx j
 | [],_=>by simp
 | _::_,0=>by simp
 | x::r,j+1=>by simp [map_eraseIdx f r j]
variable {P:Program}{kv:KV}{n:Nat}{K:KV→World→Prop}{d:Tmp}{ty:TypeId}{pos:String}{af:Array Edge}{g:Option (Nat × Bool)}{T kt e:TypeId}{x:Operand}
theorem OX.range(hT:P.underlying T=some (.map kt e)) (hm:KM enc w m l) (c:ev kv x=some (.map (some m))) (f:Nat.blt d n=true)
  (h:∀b w',aK [] w w'→w.heap.size≤b→Gt enc w' b m l l none→K ((d,.pointer (some ⟨b,0,none⟩))::kv) w'):OX P ⟨some d,.range T x,ty,pos,af,g⟩ n kv w K:=by
 obtain⟨es,clock,h1,a⟩:=hm;have i:m<w.heap.size:=(Array.getElem?_eq_some_iff.1 h1).1;refine⟨rfl,f,by simp [known,opers,c],?_⟩
 have hr:(execOp (gZ kv) ⟨some d,.range T x,ty,pos,af,g⟩).run P w=.ok (.value (.pointer (some ⟨w.heap.size,0,none⟩))) (w.alloc (.mapIter (some m) clock #[] clock)):=by
  simp only [execOp,aG c,Sem.run_bind,run_range_map w T kt e m es clock hT h1,Result.andThen_ok];rfl
 rw [hr];refine h _ _ (iu _ _) (Nat.le_refl _) ⟨es,clock,clock,#[],by rw [heap_alloc_old w _ (h:=i)];exact h1,a,heap_alloc_new _ _,by omega,Nat.le_refl _,a.2.2.1,?_,fun p j=>by cases j⟩
 have:leftOf es #[]=es:=by unfold leftOf;simp
 rw [this];exact a.1
theorem Cz(hm:Gt enc w b m l left cur):∃(r:Option (κ × Value)) (u:List (κ × Value)) (w':World),(Instr.next (.pointer (some ⟨b,0,none⟩)) false ty).run P w=.ok (.tuple (uh enc r)) w'∧aK [b] w w'∧
  (match r with | none=>left=[]∧u=[] | some p=>∃j,left[j]?=some p∧u=left.eraseIdx j)∧Gt enc w' b m l u r:=by
 obtain⟨es,clock,since,seen,h1,z,c,B,C,f,i,h8⟩:=hm;have J:b<w.heap.size:=(Array.getElem?_eq_some_iff.1 c).1
 have D:∀y∈(leftOf es seen).toList,y∈es.toList:=fun y hy=>by
  unfold leftOf at hy
  rw [Array.toList_filter] at hy;exact(List.mem_filter.1 hy).1
 have G:=next_test_false seen es since clock f C
 have e1:(leftOf es seen).filter (fun x=>decide (x.born<since))=leftOf es seen:=Array.filter_eq_self.2 fun y hy=>by
  have:=f y (D y (by simpa using hy))
  simpa using this
 have e2:(leftOf es seen).filter (fun x=>decide (x.born≥since))=#[]:=by
  rw [Array.filter_eq_empty_iff];intro y hy
  have:=f y (D y (by simpa using hy))
  simp
  omega
 have hlen:(leftOf es seen).size=left.length:=by simpa using congrArg List.length i
 by_cases h0:(leftOf es seen).size=0
 ·
  have N:leftOf es seen=#[]:=Array.eq_empty_of_size_eq_zero h0
  have O:left=[]:=by cases left with
   | nil=>rfl
   | cons a r=>rw [h0] at hlen;simp at hlen
  subst O;refine⟨none,[],w,?_,aK.refl _ _,⟨rfl,rfl⟩,es,clock,since,seen,h1,z,c,B,C,f,i,fun p o=>by cases o⟩;simp only [Instr.next,getObj,Sem.run_bind,Sem.run,c,h1,Result.andThen,G,Bool.false_eq_true,if_false];rw [show(es.filter fun e=>!seen.contains e.born)=leftOf es seen from rfl,N]
  simp [choose,Sem.run,Question.forced,uh]
 have Q:(leftOf es seen).isEmpty=false:=by simp [Array.isEmpty,h0]
 have R:∃(j:Nat) (w1:World),j<(leftOf es seen).size∧w1.heap=w.heap∧aK [] w w1∧(choose (Question.mapNext (leftOf es seen).size)).run P w=.ok j w1:=by
  by_cases H:(leftOf es seen).size≤1
  ·
   exact⟨0,w,by omega,rfl,aK.refl _ _,by simp [choose,Sem.run,Question.forced,H]⟩
  exact⟨_,w.drew,Nat.mod_lt _ (by omega),rfl,⟨rfl,rfl,rfl,Nat.le_refl _,Nat.le_succ _,fun _ _ _=>rfl⟩,by
   simp only [choose,Sem.run,Question.forced,decide_eq_true_eq,H,if_false,Question.cut]
   rfl⟩
 obtain⟨j,w1,U,E,V,W⟩:=R;obtain⟨y,hy⟩:∃y,(leftOf es seen)[j]?=some y:=⟨_,Array.getElem?_eq_getElem U⟩
 have F:(leftOf es seen).toList[j]?=some y:=by rw [Array.getElem?_toList];exact hy
 have X:y∈es.toList:=D y (List.mem_of_getElem? F);obtain⟨p,o⟩:∃p,left[j]?=some p:=⟨_,List.getElem?_eq_getElem (by omega)⟩
 have h:(y.key,y.val)=(enc p.1,p.2):=by
  have:=congrArg (fun x=>x[j]?) i
  simp only [List.getElem?_map,F,o,Option.map_some,Option.some.injEq] at this;exact this
 simp only [Prod.mk.injEq] at h
 have Y:((leftOf es seen).toList.map (·.born)).Nodup:=by
  unfold leftOf
  rw [Array.toList_filter];exact(List.filter_sublist.map _).nodup z.2.2.2
 refine⟨some p,left.eraseIdx j,{w1 with heap:=w1.heap.setIfInBounds b (.mapIter (some m) since (seen.push y.born) clock)},?_,?_,⟨j,o,rfl⟩,es,clock,since,seen.push y.born,?_,z,?_,B,C,f,?_,?_⟩
 ·
  simp only [Instr.next,getObj,Sem.run_bind,Sem.run,c,h1,Result.andThen,G,Bool.false_eq_true,if_false];rw [show(es.filter fun e=>!seen.contains e.born)=leftOf es seen from rfl,e1,e2];simp only [Q,Bool.false_eq_true,if_false,Array.empty_append,Array.append_empty,Array.size_map,W,Array.getElem?_map,hy,Option.map_some]
  have Et:(setObj b (.mapIter (some m) since (seen.push y.born) clock)).run P w1=.ok () {w1 with heap:=w1.heap.setIfInBounds b (.mapIter (some m) since (seen.push y.born) clock)}:=by
   simp only [setObj,Sem.run];rw [E,c]
  simp only [Sem.run_bind,Et,Result.andThen,uh,h.1,h.2]
  try rfl
 ·
  have:=gg w1 b (.mapIter (some m) since (seen.push y.born) clock)
  exact aK.trans (aK.mono V (by simp)) this
 ·
  show(w1.heap.setIfInBounds b _)[m]?=_
  rw [E,Array.getElem?_setIfInBounds_ne B];exact h1
 ·
  show(w1.heap.setIfInBounds b _)[b]?=_
  rw [E,Array.getElem?_setIfInBounds_self]
  simp [J]
 ·
  rw [xI,kq _ j y Y F,map_eraseIdx,map_eraseIdx,i]
 intro q I;simp only [Option.some.injEq] at I;subst I;exact⟨y,X,Array.back?_push,h.1,h.2⟩
theorem OX.next(hm:Gt enc w b m l left cur) (c:ev kv x=some (.pointer (some ⟨b,0,none⟩))) (f:Nat.blt d n=true)
  (h:∀r a w',aK [b] w w'→(match r with | none=>left=[]∧a=[] | some p=>∃j,left[j]?=some p∧a=left.eraseIdx j)→Gt enc w' b m l a r→K ((d,.tuple (uh enc r))::kv) w'):OX P ⟨some d,.next x false,ty,pos,af,g⟩ n kv w K:=by
 obtain⟨r,a,w',h1,i,o,u⟩:=Cz (P:=P) (ty:=ty) hm;refine⟨rfl,f,by simp [known,opers,c],?_⟩
 have hr:(execOp (gZ kv) ⟨some d,.next x false,ty,pos,af,g⟩).run P w=.ok (.value (.tuple (uh enc r))) w':=by
  simp only [execOp,aG c,Sem.run_bind,h1,Result.andThen_ok];rfl
 rw [hr];exact h _ _ _ i o u
theorem PV.entry{p:κ × Value}(hm:Gt enc w b m l left (some p)) (a:ev kv x=some (.pointer (some ⟨b,0,none⟩))):PV P (.entry x) ty kv w (.tuple #[enc p.1,p.2]):=by
 obtain⟨es,clock,since,seen,h1,c,f,_,_,_,_,h⟩:=hm;obtain⟨y,hy,hb,hk,i⟩:=h p rfl;refine⟨rfl,by simp [known,opers,a],fun _ _ _ _=>?_⟩
 have j:es.find? (·.born == y.born)=some y:=by rw [← Array.find?_toList];exact find_born y es.toList c.2.2.2 hy
 have:(Instr.entry (.pointer (some ⟨b,0,none⟩))).run P w=.ok (.tuple #[enc p.1,p.2]) w:=by
  simp only [Instr.entry,getObj,Sem.run_bind,Sem.run,f,h1,hb,Result.andThen,bne_self_eq_false,Bool.false_eq_true,if_false,j,hk,i]
  rfl
 simp only [execOp,aG a,Sem.run_bind,this,Result.andThen_ok]
 rfl
end
end Go.Rc

namespace Go.Rc
open Go
theorem ks{α:Type}:∀{l:List α}{j:Nat}{p q:α},l[j]?=some p→q∈l→q=p∨q∈l.eraseIdx j
 | [],_,_,_,_,h=>by cases h
 | x::r,0,p,q,h,a=>by grind
 | x::r,j+1,p,q,h,a=>by
  rcases List.mem_cons.1 a with rfl | a
  ·
   exact .inr (by simp)
  rcases ks (l:=r) (by simpa using h) a with h1 | h1
  ·
   exact .inl h1
  exact .inr (by simp [h1])
section
variable {aa:List aD}{aA:List cj}
theorem kD.aV(i:ao aa) {i0:Nat}{L:List Nat}{u:Nat→Nat}{am:List (Key × Value)}(h:kD aa L u am) (hn:(am.map (·.1)).Nodup) (hr:cL aa aA i0 L u) (o:∀j∈L,u j=rv aa aA j) :
  ∀p∈am,p.2=.string (valOf aa aA p.1):=fun p f=>by
 have c:aX am p.1=some p.2:=(xe hn).2 f
 by_cases hk:∃j∈L,p.1=aH aa (j:Int)
 ·
  obtain⟨j,a,e⟩:=hk;obtain⟨y,z⟩:=hr.ring j a;rw [e,h.1 j a] at c
  grind [fx,fS]
 rw [h.2 p.1 fun j a e=>hk ⟨j,a,e⟩] at c
 cases c
theorem kD.first{i0:Nat}{L:List Nat}{u:Nat→Nat}{am:List (Key × Value)}(h:kD aa L u am) (hn:(am.map (·.1)).Nodup) (hr:cL aa aA i0 L u):∃p∈am,p.1=aH aa (i0:Int):=
 ⟨(_,_),(xe hn).1 (h.1 i0 hr.first),rfl⟩
theorem Eu{am left ml:List (Key × Value)}{j:Nat}{p:Key × Value}(a:∀q∈am,q∈left∨aX ml q.1=some q.2) (he:∀q∈am,q.2=.string (valOf aa aA q.1)) (c:left[j]?=some p) :
  ∀q∈am,q∈left.eraseIdx j∨aX (bZ ml p.1 (.string (valOf aa aA p.1))) q.1=some q.2:=fun q f=>by
 rw [cZ]
 by_cases e:p.1=q.1
 ·
  grind
 rw [if_neg e]
 rcases a q f with h | h
 ·
  rcases ks c h with h1 | h1
  ·
   subst h1;exact absurd rfl e
  exact .inl h1
 exact .inr h
end
end Go.Rc

namespace Go.Rc
open Go
def hK(rev:Int) (l:List cj):Prop:=pY l∧(∀y∈l,G8 rev y)∧∀y∈l,(∃i:Nat,i≤9∧y.key=⟨30,itoa i⟩)∧y.value.size≤1000
theorem hK.nil(rev:Int):hK rev []:=⟨.nil,by simp,by simp⟩
theorem hK.mono{r s:Int}{l:List cj}(h:hK r l) (f:r≤s):hK s l:=⟨h.1,fun y hy=>by obtain⟨a,b,c,d,e⟩:=h.2.1 y hy;exact⟨a,b,c,d,by omega⟩,h.2.2⟩
theorem Change.small.key{c:Change}(h:c.small):∃i:Nat,i≤9∧c.key=⟨30,itoa i⟩:=by
 obtain⟨⟨n,h0,a,hk⟩,_⟩:=h;refine⟨n.toNat,by omega,?_⟩;rw [hk]
 unfold bz
 grind
theorem Change.small.ok{c:Change}(h:c.small):el c.key=true∧aw c.key=true:=by
 obtain⟨⟨n,h0,a,hk⟩,_⟩:=h;obtain⟨m,rfl⟩:∃m:Nat,n=(m:Int):=⟨n.toNat,by omega⟩;rw [hk];exact⟨eB.valid (aa:=[]) (.cell (by omega)),aN (by omega)⟩
theorem hK.put{rev:Int}{l:List cj}{c:Change}(h:hK rev l) (hc:c.small) (h0:0≤rev):hK rev (eK ⟨c.key,c.value,rev⟩ l false):=by
 refine⟨pY.put h.1,fun y hy=>?_,fun y hy=>?_⟩
 ·
  rcases rj _ _ _ _ hy with rfl | hy
  ·
   have:=hc.2
   exact⟨hc.ok.1,hc.ok.2,by grind,h0,Int.le_refl _⟩
  exact h.2.1 y hy
 rcases rj _ _ _ _ hy with rfl | hy
 ·
  obtain⟨i,hi,hk⟩:=hc.key;exact⟨⟨i,by omega,hk⟩,Nat.le_trans hc.2 (by decide)⟩
 exact h.2.2 y hy
theorem oB{α:Type} [BEq α] [LawfulBEq α]:∀{l U:List α},l.Nodup→(∀x∈l,x∈U)→l.length≤U.length
 | [],_,_,_=>Nat.zero_le _
 | x::r,U,hn,a=>by
  have c:=a x (by simp);rw [List.nodup_cons] at hn
  have h1:r.length≤(U.erase x).length:=oB hn.2 fun y hy=>by grind
  grind
theorem hK.len{rev:Int}{l:List cj}(h:hK rev l):l.length≤10:=by
 have hn:(l.map fun y=>y.key).Nodup:=by
  unfold List.Nodup
  rw [List.pairwise_map]
  exact h.1.imp fun {a b} h e=>by grind [gE]
 have:=oB (U:=(List.range 10).map fun i:Nat=>(⟨30,itoa i⟩:Key)) hn fun k hk=>by
  obtain⟨y,hy,rfl⟩:=List.mem_map.1 hk;obtain⟨i,hi,he⟩:=(h.2.2 y hy).1
  grind
 simpa using this
theorem hK.k99{rev:Int}{l:List cj}(h:hK rev l):∀y∈l,∃i:Nat,i≤99∧y.key=⟨30,itoa i⟩:=fun y hy=>by
 obtain⟨i,hi,he⟩:=(h.2.2 y hy).1;exact⟨i,by omega,he⟩
theorem xJ{n:cj}{k:Key}(h:n.key≠k):∀(l:List cj) (b:Bool),(eK n l b).find? (fun x=>x.key == k)=l.find? fun x=>x.key == k
 | [],b=>by grind [eK]
 | x::xs,b=>by
  have hn:(n.key == k)=false:=by simpa using h
  unfold eK
  rw [List.find?_append,List.find?_append,xJ h xs]
  have h1:(if (decide (0≤bl x.key n.key) && !b)=true then [n] else []).find? (fun x=>x.key == k)=none:=by grind
  rw [h1,Option.none_or]
  by_cases e:bl x.key n.key=0
  ·
   rw [if_pos e]
   grind [j3]
  grind
theorem lK{n:cj}{k:Key}(h:n.key≠k) (l:List cj):bs (eK n l false) k=bs l k:=by
 unfold bs
 rw [xJ h]
theorem Hd{n:cj}{l:List cj}{q:Nat}{b:Bool}(a:q<l.length) {acc r:List cj}(h:acc++eK n (l.drop q) b=r):acc++(if decide (0≤bl l[q].key n.key) && !b then [n] else [])++(if bl l[q].key n.key=0 then [] else [l[q]])++eK n (l.drop (q+1)) (b || decide (0≤bl l[q].key n.key))=r:=by grind [List.drop_eq_getElem_cons,eK]
theorem He{n:cj}{l m acc:List cj}{b:Bool}(h:acc++eK n m b=eK n l false):acc.length≤l.length+1:=by
 have h1:=congrArg List.length h
 grind [lh]
end Go.Rc

namespace Go.Rc
open Go
end Go.Rc

namespace Go.Rc
open Go
def KD(L:List As) (Z:Nat→Prop) (w:World):Prop:=(List.Pairwise (fun(A B:As)=>∀x,A.fp x→¬B.fp x) L)∧∀A∈L,A.ok Z w
def As.many(L:List As):As where
 fp x:=∃A∈L,A.fp x
 ok:=KD L
 lt h x hx:=by obtain⟨A,hA,hx⟩:=hx;exact A.lt (h.2 A hA) x hx
 mono hZ h:=⟨h.1,fun A hA=>A.mono hZ (h.2 A hA)⟩
 st hs hc h:=⟨h.1,fun A hA=>A.st hs (fun x hx=>hc x (hx.imp (fun hx=>⟨A,hA,hx⟩) id)) (h.2 A hA)⟩
section
variable {w0 w:World}{M Z:Nat→Prop}{A:As}{L l:List As}
theorem St.Po(h:St w0 M Z w l):St w0 M Z w (As.many []::l):=by
 refine⟨h.bS,h.hV,?_,?_,.cons ?_ h.pd,?_⟩
 ·
  intro B a x c
  rcases List.mem_cons.1 a with rfl | a
  ·
   obtain⟨A,f,_⟩:=c;cases f
  exact h.jV B a x c
 ·
  intro B a x c
  rcases List.mem_cons.1 a with rfl | a
  ·
   obtain⟨A,f,_⟩:=c;cases f
  exact h.kU B a x c
 ·
  intro B _ x c;obtain⟨A,f,_⟩:=c;cases f
 intro B a
 rcases List.mem_cons.1 a with rfl | a
 ·
  exact⟨.nil,fun A f=>by cases f⟩
 exact h.ok B a
theorem St.KF(h:St w0 M Z w (A::As.many L::l)):St w0 M Z w (As.many (A::L)::l):=by
 obtain⟨d1,d2⟩:=List.pairwise_cons.1 h.pd;obtain⟨d3,d4⟩:=List.pairwise_cons.1 d2;have hm:(As.many L).ok Z w:=h.ok _ (by simp);refine⟨h.bS,h.hV,?_,?_,.cons ?_ d4,?_⟩
 ·
  intro B f x a
  rcases List.mem_cons.1 f with rfl | f
  ·
   obtain⟨C,c,a⟩:=a
   rcases List.mem_cons.1 c with rfl | c
   ·
    exact h.jV C (by simp) x a
   exact h.jV (As.many L) (by simp) x ⟨C,c,a⟩
  exact h.jV B (by simp [f]) x a
 ·
  intro B f x a
  rcases List.mem_cons.1 f with rfl | f
  ·
   obtain⟨C,c,a⟩:=a
   rcases List.mem_cons.1 c with rfl | c
   ·
    exact h.kU C (by simp) x a
   exact h.kU (As.many L) (by simp) x ⟨C,c,a⟩
  exact h.kU B (by simp [f]) x a
 ·
  intro B f x a;obtain⟨C,c,a⟩:=a
  rcases List.mem_cons.1 c with rfl | c
  ·
   exact d1 B (by simp [f]) x a
  exact d3 B f x ⟨C,c,a⟩
 intro B f
 rcases List.mem_cons.1 f with rfl | f
 ·
  refine⟨.cons (fun C c x a i=>d1 (As.many L) (by simp) x a ⟨C,c,i⟩) hm.1,fun C c=>?_⟩
  rcases List.mem_cons.1 c with rfl | c
  ·
   exact h.ok C (by simp)
  exact hm.2 C c
 exact h.ok B (by simp [f])
theorem St.Hf(h:St w0 M Z w (As.many (A::L)::l)):St w0 M Z w (A::As.many L::l):=by
 obtain⟨d1,d2⟩:=List.pairwise_cons.1 h.pd;have hm:(As.many (A::L)).ok Z w:=h.ok _ (by simp);obtain⟨d3,d4⟩:=List.pairwise_cons.1 hm.1;refine⟨h.bS,h.hV,?_,?_,.cons ?_ (.cons ?_ d2),?_⟩
 ·
  intro B a x c
  rcases List.mem_cons.1 a with rfl | a
  ·
   exact h.jV _ M0 x ⟨B,.head _,c⟩
  rcases List.mem_cons.1 a with rfl | a
  ·
   obtain⟨C,f,c⟩:=c;exact h.jV _ M0 x ⟨C,.tail _ f,c⟩
  exact h.jV B (.tail _ a) x c
 ·
  intro B a x c
  rcases List.mem_cons.1 a with rfl | a
  ·
   exact h.kU _ M0 x ⟨B,.head _,c⟩
  rcases List.mem_cons.1 a with rfl | a
  ·
   obtain⟨C,f,c⟩:=c;exact h.kU _ M0 x ⟨C,.tail _ f,c⟩
  exact h.kU B (.tail _ a) x c
 ·
  intro B a x c i
  rcases List.mem_cons.1 a with rfl | a
  ·
   obtain⟨C,f,i⟩:=i;exact d3 C f x c i
  exact d1 B a x ⟨A,.head _,c⟩ i
 ·
  intro B a x c;obtain⟨C,f,c⟩:=c;exact d1 B a x ⟨C,.tail _ f,c⟩
 intro B a
 rcases List.mem_cons.1 a with rfl | a
 ·
  exact hm.2 B M0
 rcases List.mem_cons.1 a with rfl | a
 ·
  exact⟨d4,fun C f=>hm.2 C (.tail _ f)⟩
 exact h.ok B (.tail _ a)
theorem St.Pp{L':List As}(f:L.Perm L') (h:St w0 M Z w (As.many L::l)):St w0 M Z w (As.many L'::l):=by
 obtain⟨d1,d2⟩:=List.pairwise_cons.1 h.pd;have hm:(As.many L).ok Z w:=h.ok _ (by simp);have i:∀x,(As.many L').fp x→(As.many L).fp x:=fun x ⟨C,j,c⟩=>⟨C,f.mem_iff.2 j,c⟩;refine⟨h.bS,h.hV,?_,?_,.cons (fun B a x c=>d1 B a x (i x c)) d2,?_⟩
 ·
  intro B a x c
  rcases List.mem_cons.1 a with rfl | a
  ·
   exact h.jV _ M0 x (i x c)
  exact h.jV B (.tail _ a) x c
 ·
  intro B a x c
  rcases List.mem_cons.1 a with rfl | a
  ·
   exact h.kU _ M0 x (i x c)
  exact h.kU B (.tail _ a) x c
 intro B a
 rcases List.mem_cons.1 a with rfl | a
 ·
  exact⟨hm.1.perm f (fun h x c o=>h x o c),fun C j=>hm.2 C (f.mem_iff.2 j)⟩
 exact h.ok B (.tail _ a)
end
structure RE where
 key:Key
 a:Option Addr
 n:Nat
 c:Nat
 reads:List Key
def RE.as(EK:Nat) (e:RE):As:=As.os RR.key EK 2 e.a e.n e.c e.reads
end Go.Rc

namespace Go.Rc
open Go
section
variable {aa:List aD}{aA:List cj}{val:Key→ByteArray}
theorem j5{f g:Nat}(h:f≤g):∀{l:List Key}{s s':ES},cI aa val f s l=some s'→cI aa val g s l=some s'
 | [],s,s',hu=>hu
 | k::r,s,s',hu=>by
  simp only [cI] at hu ⊢;obtain⟨t,h1,a⟩:=Option.bind_eq_some_iff.1 hu;rw [lJ h h1];exact j5 h a
theorem rk(a:ao aa):∀(l:List Key) (s:ES),Good aa aA s→(∀k∈l,eB aa k)→∃f s',cI aa val f s l=some s'
 | [],s,_,_=>⟨0,s,rfl⟩
 | k::r,s,c,hk=>by
  obtain⟨f,t,h1⟩:=G7 (val:=val) a _ s k c (hk k (by simp)) (Nat.le_refl _);have h:=(bR (val:=val) a f).1 _ _ _ h1 c (hk k (by simp))
  obtain⟨g,s',j⟩:=rk a r t h.1 fun k i=>hk k (by simp [i])
  refine⟨max f g,s',?_⟩
  grind [cI,lJ,j5,Nat.le_max_right]
theorem ui(a:ao aa) {f:Nat}:∀{l:List Key}{s s':ES},cI aa val f s l=some s'→Good aa aA s→(∀k∈l,eB aa k)→s'.cz.length+eY aa s'≤s.cz.length+eY aa s
 | [],s,s',h,_,_=>by simp only [cI,Option.some.injEq] at h;subst h;exact Nat.le_refl _
 | k::r,s,s',h,c,hk=>by
  simp only [cI] at h;obtain⟨t,h1,i⟩:=Option.bind_eq_some_iff.1 h;have j:=(bR (val:=val) a f).1 _ _ _ h1 c (hk k (by simp));have o:=(fT (val:=val) a f).1 _ _ _ h1 c (hk k (by simp))
  have p:=ui a i j.1 fun k u=>hk k (by simp [u])
  exact Nat.le_trans p o.2.2
end
theorem oC{aa:List aD}(a:ao aa) {i:Nat}(hi:i<aa.length):eu aa (aH aa (i:Int))=true:=by
 have c:=a.len
 unfold eu
 rw [eB.valid (aa:=aa) (.eF hi (by omega)),bG hi (by omega)]
 simp
theorem KG:fR ⟨0,[],[]⟩:=⟨fun i y h=>by simp at h,fun i r h=>by simp at h,by decide,by decide,by decide,⟨by decide,fun i x h=>by simp at h⟩⟩
theorem hK.fR{rev:Int}{aA:List cj}(h:hK rev aA) (h0:0≤rev) (h1:rev≤1073741824) (a:aA.length≤64):fR ⟨rev,aA,[]⟩:=
 ⟨zG.2 ⟨h.1,h.2.1⟩,fun i r h=>by simp at h,h0,h1,a,⟨Nat.zero_le _,fun i x h=>by simp at h⟩⟩
end Go.Rc

namespace Go.Rc
open Go
end Go.Rc

namespace Go.Rc
open Go
end Go.Rc

namespace Go.Rc
open Go
end Go.Rc

namespace Go.Rc
open Go
structure BK (aa:List aD) (aA:List cj) (rev:Int) (b:cW):Prop where
 sV:Good aa aA ⟨b,[],[],0⟩
 BE:uf ⟨b,[],[],0⟩
 rv:b.ad=rev
 Jb:ve rev aA
 Hg:aA.length≤64
section
variable {aa:List aD}{aA:List cj}{rev:Int}{b:cW}
theorem BK.fR(h:BK aa aA rev b):fR b:=
 ⟨by rw [h.rv,show b.ab=aA from h.sV.aA];exact h.Jb,fun i r hr=>(h.BE.v r (List.mem_of_getElem? hr)).2,h.BE.r0,h.BE.r1,by rw [show b.ab=aA from h.sV.aA];exact h.Hg,h.BE.st.kT h.sV.len fun r hr=>(h.BE.v r hr).1⟩
end
theorem PV.cast{P:Program}{op:Op}{ty:TypeId}{kv:KV}{w:World}{v v':Value}(h:PV P op ty kv w v) (e:v=v'):PV P op ty kv w v':=e ▸ h
section
variable {w0 w:World}{M Z:Nat→Prop}{l:List As}{A0 A1 A2 A3 A4 A5 A6 A7 A8 A9 Kr N7 Pd Vh A14 A15 A16 A17:As}
theorem SV.g13(h:SV w0 M Z w (A0::A1::A2::A3::A4::A5::A6::A7::A8::A9::Kr::N7::Pd::Vh::l)):Vh.ok Z w:=h.tl.g12
theorem SV.g14(h:SV w0 M Z w (A0::A1::A2::A3::A4::A5::A6::A7::A8::A9::Kr::N7::Pd::Vh::A14::l)):A14.ok Z w:=h.tl.g13
end
end Go.Rc

namespace Go.Rc
open Go
end Go.Rc

namespace Go.Rc
open Go
theorem oq.vf{aa:List aD}{k:Key}(a:ao aa) (h:oq aa k):eB aa k:=by
 have c:=a.len
 rcases h with⟨n,h0,f,rfl⟩ | ⟨i,hi,rfl⟩
 ·
  obtain⟨m,rfl⟩:∃m:Nat,n=m:=⟨n.toNat,by omega⟩;exact .cell (by omega)
 exact .eF hi (by omega)
theorem oq.right{aa:List aD}{k:Key}(a:ao aa) (h:oq aa k):eu aa k=true:=by
 have hk:=h.vf a
 rcases h with⟨n,h0,c,rfl⟩ | ⟨i,hi,rfl⟩
 ·
  unfold eu
  rw [eB.valid hk]
  unfold bz
  rw [if_neg (by omega)]
  simp
 exact oC a hi
structure LB (aa:List aD) (x:cW):Prop where
 ok:BK aa x.ab x.ad x
 aA:hK x.ad x.ab
section
variable {aa:List aD}{x:cW}
theorem LB.apply(h:LB aa x) {y:cW}(hr:y.ah=x.ah) (h0:x.ad≤y.ad) (h1:y.ad≤1073741824) (c:hK y.ad y.ab) (f:y.ab.length≤64):LB aa y:=by
 have j:=h.ok.sV;have a:=h.ok.BE;have i:0≤y.ad:=Int.le_trans a.r0 h0;have hb:=c.fR i h1 f;exact⟨⟨⟨rfl,by show y.ah.length≤_;rw [hr];exact j.len,by grind [Good.key],by grind [Good.G6],.nil,fun k=>.inl rfl⟩,⟨by show pX y.ah;rw [hr];exact a.st,by show ∀r∈y.ah,_;rw [hr];exact fun r hm=>⟨(a.v r hm).1,Int.le_trans (a.v r hm).2 h0⟩,i,h1⟩,rfl,hb.1,f⟩,c⟩
theorem LB.of(h:LB aa x) {b:cW}(hb:BK aa x.ab x.ad b):LB aa b:=by
 have h1:b.ab=x.ab:=hb.sV.aA;have a:b.ad=x.ad:=hb.rv;refine⟨?_,?_⟩
 ·
  rw [h1,a];exact hb
 rw [h1,a];exact h.aA
theorem LB.Pq(a:ao aa) (h:LB aa x) {goals:List Key}(j:∀k∈goals,oq aa k) (o:goals.length≤32):∃(f:Nat) (s':ES),fk aa x goals=0∧Good aa x.ab ⟨x,[],[],0⟩∧(∀k∈goals,eB aa k)∧cI aa (valOf aa x.ab) f ⟨x,[],[],0⟩ goals=some s'∧s'.cz.length≤1000000∧LB aa (s'.base x)∧(s'.base x).ad=x.ad:=by
 have p:=a.len;have c:=h.ok.sV;have hk:∀k∈goals,eB aa k:=fun k hm=>(j k hm).vf a;obtain⟨f,s',hu⟩:=rk (val:=valOf aa x.ab) a goals ⟨x,[],[],0⟩ c hk;have h1:=mQ a hu c hk;have i:=xG a hu c h.ok.BE hk;have u:=ui a hu c hk;have y:eY aa ⟨x,[],[],0⟩≤aa.length:=Ja _ _;refine⟨f,s',?_,c,hk,hu,?_,?_,?_⟩
 ·
  unfold fk
  rw [if_neg (fun h=>h a),if_neg (fun hn=>hn h.ok.fR),if_neg (by omega),if_pos (List.all_eq_true.2 fun k hm=>(j k hm).right a)]
 ·
  grind
 ·
  unfold ES.base
  split
  ·
   refine h.of ⟨⟨h1.1.aA,h1.1.len,h1.1.key,h1.1.G6,.nil,fun k=>.inl rfl⟩,⟨i.st,i.v,i.r0,i.r1⟩,h1.2.rev,h.ok.Jb,h.ok.Hg⟩
  exact h
 unfold ES.base
 split
 ·
  exact h1.2.rev
 rfl
theorem LB.nil{aa:List aD}(y:cW) (hr:y.ah=[]) (h0:0≤y.ad) (h1:y.ad≤1073741824) (a:hK y.ad y.ab) (c:y.ab.length≤64):LB aa y:=by
 have hb:=a.fR h0 h1 c;exact⟨⟨⟨rfl,by grind,by grind,by grind,.nil,fun k=>.inl rfl⟩,⟨by show pX y.ah;rw [hr];exact .nil,by grind,h0,h1⟩,rfl,hb.1,c⟩,a⟩
end
end Go.Rc

namespace Go.Rc
open Go
def KH(l:List Key):Prop:=l.Pairwise fun a b=>bl a b<0
theorem Hh{l l':List Key}(c:l'.Perm l) (hn:l.Nodup) (f:l'.Pairwise fun a b=>¬bl b a<0):KH l':=by
 have i:l'.Pairwise fun a b=>a≠b:=c.nodup_iff.2 hn
 refine(f.and i).imp fun {a b} h=>?_
 grind [gE,j3]
theorem Hi{aa:List aD}{l:List Key}(hn:l.Nodup) (hk:∀x∈l,eB aa x):l.length≤100+aa.length:=by
 have h:=oB (U:=(List.range 100).map (fun n:Nat=>bz (n:Int))++(List.range aa.length).map fun n:Nat=>aH aa (n:Int)) hn fun x a=>by
  rw [List.mem_append,List.mem_map,List.mem_map]
  cases hk x a with
  | cell h=>grind
  | eF h _=>grind
 simpa using h
section
variable {aa:List aD}{aA:List cj}{k:Key}
inductive sX (aa:List aD) (aA:List cj) (k:Key):Key→Prop where
 | refl:sX aa aA k k
 | step {x y:Key}:sX aa aA k x→y∈cX aa aA x→sX aa aA k y
theorem zH(a:ao aa) {x:Key}(c:eB aa x):∀y∈cX aa aA x,eB aa y:=fun y hy=>by
 cases c with
 | cell h=>unfold cX at hy;rw [if_pos (aN h)] at hy;cases hy
 | eF hi _=>rw [dL a hi] at hy;exact(mS a hi y hy).vf a
theorem zI(c:ao aa) {x:Key}(a:eB aa x):(cX aa aA x).length≤6:=by
 cases a with
 | cell h=>unfold cX;rw [if_pos (aN h)];simp
 | eF hi _=>grind [dL,mR,iC]
structure wK (aa:List aD) (aA:List cj) (k:Key) (l:List Key) (i q:Nat):Prop where
 ie:l.Nodup
 vf:∀x∈l,eB aa x
 Pr:∀x∈l,sX aa aA k x
 mem:k∈l
 cl:∀j x,j<i→l[j]?=some x→∀y∈cX aa aA x,y∈l
 cur:∀x,l[i]?=some x→∀y∈(cX aa aA x).take q,y∈l
theorem wK.start(hk:eB aa k):wK aa aA k [k] 0 0:=
 ⟨by simp,by simpa using hk,by simpa using sX.refl,by simp,fun j x h=>by omega,fun x _ y hy=>by simp at hy⟩
theorem wK.len(a:ao aa) {l:List Key}{i q:Nat}(h:wK aa aA k l i q):l.length≤124:=by
 have:=Hi h.ie h.vf
 have:=a.len
 omega
theorem iH{l:List Key}{q:Nat}{y z:Key}(hy:l[q]?=some y) (a:z∈l.take (q+1)):z∈l.take q∨z=y:=by grind [List.take_succ_eq_append_getElem]
theorem wK.has{l:List Key}{i q:Nat}(h:wK aa aA k l i q) {x y:Key}(c:l[i]?=some x) (hy:(cX aa aA x)[q]?=some y) (hm:y∈l):wK aa aA k l i (q+1):=
 ⟨h.ie,h.vf,h.Pr,h.mem,h.cl,fun j f z a=>by
  rw [c] at f
  cases f
  rcases iH hy a with a | rfl
  ·
   exact h.cur x c z a
  exact hm⟩
theorem wK.add(u:ao aa) {l:List Key}{i q:Nat}(h:wK aa aA k l i q) {x y:Key}(c:l[i]?=some x) (hy:(cX aa aA x)[q]?=some y) (hm:y∉l):wK aa aA k (l++[y]) i (q+1):=by
 have f:=List.mem_of_getElem? c;have o:=List.mem_of_getElem? hy;have B:i<l.length:=(List.getElem?_eq_some_iff.1 c).1;refine⟨?_,fun z a=>?_,fun z a=>?_,by simp [h.mem],fun j z C a w hw=>?_,fun D p z a=>?_⟩
 ·
  grind [ie]
 ·
  rcases List.mem_append.1 a with a | a
  ·
   exact h.vf z a
  rw [List.mem_singleton] at a;exact a ▸ zH u (h.vf x f) y o
 ·
  rcases List.mem_append.1 a with a | a
  ·
   exact h.Pr z a
  rw [List.mem_singleton] at a;exact a ▸ .step (h.Pr x f) o
 ·
  rw [List.getElem?_append_left (by omega)] at a;exact List.mem_append_left _ (h.cl j z C a w hw)
 rw [List.getElem?_append_left B,c] at p
 cases p
 rcases iH hy a with a | rfl
 ·
  exact List.mem_append_left _ (h.cur x c z a)
 simp
theorem wK.next{l:List Key}{i q:Nat}(h:wK aa aA k l i q) {x:Key}(c:l[i]?=some x) (f:(cX aa aA x).length≤q):wK aa aA k l (i+1) 0:=
 ⟨h.ie,h.vf,h.Pr,h.mem,fun j z o a w hw=>by
  by_cases e:j=i
  ·
   subst e;rw [c] at a
   cases a
   exact h.cur x c w (by grind [List.take_of_length_le])
  exact h.cl j z (by omega) a w hw,fun z _ y hy=>by simp at hy⟩
theorem wK.done{l:List Key}{i:Nat}(h:wK aa aA k l i 0) (hi:l.length≤i) (y:Key):y∈l↔sX aa aA k y:=
 ⟨h.Pr y,fun hy=>by
  induction hy with
  | refl=>exact h.mem
  | step _ a c=>
   obtain⟨j,f,rfl⟩:=List.mem_iff_getElem.1 c;exact h.cl j _ (by omega) (List.getElem?_eq_getElem f) _ a⟩
def gQ(l:List Key):List (Key × Value):=l.map fun x=>(x,.bool true)
theorem rp(l:List Key) (y:Key):(aX (gQ l) y).getD (.bool false)=.bool (decide (y∈l)):=by
 unfold gQ
 induction l with
 | nil=>simp [aX]
 | cons x r a=>
  simp only [List.map_cons,aX]
  grind
theorem rq(l:List Key) {y:Key}(h:y∉l):bZ (gQ l) y (.bool true)=gQ (l++[y]):=by
 unfold gQ
 induction l with
 | nil=>rfl
 | cons x r a=>
  rw [List.mem_cons,not_or] at h;simp only [List.map_cons,List.cons_append,bZ];rw [if_neg (Ne.symm h.1),a h.2]
end
end Go.Rc

namespace Go.Rc
open Go
structure LR {α:Type}(A:Nat→Prop) (w:World) (k:Nat) (R:α→List Value→Prop) (a:Option Addr) (n:Nat) (xs:List α):Prop where
 len:n=xs.length
 le:n≤140737488355328
 at_:∀{i:Nat}{x:α},xs[i]?=some x→∃b o r,a=some ⟨b,o,none⟩∧r.length=k∧R x r∧w.rangeAt b (o+i*k) r∧A b∧b<w.heap.size
theorem SR.GJ{α:Type}{w:World}{k b E:Nat}{R:α→List Value→Prop}{xs:List α}{rows:List (List Value)}(h:bM w b E rows.flatten) (hl:xs.length=rows.length) (hk:∀r∈rows,r.length=k) (h1:∀u∈rows.flatten,u.oneCell'=true)
  (hle:rows.length≤140737488355328) (a:∀(i:Nat) (x:α) (r:List Value),xs[i]?=some x→rows[i]?=some r→R x r):SR (fun _=>True) w k R (some ⟨b,0,none⟩) rows.length rows.length xs:=by
 have hlen:rows.flatten.length=rows.length*k:=by
  clear h hl h1 hle a
  induction rows with
  | nil=>simp
  | cons r t f=>grind
 have c:=OL.blk (base:=0) (k:=k) h (Nat.zero_le _) hlen h1 hle;exact⟨hl.symm,rows,hl.symm,hk,c.sl (A:=fun _=>True) (fun _ _=>trivial) hle,a⟩
end Go.Rc

namespace Go.Rc
open Go
theorem LB.xK{aa:List aD}{x:cW}(h:LB aa x):lj aa x:=
 ⟨h.ok.BE.r0,h.ok.BE.r1,⟨h.aA.1,h.aA.2.1⟩,h.aA.k99,h.ok.Hg,fun r hr=>⟨h.ok.sV.key r hr,((eS _).1 (h.ok.BE.v r hr).1).2.2.1,(h.ok.sV.G6 r hr).2,(h.ok.BE.v r hr).1⟩,h.ok.BE.st,h.ok.sV.len,fun r hr=>(h.ok.BE.v r hr).2⟩
theorem LB.small{aa:List aD}{x:cW}(a:ao aa) (h:LB aa x):∀k,(valOf aa x.ab k).size≤1000:=zB a fun y hy=>(h.aA.2.2 y hy).2
theorem OR.Vi{α:Type}{R:α→List Value→Prop}{base b E k:Nat}{w:World}{x y:α}{r s:List Value}(h:bM w b E (r++s)) (hb:base≤b) (hr:r.length=k) (a:s.length=k) (h1:∀u∈r++s,u.oneCell'=true) (c:R x r) (hy:R y s):OR base w E k R (some ⟨b,0,none⟩) 2 2 [x,y]:=
 ⟨rfl,[r,s],rfl,by simp [hr,a],by grind [OL.blk],xH c hy⟩
end Go.Rc

namespace Go.Rc
open Go
section
variable {aa:List aD}{aA:List cj}
noncomputable def KI(aa:List aD) (aA:List cj) (i q:Nat):List ByteArray:=(dG (ca aa (aH aa (i:Int))) (valOf aa aA) q).2
noncomputable def Ew(aa:List aD) (aA:List cj) (i q:Nat):Key:=(ca aa (aH aa (i:Int)) (KI aa aA i q)).ask
theorem ru(i q:Nat):(KI aa aA i q).length=q:=(ed _ _ _).2
theorem j6{i q:Nat}(a:q<cy aa i):(cO aa aA i)[q]?=some (Ew aa aA i q):=by
 unfold cO Ew KI
 generalize cy aa i=n at a ⊢
 induction n with
 | zero=>omega
 | succ n c=>
  have hl:=(ed (ca aa (aH aa (i:Int))) (valOf aa aA) n).1;simp only [dG]
  grind
theorem CB(a:ao aa) {i:Nat}(hi:i<aa.length) (hr:ax aa i=true):cc (valOf aa aA (aH aa (i:Int)))=rv aa aA i:=by grind [fx,fS,dV,pk]
end
end Go.Rc

namespace Go.Rc
open Go
section
variable {aa:List aD}{aA:List cj}{k:Key}{L:List Key}
theorem nL{x:Key}(h:aw x=true):cX aa aA x=[]:=if_pos h
end
end Go.Rc

namespace Go.Rc
open Go
section
variable {aa:List aD}{aA:List cj}
theorem cv.trans{i j k:Nat}(h:cv aa i j) (a:cv aa j k):cv aa i k:=by
 induction a with
 | refl=>exact h
 | step _ c f=>exact .step f c
variable {lo n q v:Nat}{S:List Int}{r:aD}
end
end Go.Rc

namespace Go.Rc
open Go
section
variable {aa:List aD}{aA nM:List cj}
theorem sX.trans{k x y:Key}(h:sX aa aA k x) (a:sX aa aA x y):sX aa aA k y:=by
 induction a with
 | refl=>exact h
 | step _ c f=>exact .step f c
end
end Go.Rc
namespace Go.Rc
open Go
end Go.Rc

