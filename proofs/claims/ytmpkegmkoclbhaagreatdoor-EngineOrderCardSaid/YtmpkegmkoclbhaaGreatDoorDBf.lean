/- Base of the proof: frames, memory, ownership, and the plain meaning of rule systems. Conditions: as each lemma says. -/
import Derived.Test.YtmpkegmkoclbhaaGreatDoorDBe
import Derived.Test.YtmpkegmkoclbhaaGreatDoorDBd
import Derived.Test.YtmpkegmkoclbhaaGreatDoorDBc
import Derived.Laws.IdiomRangeMap
set_option linter.all false
namespace Go.Rc
open Go
/-! ### counting -/
def DC(p:Nat→Bool):Nat→Nat
 | 0=>0
 | n+1=>DC p n+(p n).toNat
theorem ru{p q:Nat→Bool}:∀{n:Nat},(∀i,i<n→p i=true→q i=true)→DC p n≤DC q n
 | 0,_=>Nat.le_refl _
 | n+1,h=>by
  have h1:=ru (n:=n) fun i hi=>h i (by omega)
  have j:=h n (by omega);simp only [DC]
  cases o:p n with
  | false=>simp;omega
  | true=>rw [j o];omega
theorem ry{p q:Nat→Bool}{j:Nat}:∀{n:Nat},(∀i,i<n→p i=true→q i=true)→j<n→q j=true→p j=false→DC p n+1≤DC q n
 | 0,_,r,_,_=>by omega
 | n+1,h,r,h1,o=>by
  simp only [DC]
  rcases Nat.lt_or_ge j n with v | C
  ·
   have y:=ry (n:=n) (fun i hi=>h i (by omega)) v h1 o;have z:=h n (by omega)
   cases B:p n with
   | false=>simp;omega
   | true=>rw [z B];omega
  have e:j=n:=by omega
  subst e
  have y:=ru (n:=j) (p:=p) (q:=q) fun i hi=>h i (by omega)
  rw [h1,o];simp;omega
theorem Gt{p q:Nat→Bool}{j:Nat}:∀{n:Nat},(∀i,i<n→i≠j→p i=true→q i=true)→DC p n≤DC q n+1
 | 0,_=>by simp [DC]
 | n+1,h=>by
  simp only [DC]
  by_cases e:n=j
  ·
   subst e
   have v:=ru (n:=n) (p:=p) (q:=q) fun i hi=>h i (by omega) (by omega)
   cases p n <;> cases q n <;> simp <;> omega
  have h1:=Gt (n:=n) fun i hi=>h i (by omega)
  have o:=h n (by omega) e
  cases r:p n with
  | false=>simp;omega
  | true=>rw [o r];simp;omega
theorem OK(p:Nat→Bool):∀n,DC p n≤n
 | 0=>Nat.le_refl _
 | n+1=>by have:=OK p n;simp only [DC];cases p n <;> simp <;> omega
/-! ### what is found in what was put -/
theorem Gu:∀(a b:List UInt8),Lib.compareBytes a b=0→a=b
 | [],[],_=>rfl
 | [],_::_,h=>by simp [Lib.compareBytes] at h
 | _::_,[],h=>by simp [Lib.compareBytes] at h
 | x::a,y::b,h=>by
  simp only [Lib.compareBytes] at h
  split at h
  ·
   cases h
  split at h
  ·
   cases h
  rename_i h1 i
  have e:x=y:=by grind
  rw [e,Gu a b h]
theorem l4{a b:Key}(h:bC a b=0):a=b:=by
 unfold bC at h
 split at h
 ·
  cases h
 split at h
 ·
  cases h
 rename_i h1 i
 have j:=Gu _ _ h;obtain⟨p,o⟩:=a;obtain⟨q,r⟩:=b;simp only at h1 i j
 congr 1
 ·
  omega
 cases o;simp_all
theorem BH(r:Rec) (k:Key):∀(l:List Rec) (b:Bool),aA (fe r l b) k=if k=r.key then (if b then none else some r) else aA l k:=by
 intro l
 induction l with
 | nil=>
  intro b
  unfold fe aA
  grind
 | cons x xs i=>
  intro b;have h1:=i (b || decide (0≤bC x.key r.key))
  unfold fe
  unfold aA at h1 ⊢
  rw [List.find?_append,List.find?_append,h1]
  by_cases h:k=r.key
  ·
   subst h;simp only [if_true]
   by_cases hc:bC x.key r.key=0
   ·
    grind
   have o:x.key≠r.key:=fun e=>hc (by rw [e];exact iy _)
   grind
  simp only [if_neg h]
  have hr:(r.key == k)=false:=by simp;exact fun e=>h e.symm
  have j:(List.find? (fun y=>y.key == k) (if (decide (0≤bC x.key r.key) && !b)=true then [r] else []))=none:=by split <;> simp [hr]
  rw [j]
  by_cases hc:bC x.key r.key=0
  ·
   have e:x.key=r.key:=l4 hc
   grind
  grind
theorem ck(l:List Rec) (r:Rec) (k:Key):aA (dK l r) k=if k=r.key then some r else aA l k:=by grind [dK,BH]
theorem rz(f:Rec→Rec) (h:∀r,(f r).key=r.key) (k:Key) (l:List Rec):aA (l.map f) k=(aA l k).map f:=by
 unfold aA
 rw [List.find?_map,show((fun x:Rec=>x.key == k)∘f)=(fun x:Rec=>x.key == k) from funext fun x=>by simp [h]]
/-! ### what goes on being so -/
theorem aL{x:bZ}{k:Key}:ay x k=true↔∃r,aA x.ah k=some r∧r.av=x.ad:=by
 unfold ay aC
 cases h:aA x.ah k with
 | none=>simp
 | some r=>simp
theorem Ef{x:bZ}{g:List Key}{d:Bool}{k:Key}(h:ay x k=true):ay (cI x g d) k=true:=by
 obtain⟨r,h1,i⟩:=aL.1 h;refine aL.2 ⟨aX x.ad g d r,?_,?_⟩
 ·
  show aA (x.ah.map (aX x.ad g d)) k=_
  grind [rz,cR]
 show _=x.ad
 unfold aX
 grind
theorem gX{x:bZ}{g:List Key}{k:Key}(h:(aA x.ah k).isSome=true) (hk:k∈g):ay (cI x g false) k=true:=by
 obtain⟨r,h1⟩:=Option.isSome_iff_exists.1 h;have i:=List.find?_some h1
 simp at i
 refine aL.2 ⟨aX x.ad g false r,?_,?_⟩
 ·
  show aA (x.ah.map (aX x.ad g false)) k=_
  grind [rz,cR]
 show _=x.ad
 grind [aX]
theorem Hr{x:bZ}{r:Rec}{k:Key}(hr:r.av=x.ad) (h:ay x k=true):ay {x with ah:=dK x.ah r} k=true:=by
 obtain⟨q,h1,i⟩:=aL.1 h
 by_cases e:k=r.key
 ·
  exact aL.2 ⟨r,by show aA (dK x.ah r) k=_;rw [ck,if_pos e],hr⟩
 exact aL.2 ⟨q,by show aA (dK x.ah r) k=_;rw [ck,if_neg e,h1],i⟩
theorem jh{x:bZ}{r:Rec}(hr:r.av=x.ad):ay {x with ah:=dK x.ah r} r.key=true:=
 aL.2 ⟨r,by show aA (dK x.ah r) r.key=_;rw [ck,if_pos rfl],hr⟩
theorem Eg(l:List Rec) (rev:Int) (k:Key):k∈aB l rev k:=by grind [aB,od]
structure iF (s s':ES):Prop where
 on:∀k,s'.on k=s.on k
 up:∀k,ay s.b k=true→ay s'.b k=true
theorem iF.refl(s:ES):iF s s:=⟨fun _=>rfl,fun _ h=>h⟩
theorem iF.trans{s t u:ES}(h:iF s t) (i:iF t u):iF s u:=⟨fun k=>(i.on k).trans (h.on k),fun k hk=>i.up k (h.up k hk)⟩
theorem iF.there{s s':ES}(h:iF s s') {k:Key}(ht:eu s k=true):eu s' k=true:=by
 unfold eu at ht ⊢
 rw [h.on k];simp only [Bool.or_eq_true] at ht ⊢
 rcases ht with h1 | h1 | h1
 ·
  exact .inl h1
 ·
  exact .inr (.inl h1)
 exact .inr (.inr (h.up k h1))
def gz(aa:List aH) (s:ES):Nat:=DC (fun i=>!ay s.b (aM aa (i:Int)) && !s.on (aM aa (i:Int))) aa.length
def off(aa:List aH) (s:ES):Nat:=DC (fun i=>!s.on (aM aa (i:Int))) aa.length
theorem iF.gz{aa:List aH}{s s':ES}(h:iF s s'):gz aa s'≤gz aa s:=ru fun i _ j=>by
 simp only [Bool.and_eq_true,Bool.not_eq_true'] at j ⊢;rw [h.on] at j;refine⟨?_,j.2⟩
 cases hu:ay s.b (aM aa (i:Int)) with
 | false=>rfl
 | true=>rw [h.up _ hu] at j;exact absurd j.1 (by simp)
theorem iF.off{aa:List aH}{s s':ES}(h:iF s s'):Go.Rc.off aa s'=Go.Rc.off aa s:=by
 unfold Go.Rc.off
 congr 1
 funext i
 rw [h.on]
section
variable {aa:List aH}{val:Key→ByteArray}{aD:List ct}
theorem nt(s:ES) (k k':Key):ES.on {s with busy:=cM s.busy k (.bool true)} k'=(decide (k=k') || s.on k'):=by
 unfold ES.on
 simp only [ek]
 by_cases h:k=k' <;> simp [h]
theorem Eh{s:ES}(hn:(s.busy.map (·.1)).Nodup) (k k':Key):ES.on {s with busy:=iX s.busy k} k'=(!decide (k=k') && s.on k'):=by
 unfold ES.on
 simp only [Bg hn]
 by_cases h:k=k' <;> simp [h]
def UpK(aa:List aH) (val:Key→ByteArray) (aD:List ct) (f:Nat):Prop:=∀s k s',kW aa val f s k=some s'→Good aa aD s→ep aa k→iF s s'∧(s'.e=0→s.e=0∧(aw k=true∨eu s' k=true))∧s'.a8.length+gz aa s'≤s.a8.length+gz aa s
def ChK(aa:List aH) (val:Key→ByteArray) (aD:List ct) (f:Nat):Prop:=∀s k n s' b,cP aa val f s k n=some (s',b)→Good aa aD s→iF s s'∧(s'.e=0→s.e=0∧(b=false→ay s'.b k=true))∧s'.a8.length+gz aa s'≤s.a8.length+gz aa s
def RuK(aa:List aH) (val:Key→ByteArray) (aD:List ct) (f:Nat):Prop:=∀s k reads ae s',gQ aa val f s k reads ae=some s'→Good aa aD s→gZ aa k ae.length→iF s s'∧(s'.e=0→s.e=0∧ay s'.b k=true)∧(s'.a8.length+gz aa s'≤s.a8.length+gz aa s∨(ay s'.b k=true∧s'.a8.length+gz aa s'≤s.a8.length+gz aa s+1))
theorem iF.err(s:ES) (e:Int):iF s {s with e:=e}:=⟨fun _=>rfl,fun _ h=>h⟩
theorem iF.mark(s:ES) (g:List Key) (d:Bool):iF s {s with b:=cI s.b g d}:=⟨fun _=>rfl,fun _ h=>Ef h⟩
theorem iz(hR:aq aa):∀f,UpK aa val aD f∧ChK aa val aD f∧RuK aa val aD f:=by
 intro f
 induction f with
 | zero=>exact⟨fun s k s' h=>by simp [kW] at h,fun s k n s' b h=>by simp [cP] at h,fun s k r a s' h=>by simp [gQ] at h⟩
 | succ f ih=>
  obtain⟨S,D,F⟩:=ih;have gd:=cz (val:=val) (aD:=aD) hR f;refine⟨?_,?_,?_⟩
  ·
   intro s k s' h p hk
   unfold kW at h
   split at h
   ·
    rename_i he
    cases h
    refine⟨.refl _,fun h0=>⟨h0,?_⟩,Nat.le_refl _⟩
    grind
   rename_i he
   have he0:s.e=0:=by simp at he;exact he.1
   have G:aw k=false:=by simp at he;exact he.2
   split at h
   ·
    rename_i hu
    cases h
    exact⟨.refl _,fun h0=>⟨h0,.inr (by unfold eu;rw [hu];simp)⟩,Nat.le_refl _⟩
   rename_i hu
   split at h
   ·
    rename_i H
    split at h
    ·
     rename_i hc
     cases h
     exact⟨.refl _,fun h0=>⟨h0,.inr (by unfold eu;rw [H,hc];simp)⟩,Nat.le_refl _⟩
    cases h
    exact⟨.err _ _,fun h0=>by simp at h0,Nat.le_refl _⟩
   rename_i H
   have hu':ay s.b k=false:=by simpa using hu
   have LF:s.on k=false:=by simpa using H
   obtain⟨⟨s2,b2⟩,z,h⟩:=Option.bind_eq_some_iff.1 h;obtain⟨o,ht,h⟩:=Option.bind_eq_some_iff.1 h;simp only [Option.some.injEq] at h;subst h;obtain⟨i,hi,hki,_⟩:=hk.gM G;obtain⟨I,_⟩:=gd.2.1 _ _ _ _ _ z (p.on k);obtain⟨U,he2,ht2⟩:=D _ _ _ _ _ z (p.on k)
   -- the state before, with k under way
   have h1:gz aa {s with busy:=cM s.busy k (.bool true)}+1≤gz aa s:=by
    refine ry (j:=i) (fun j _ v=>?_) hi ?_ ?_
    ·
     simp only [nt,Bool.and_eq_true,Bool.not_eq_true',Bool.or_eq_false_iff] at v ⊢;exact⟨v.1,v.2.2⟩
    ·
     grind
    grind [nt]
   have B:Good aa aD o∧iF s2 o∧(o.e=0→s2.e=0∧ay o.b k=true)∧(o.a8.length+gz aa o≤s2.a8.length+gz aa s2∨(ay o.b k=true∧o.a8.length+gz aa o≤s2.a8.length+gz aa s2+1)):=by
    split at ht
    ·
     obtain⟨a,b,c⟩:=F _ _ _ _ _ ht I (hk.gM G);exact⟨(gd.2.2 _ _ _ _ _ ht I (hk.gM G) rfl (fun a C=>by cases C)).1,a,b,c⟩
    rename_i hb
    simp only [Option.some.injEq] at ht;subst ht;exact⟨I,.refl _,fun h0=>⟨h0,(he2 h0).2 (by simpa using hb)⟩,.inl (Nat.le_refl _)⟩
   obtain⟨J,V,he3,ht3⟩:=B
   have IC:∀k',o.on k'=(decide (k=k') || s.on k'):=fun k'=>by rw [V.on,U.on,nt]
   have q:iF s {o with busy:=iX o.busy k}:=⟨fun k'=>by
    rw [Eh J.jP,IC]
    grind,fun k' h=>V.up _ (U.up _ h)⟩
   refine⟨q,fun h0=>⟨he0,.inr ?_⟩,?_⟩
   ·
    have:=(he3 h0).2
    show eu {o with busy:=iX o.busy k} k=true
    unfold eu
    grind
   show o.a8.length+gz aa {o with busy:=iX o.busy k}≤_
   have amo:s2.a8.length+gz aa s2≤s.a8.length+gz aa {s with busy:=cM s.busy k (.bool true)}:=ht2
   by_cases hu3:ay o.b k=true
   ·
    have:gz aa {o with busy:=iX o.busy k}≤gz aa o:=ru fun j _ v=>by
     simp only [Eh J.jP,Bool.and_eq_true,Bool.not_eq_true',Bool.and_eq_false_iff] at v ⊢
     grind
    omega
   have y:gz aa {o with busy:=iX o.busy k}≤gz aa o+1:=Gt (j:=i) fun j v Bb z=>by
    simp only [Eh J.jP,Bool.and_eq_true,Bool.not_eq_true',Bool.and_eq_false_iff] at z ⊢
    grind [eb]
   grind
  ·
   intro s k n s' b h p
   unfold cP at h
   split at h
   ·
    rename_i he
    cases h;exact⟨.refl _,fun h0=>absurd h0 he,Nat.le_refl _⟩
   split at h
   ·
    cases h;exact⟨.refl _,fun h0=>⟨h0,fun hb=>by cases hb⟩,Nat.le_refl _⟩
   rename_i hf
   have W:(aA s.b.ah k).isSome=true:=by grind
   split at h
   ·
    rename_i hv
    cases h;exact⟨.refl _,fun h0=>⟨h0,fun _=>by unfold ay;rw [W,hv];simp⟩,Nat.le_refl _⟩
   split at h
   ·
    cases h
    have q:iF s {s with b:=cI s.b (aB s.b.ah s.b.ad k) false}:=.mark _ _ _;exact⟨q,fun h0=>⟨h0,fun _=>gX W (Eg _ _ _)⟩,Nat.add_le_add_left q.gz _⟩
   rename_i c hc
   split at h
   ·
    obtain⟨t,ht,h⟩:=Option.bind_eq_some_iff.1 h;obtain⟨h1,O,B⟩:=S _ _ _ ht p (fR p hc);obtain⟨Q,y,X⟩:=D _ _ _ _ _ h (gd.1 _ _ _ ht p (fR p hc)).1;exact⟨h1.trans Q,fun h0=>⟨(O (y h0).1).1,(y h0).2⟩,Nat.le_trans X B⟩
   split at h
   ·
    split at h <;> cases h
    ·
     have q:iF s {s with b:=cI s.b (aB s.b.ah s.b.ad k) true}:=.mark _ _ _;exact⟨q,fun h0=>⟨h0,fun hb=>by cases hb⟩,Nat.add_le_add_left q.gz _⟩
    exact⟨.refl _,fun h0=>⟨h0,fun hb=>by cases hb⟩,Nat.le_refl _⟩
   exact D _ _ _ _ _ h p
  intro s k reads ae s' h p C
  unfold gQ at h
  split at h
  ·
   rename_i he
   cases h;exact⟨.refl _,fun h0=>absurd h0 he,.inl (Nat.le_refl _)⟩
  rename_i he
  split at h
  ·
   split at h
   ·
    cases h;exact⟨.err _ _,fun h0=>by simp at h0,.inl (Nat.le_refl _)⟩
   cases h
   have q:iF s {s with b:={s.b with ah:=dK s.b.ah (bs s.b k (aG aa k ae).value reads)},a8:=s.a8++[k]}:=⟨fun _=>rfl,fun _ h=>Hr rfl h⟩;have hu:ay ({s.b with ah:=dK s.b.ah (bs s.b k (aG aa k ae).value reads)}:bZ) k=true:=jh (r:=bs s.b k (aG aa k ae).value reads) rfl;refine⟨q,fun h0=>⟨h0,hu⟩,.inr ⟨hu,?_⟩⟩
   have:=q.gz (aa:=aa)
   grind
  rename_i hd
  obtain⟨t,ht,h⟩:=Option.bind_eq_some_iff.1 h;have hn:=C.next hR (by simpa using hd);obtain⟨h1,O,B⟩:=S _ _ _ ht p hn.2;have Y:=(gd.1 _ _ _ ht p hn.2).1
  have h7:iF t s'∧(s'.e=0→t.e=0∧ay s'.b k=true)∧(s'.a8.length+gz aa s'≤t.a8.length+gz aa t∨(ay s'.b k=true∧s'.a8.length+gz aa s'≤t.a8.length+gz aa t+1)):=by
   split at h
   ·
    exact F _ _ _ _ _ h Y (by simpa using hn.1)
   exact F _ _ _ _ _ h Y C
  obtain⟨Q,y,X⟩:=h7;refine⟨h1.trans Q,fun h0=>⟨(O (y h0).1).1,(y h0).2⟩,?_⟩
  grind
/-! ### more fuel does no harm -/
theorem nv:∀f,(∀s k s',kW aa val f s k=some s'→kW aa val (f+1) s k=some s')∧(∀s k n p,cP aa val f s k n=some p→cP aa val (f+1) s k n=some p)∧(∀s k r a s',gQ aa val f s k r a=some s'→gQ aa val (f+1) s k r a=some s'):=by
 intro f
 induction f with
 | zero=>grind [kW,cP,gQ]
 | succ f o=>
  obtain⟨v,y,z⟩:=o;refine⟨?_,?_,?_⟩
  ·
   intro s k s' h
   unfold kW at h ⊢
   split at h
   ·
    grind
   rename_i h1;rw [if_neg h1]
   split at h
   ·
    grind
   rename_i i;rw [if_neg i]
   split at h
   ·
    grind
   rename_i j;rw [if_neg j]
   obtain⟨p,B,h⟩:=Option.bind_eq_some_iff.1 h;obtain⟨C,ht,h⟩:=Option.bind_eq_some_iff.1 h
   grind
  ·
   intro s k n p h
   unfold cP at h ⊢
   split at h
   ·
    grind
   rename_i h1;rw [if_neg h1]
   split at h
   ·
    grind
   rename_i i;rw [if_neg i]
   split at h
   ·
    grind
   rename_i j;rw [if_neg j]
   split at h
   ·
    exact h
   rename_i c hc
   split at h
   ·
    rename_i q;rw [if_pos q]
    grind [Option.bind_eq_some_iff]
   grind
  intro s k r a s' h
  unfold gQ at h ⊢
  split at h
  ·
   grind
  rename_i h1;rw [if_neg h1]
  split at h
  ·
   grind
  rename_i i;rw [if_neg i]
  obtain⟨t,ht,h⟩:=Option.bind_eq_some_iff.1 h
  grind
theorem oe{f g:Nat}(h:f≤g) {s:ES}{k:Key}{s':ES}(hu:kW aa val f s k=some s'):kW aa val g s k=some s':=by
 induction h with
 | refl=>exact hu
 | step _ i=>exact(nv _).1 _ _ _ i
theorem pd{f g:Nat}(h:f≤g) {s:ES}{k:Key}{n:Nat}{p:ES × Bool}(hu:cP aa val f s k n=some p):cP aa val g s k n=some p:=by
 induction h with
 | refl=>exact hu
 | step _ i=>exact(nv _).2.1 _ _ _ _ i
theorem uw{f g:Nat}(h:f≤g) {s:ES}{k:Key}{r:List Key}{a:List ByteArray}{s':ES}(hu:gQ aa val f s k r a=some s'):gQ aa val g s k r a=some s':=by
 induction h with
 | refl=>exact hu
 | step _ i=>exact(nv _).2.2 _ _ _ _ _ i
/-! ### there is fuel enough -/
theorem Ei(hR:aq aa) {d:Nat}(D:∀s k,Good aa aD s→ep aa k→off aa s≤d→∃f s',kW aa val f s k=some s') (k:Key) :
  ∀(m:Nat) (s:ES) (n:Nat),gz aa s*200000000+(200000000 - n)≤m→n≤100000000→Good aa aD s→off aa s≤d→∃f p,cP aa val f s k n=some p:=by
 intro m
 induction m using Nat.strongRecOn with
 | _ m B=>
  intro s n hm hn h v
  by_cases h1:s.e≠0
  ·
   exact⟨1,(s,false),by unfold cP;rw [if_pos h1]⟩
  by_cases o:(!(aA s.b.ah k).isSome || (aC s.b.ah k).bq)=true
  ·
   exact⟨1,(s,true),by unfold cP;rw [if_neg h1,if_pos o]⟩
  by_cases r:(aC s.b.ah k).av=s.b.ad
  ·
   exact⟨1,(s,false),by unfold cP;grind⟩
  have F:(aB s.b.ah s.b.ad k).length≤4001:=by grind [kn,Good.len]
  have W:=tM h F
  cases hc:(bR s.b.ah (aB s.b.ah s.b.ad k))[n]? with
  | none=>exact⟨1,_,by unfold cP;rw [if_neg h1,if_neg o,if_neg r,hc]⟩
  | some c=>
   have X:n<(bR s.b.ah (aB s.b.ah s.b.ad k)).length:=(List.getElem?_eq_some_iff.1 hc).1
   by_cases y:eu s c.read=false
   ·
    obtain⟨f,t,ht⟩:=D s c.read h (fR h hc) v;obtain⟨z,Y,_⟩:=(iz (val:=val) hR f).1 _ _ _ ht h (fR h hc);have G:=((cz (val:=val) hR f).1 _ _ _ ht h (fR h hc)).1
    have H:aw c.read=false:=by grind [eu]
    by_cases I:t.e=0
    ·
     obtain⟨i,hi,C,_⟩:=(fR h hc).gM H
     have Mr:eu t c.read=true:=by grind
     have AE:gz aa t+1≤gz aa s:=by
      have J:ay s.b c.read=false:=by grind [eu]
      have hoc:(s.on c.read && az c.read)=false:=by grind [eu]
      have O:ay t.b c.read=true:=by grind [eu,iF.on]
      have Q:s.on c.read=false:=by
       cases ho:s.on c.read with
       | false=>rfl
       | true=>
        exfalso
        cases f with
        | zero=>simp [kW] at ht
        | succ f=>
         unfold kW at ht
         grind
      refine ry (j:=i) (fun j _ q=>?_) hi ?_ ?_
      ·
       simp only [Bool.and_eq_true,Bool.not_eq_true'] at q ⊢;rw [z.on] at q;refine⟨?_,q.2⟩
       cases S:ay s.b (aM aa (j:Int)) with
       | false=>rfl
       | true=>rw [z.up _ S] at q;exact absurd q.1 (by simp)
      ·
       rw [← C,J,Q];rfl
      rw [← C,O];rfl
     obtain⟨f2,p,U⟩:=B (gz aa t*200000000+(200000000 - n)) (by omega) t n (Nat.le_refl _) hn G (by rw [z.off];exact v);refine⟨max f f2+1,p,?_⟩
     unfold cP
     rw [if_neg h1,if_neg o,if_neg r,hc]
     simp only
     rw [if_pos y,oe (Nat.le_max_left _ _) ht]
     grind [pd,Nat.le_max_right]
    refine⟨max f 1+1,(t,false),?_⟩
    unfold cP
    rw [if_neg h1,if_neg o,if_neg r,hc]
    simp only
    rw [if_pos y,oe (Nat.le_max_left _ _) ht];refine pd (f:=1) (Nat.le_max_right _ _) ?_
    unfold cP
    rw [if_pos I]
   by_cases V:(aC s.b.ah c.dC).av<aV val s.b c.read
   ·
    exact⟨1,_,by unfold cP;rw [if_neg h1,if_neg o,if_neg r,hc];simp only;rw [if_neg y,if_pos V]⟩
   obtain⟨f2,p,U⟩:=B (gz aa s*200000000+(200000000 - (n+1))) (by omega) s (n+1) (Nat.le_refl _) (by omega) h v;refine⟨f2+1,p,?_⟩
   unfold cP
   grind
theorem JC(hR:aq aa) {d:Nat}(v:∀s k,Good aa aD s→ep aa k→off aa s≤d→∃f s',kW aa val f s k=some s') (k:Key) :
  ∀(m:Nat) (s:ES) (reads:List Key) (ae:List ByteArray),7 - ae.length≤m→Good aa aD s→gZ aa k ae.length→off aa s≤d→∃f s',gQ aa val f s k reads ae=some s':=by
 intro m
 induction m with
 | zero=>intro s r a hm _ i _;have:=i.le hR;omega
 | succ m y=>
  intro s reads ae hm j i p
  by_cases h1:s.e≠0
  ·
   exact⟨1,s,by unfold gQ;rw [if_pos h1]⟩
  by_cases h:(aG aa k ae).done=true
  ·
   by_cases q:(!(aA s.b.ah k).isSome && decide (4000≤s.b.ah.length))=true
   ·
    exact⟨1,_,by unfold gQ;rw [if_neg h1,if_pos h,if_pos q]⟩
   exact⟨1,_,by unfold gQ;rw [if_neg h1,if_pos h,if_neg q]⟩
  have hn:=i.next hR (by simpa using h);obtain⟨f,t,ht⟩:=v s _ j hn.2 p;obtain⟨z,_,_⟩:=(iz (val:=val) hR f).1 _ _ _ ht j hn.2;have B:=((cz (val:=val) hR f).1 _ _ _ ht j hn.2).1
  by_cases o:t.e=0
  ·
   obtain⟨f2,s',C⟩:=y t (reads++[(aG aa k ae).ask]) (ae++[bS val t.b (aG aa k ae).ask]) (by simp;omega) B (by simpa using hn.1) (by rw [z.off];exact p);refine⟨max f f2+1,s',?_⟩
   unfold gQ
   rw [if_neg h1,if_neg h,oe (Nat.le_max_left _ _) ht];simp only [Option.bind_some];rw [if_pos o]
   grind [uw,Nat.le_max_right]
  refine⟨max f 1+1,t,?_⟩
  unfold gQ
  rw [if_neg h1,if_neg h,oe (Nat.le_max_left _ _) ht];simp only [Option.bind_some];rw [if_neg o];refine uw (f:=1) (Nat.le_max_right _ _) ?_
  unfold gQ
  rw [if_pos o]
theorem Ms(hR:aq aa):∀(d:Nat) (s:ES) (k:Key),Good aa aD s→ep aa k→off aa s≤d→∃f s',kW aa val f s k=some s':=by
 intro d
 induction d with
 | zero=>
  intro s k p hk C
  by_cases h1:s.e≠0∨aw k=true
  ·
   exact⟨1,s,by unfold kW;rw [if_pos h1]⟩
  by_cases h:ay s.b k=true
  ·
   exact⟨1,s,by unfold kW;rw [if_neg h1,if_pos h]⟩
  by_cases o:s.on k=true
  ·
   by_cases q:az k=true
   ·
    exact⟨1,s,by unfold kW;grind⟩
   exact⟨1,_,by unfold kW;rw [if_neg h1,if_neg h,if_pos o,if_neg q]⟩
  exfalso
  obtain⟨i,hi,r,_⟩:=hk.gM (by simp at h1;exact h1.2)
  have:off aa {s with busy:=cM s.busy k (.bool true)}+1≤off aa s:=by
   refine ry (j:=i) (fun j _ D=>?_) hi ?_ ?_
   ·
    grind [nt]
   ·
    rw [← r];simpa using o
   grind [nt]
  omega
 | succ d y=>
  intro s k p hk C
  by_cases h1:s.e≠0∨aw k=true
  ·
   exact⟨1,s,by unfold kW;rw [if_pos h1]⟩
  by_cases h:ay s.b k=true
  ·
   exact⟨1,s,by unfold kW;rw [if_neg h1,if_pos h]⟩
  by_cases o:s.on k=true
  ·
   by_cases q:az k=true
   ·
    exact⟨1,s,by unfold kW;grind⟩
   exact⟨1,_,by unfold kW;rw [if_neg h1,if_neg h,if_pos o,if_neg q]⟩
  have z:aw k=false:=by simp at h1;exact h1.2
  obtain⟨i,hi,r,_⟩:=hk.gM z
  have H:off aa {s with busy:=cM s.busy k (.bool true)}+1≤off aa s:=by
   refine ry (j:=i) (fun j _ D=>?_) hi ?_ ?_
   ·
    grind [nt]
   ·
    rw [← r];simpa using o
   grind [nt]
  obtain⟨f,⟨s2,b2⟩,v⟩:=Ei (val:=val) hR y k _ {s with busy:=cM s.busy k (.bool true)} 0 (Nat.le_refl _) (by omega) (p.on k) (by omega);have F:=((cz (val:=val) hR f).2.1 _ _ _ _ _ v (p.on k)).1;have G:=((iz (val:=val) hR f).2.1 _ _ _ _ _ v (p.on k)).1
  cases b2 with
  | false=>
   refine⟨f+1,{s2 with busy:=iX s2.busy k},?_⟩
   unfold kW
   grind
  | true=>
   obtain⟨f2,B,I⟩:=JC (val:=val) hR y k _ s2 [] [] (Nat.le_refl _) F (hk.gM z) (by rw [G.off];omega);refine⟨max f f2+1,{B with busy:=iX B.busy k},?_⟩
   unfold kW
   rw [if_neg h1,if_neg h,if_neg o,pd (Nat.le_max_left _ _) v];simp only [Option.bind_some,if_true]
   grind [uw,Nat.le_max_right]
end
end Go.Rc

namespace Go.Rc
open Go
noncomputable def dM(aa:List aH) (val:Key→ByteArray) (f:Nat):ES→List Key→Option ES
 | s,[]=>some s
 | s,k::r=>(kW aa val f s k).bind fun t=>dM aa val f t r
def ES.base(s:ES) (x:bZ):bZ:=if s.e=0 then s.b else x
noncomputable def ES.list(s:ES):List Key:=if s.e=0 then jR s.a8 else []
theorem pe{aa:List aH}{aD:List ct}{val:Key→ByteArray}(hR:aq aa) {f:Nat}:∀{l:List Key}{s s':ES},dM aa val f s l=some s'→Good aa aD s→(∀k∈l,ep aa k)→Good aa aD s'∧Gs s s'
 | [],s,s',h,i,_=>by simp only [dM,Option.some.injEq] at h;subst h;exact⟨i,.refl _⟩
 | k::r,s,s',h,i,hk=>by
  simp only [dM] at h;obtain⟨t,h1,p⟩:=Option.bind_eq_some_iff.1 h;have j:=(cz (val:=val) hR f).1 _ _ _ h1 i (hk k (by simp))
  have o:=pe hR p j.1 fun k q=>hk k (by simp [q])
  exact⟨o.1,j.2.trans o.2⟩
theorem St.VS{κ:Type}{enc:κ→Value}{w0 w:World}{M Z:Nat→Prop}{l:List As}{s m T:Nat}{cs:List Value}{q:List (κ × Value)}(h:St w0 M Z w (As.blk s T cs::As.map enc m q::l)):s≠m:=fun e=>by
 have h1:=(List.pairwise_cons.1 h.rh).1 (As.map enc m q) (by simp) s rfl;exact h1 e
end Go.Rc

namespace Go.Rc
open Go
/-! ### the order of keys -/
theorem xG:∀a b:List UInt8,Lib.compareBytes b a = - Lib.compareBytes a b
 | [],[]=>rfl
 | [],_::_=>rfl
 | _::_,[]=>rfl
 | x::a,y::b=>by
  simp only [Lib.compareBytes]
  by_cases h1:x<y
  ·
   grind
  by_cases h:y<x
  ·
   grind
  rw [if_neg h,if_neg h1,if_neg h1,if_neg h,xG a b]
theorem ux:∀a b c:List UInt8,Lib.compareBytes a b<0→Lib.compareBytes b c<0→Lib.compareBytes a c<0
 | _,[],[],_,h=>by simp [Lib.compareBytes] at h
 | [],[],_::_,h,_=>by simp [Lib.compareBytes] at h
 | _::_,[],_::_,h,_=>by simp [Lib.compareBytes] at h
 | _,_::_,[],_,h=>by simp [Lib.compareBytes] at h
 | [],_::_,_::_,_,_=>by simp [Lib.compareBytes]
 | x::a,y::b,z::c,h1,i=>by
  simp only [Lib.compareBytes] at h1 i ⊢
  by_cases e1:x<y
  ·
   grind
  rw [if_neg e1] at h1
  by_cases e3:y<x
  ·
   rw [if_pos e3] at h1;simp at h1
  rw [if_neg e3] at h1
  by_cases e2:y<z
  ·
   grind
  rw [if_neg e2] at i
  by_cases e4:z<y
  ·
   rw [if_pos e4] at i;simp at i
  rw [if_neg e4] at i;rw [if_neg (by grind),if_neg (by grind)];exact ux a b c h1 i
theorem ji(a b:Key):bC b a = - bC a b:=by
 unfold bC
 by_cases h1:a.kind<b.kind
 ·
  grind
 by_cases h:b.kind<a.kind
 ·
  grind
 rw [if_neg h,if_neg h1,if_neg h1,if_neg h,xG]
theorem il{a b c:Key}(h1:bC a b<0) (h:bC b c<0):bC a c<0:=by
 unfold bC at h1 h ⊢
 by_cases e1:a.kind<b.kind
 ·
  grind
 rw [if_neg e1] at h1
 by_cases e4:b.kind<a.kind
 ·
  rw [if_pos e4] at h1;simp at h1
 rw [if_neg e4] at h1
 by_cases e2:b.kind<c.kind
 ·
  rw [if_pos (by omega)];decide
 rw [if_neg e2] at h
 by_cases e3:c.kind<b.kind
 ·
  rw [if_pos e3] at h;simp at h
 rw [if_neg e3] at h;rw [if_neg (by omega),if_neg (by omega)];exact ux _ _ _ h1 h
def pf(l:List Rec):Prop:=l.Pairwise fun a b=>bC a.key b.key<0
theorem uy(r:Rec):∀l:List Rec,fe r l true=l.filter fun x=>!decide (bC x.key r.key=0)
 | []=>rfl
 | x::xs=>by
  simp only [fe,Bool.not_true,Bool.and_false,Bool.false_eq_true,if_false,Bool.true_or,List.nil_append,uy r xs,List.filter_cons]
  grind
theorem pf.put{r:Rec}:∀{l:List Rec},pf l→pf (dK l r)
 | [],_=>by simp [pf,dK,fe]
 | x::xs,h=>by
  obtain⟨h1,i⟩:=List.pairwise_cons.1 h;have o:pf (dK xs r):=pf.put i;have j:pf (xs.filter fun y=>!decide (bC y.key r.key=0)):=List.Pairwise.filter _ i
  show pf (fe r (x::xs) false)
  simp only [fe,Bool.not_false,Bool.and_true,Bool.false_or]
  by_cases c1:bC x.key r.key<0
  ·
   rw [decide_eq_false (show ¬0≤bC x.key r.key by omega),if_neg (show ¬bC x.key r.key=0 by omega)];simp only [Bool.false_eq_true,if_false,List.nil_append,List.singleton_append];refine List.pairwise_cons.2 ⟨fun y hy=>?_,o⟩
   grind [gI]
  rw [decide_eq_true (show 0≤bC x.key r.key by omega),uy];simp only [if_true]
  by_cases c2:bC x.key r.key=0
  ·
   rw [if_pos c2];simp only [List.append_nil,List.singleton_append];refine List.pairwise_cons.2 ⟨fun y hy=>?_,j⟩
   grind [l4]
  rw [if_neg c2];simp only [List.singleton_append,List.cons_append]
  have c3:bC r.key x.key<0:=by rw [ji x.key r.key];omega
  refine List.pairwise_cons.2 ⟨fun y hy=>?_,List.pairwise_cons.2 ⟨fun y hy=>h1 y (List.mem_filter.1 hy).1,j⟩⟩
  grind [il]
theorem pf.nj{l:List Rec}(h:pf l) (hn:l.length≤4000) (o:∀r∈l,eF r=true):nj l:=by
 refine⟨hn,fun i x j=>⟨o x (List.mem_of_getElem? j),fun hi=>?_⟩⟩;obtain⟨hl,rfl⟩:=List.getElem?_eq_some_iff.1 j;rw [getElem!_pos l (i - 1) (by omega)];exact List.pairwise_iff_getElem.1 h (i - 1) i (by omega) hl (by omega)
/-! ### values are short -/
section
variable {aa:List aH}{aD:List ct}
theorem rA{n:Nat}(h:n≤65535):(itoa (n:Int)).size≤6:=by
 have e:Lib.itoa (n:Int)=Lib.decDigits n:=by unfold Lib.itoa;rw [if_neg (by omega)];rfl
 grind [itoa,Lib.decDigits,ByteArray.size]
theorem Ej(hR:aq aa) {i:Nat}(hi:i<aa.length):∃n:Nat,n≤65535∧valOf aa aD (aM aa (i:Int))=itoa (n:Int):=by
 have h1:=fE (aD:=aD) hR hi;rw [gD hR hi (gC _ _ _).2] at h1;have hc:=aq.hb hR _ (List.getElem_mem hi);refine⟨_,n9 (kind:=aa[i].final) (c:=aa[i].c.toNat) (l:=(dW (cx aa (aM aa (i:Int))) (valOf aa aD) (cL aa i)).2.map cD) (by omega) (fun x h=>?_),?_⟩
 ·
  grind [kJ]
 grind
theorem JD(hR:aq aa) {i:Nat}(hi:aa.length≤i):tp aa aD i=⟨#[]⟩:=by
 have hk:aM aa (i:Int)=eS:=by unfold aM;rw [if_pos (by omega)]
 unfold tp qd
 rw [if_neg (by rw [lR hi];simp),hk]
 unfold cx
 rw [if_pos (.inl (by unfold number eS;simp))]
theorem Ek(hR:aq aa) (hi:∀x∈aD,x.value.size≤1000) (k:Key):(valOf aa aD k).size≤1000:=by
 by_cases hk:aw k=true
 ·
  unfold valOf cellOf
  rw [if_pos hk]
  unfold bA
  cases i:aD.find? fun x=>x.key == k with
  | none=>simp [ByteArray.size]
  | some x=>grind
 have e:valOf aa aD k=tp aa aD (number k).toNat:=by unfold valOf;rw [if_neg hk]
 rw [e]
 rcases Nat.lt_or_ge (number k).toNat aa.length with h | h
 ·
  rw [← gW hR h];obtain⟨n,hn,j⟩:=Ej (aD:=aD) hR h
  grind [rA]
 grind [JD,ByteArray.size]
theorem pg(aa:List aH) (aD:List ct) (i:Nat):(cH aa aD i).length=cL aa i:=(gC _ _ _).1
theorem ph(hR:aq aa) {i:Nat}(hi:i<aa.length):∀a∈cH aa aD i,eT aa i a:=by
 have key:∀n,n≤cL aa i→∀a∈(dW (cx aa (aM aa (i:Int))) (valOf aa aD) n).1,eT aa i a:=by
  intro n
  induction n with
  | zero=>intro _ a h;simp [dW] at h
  | succ n j=>grind [dW,et,gC]
 exact key _ (Nat.le_refl _)
theorem ep.valid{k:Key}(h:ep aa k):fQ k=true:=by
 cases h with
 | cell h=>
  rename_i n
  have hc:cF (n:Int)=⟨30,itoa (n:Int)⟩:=by unfold cF;rw [if_neg (by omega)]
  rw [hc]
  unfold fQ number
  simp only [];rw [if_pos (by omega)]
  grind [jY]
 | fb h jr=>
  rename_i i
  have h1:=cj h jr;have j:=eG h jr
  unfold fQ
  grind
end
section
variable {aa:List aH}{aD:List ct}{s t:ES}{k:Key}
theorem aI{l:List Rec}{r:Rec}(h:aA l k=some r):r∈l∧r.key=k:=by grind [aA]
def ny(aa:List aH) (j:Nat):Nat:=if aF aa j then bG aa j else j
def Lw(aa:List aH) (i b:Nat):Prop:=if aF aa i then bG aa i≤b else i<b
def aci(aa:List aH) (s:ES) (i:Nat):Prop:=∀j:Nat,j<aa.length→s.on (aM aa (j:Int))=true→Lw aa i (ny aa j)
def UP(aa:List aH) (s:ES) (i:Nat):Prop:=∀j:Nat,j<aa.length→s.on (aM aa (j:Int))=true→j=i∨Lw aa i (ny aa j)
theorem Gv(hR:aq aa) {i:Nat}(hi:i<aa.length) {ae:List ByteArray}(hn:ae.length<cL aa i) :
  ∃a,cx aa (aM aa (i:Int)) ae=⟨false,⟨#[]⟩,a⟩∧eT aa i a∧∀m:Nat,m<aa.length→a=aM aa (m:Int)→Lw aa m (ny aa i)∧∀b,Lw aa i b→Lw aa m b:=by
 have G:=hR.len;obtain⟨a,h1,h,o⟩:=et hR hi hn;refine⟨a,h1,h,fun m hm p=>?_⟩;have hb:=gw aa m
 cases hr:aF aa i with
 | false=>
  have H:m<i:=by
   rcases h with⟨n,j,rfl⟩ | ⟨q,j,rfl,_,r,_⟩
   ·
    grind [bD,di]
   grind [eb]
  unfold Lw ny
  grind
 | true=>
  unfold Lw ny
  rw [hr];simp only [if_true]
  cases I:aF aa m with
  | false=>
   have J:m<bG aa i:=by
    rcases h with⟨n,j,rfl⟩ | ⟨q,j,rfl,_,_,_,r⟩
    ·
     grind [bD,di]
    grind [eb]
   grind
  | true=>
   obtain⟨x,v,y⟩:=o hr;have z:=List.mem_of_getElem? v
   have B:outside aa x=false:=by grind [je,bf]
   obtain⟨O,C,D,F⟩:=ij hR hi hr z B
   have:=eb hR F hm (D.symm.trans (y.symm.trans p))
   subst this;have Q:=ki hR (cU.step cU.refl C)
   grind
end
end Go.Rc

namespace Go.Rc
open Go
theorem ft(x:Rec):eF x=true↔(∀a∈x.reads,fQ a=true)∧fQ x.key=true∧aw x.key=false∧(x.value.size:Int)≤1073741824∧(x.reads.length:Int)≤4000∧0≤x.changed∧x.changed≤x.av∧x.av≤1073741824∧1≤x.cost∧x.cost≤1073741824∧(x.bq=false∨az x.key=true):=by
 unfold eF gq
 grind
structure xH (s:ES):Prop where
 st:pf s.b.ah
 v:∀r∈s.b.ah,eF r=true∧r.av≤s.b.ad
 r0:0≤s.b.ad
 r1:s.b.ad≤1073741824
section
variable {aa:List aH}{aD:List ct}{val:Key→ByteArray}{s t:ES}{k:Key}
theorem pf.map{l:List Rec}(h:pf l) {f:Rec→Rec}(i:∀r,(f r).key=r.key):pf (l.map f):=by grind [pf]
theorem xH.BI(h:xH s) (g:List Key):xH {s with b:=cI s.b g false}:=by
 refine⟨h.st.map fun r=>(cR _ _ _ r).1,fun r hr=>?_,h.r0,h.r1⟩;obtain⟨q,o,rfl⟩:=List.mem_map.1 hr;obtain⟨h1,p⟩:=h.v q o;have h0:=h.r0;have y:=h.r1
 unfold aX
 by_cases hk:q.key∈g
 ·
  rw [if_pos hk];simp only [Bool.false_eq_true,if_false];rw [ft] at h1 ⊢;obtain⟨a,b,c,d,e,f,g,i,j,k,l⟩:=h1;exact⟨⟨a,b,c,d,e,f,by grind,y,j,k,l⟩,Int.le_refl _⟩
 rw [if_neg hk];exact⟨h1,p⟩
theorem xH.BJ(h:xH s) {g:List Key}(hc:∀x∈g,az x=true):xH {s with b:=cI s.b g true}:=by
 refine⟨h.st.map fun r=>(cR _ _ _ r).1,fun r hr=>?_,h.r0,h.r1⟩;obtain⟨q,p,rfl⟩:=List.mem_map.1 hr;obtain⟨h1,o⟩:=h.v q p
 unfold aX
 by_cases hk:q.key∈g
 ·
  rw [if_pos hk];simp only [if_true];rw [ft] at h1 ⊢;obtain⟨a,b,c,d,e,f,g,i,j,k,l⟩:=h1;exact⟨⟨a,b,c,d,e,f,g,i,j,k,.inr (hc _ hk)⟩,o⟩
 rw [if_neg hk];exact⟨h1,o⟩
theorem pj{l:List Rec}{rev:Int}(hk:az k=true):∀x∈aB l rev k,az x=true:=fun x h=>by
 unfold aB at h
 split at h
 ·
  rw [od,List.mem_cons] at h
  rcases h with rfl | h
  ·
   exact hk
  obtain⟨r,hr,rfl⟩:=List.mem_map.1 h
  have:=(List.mem_filter.1 hr).2
  unfold BF at this
  simp only [Bool.and_eq_true] at this;have i:=(kl.1 this.2.1).gz
  unfold bT at i
  grind
 grind
theorem xH.put(h:xH s) {r:Rec}{a8:List Key}(j:eF r=true) (hr:r.av≤s.b.ad):xH {s with b:={s.b with ah:=dK s.b.ah r},a8:=a8}:=
 ⟨h.st.put,fun q i=>by rcases gI _ _ _ _ i with rfl | i;exact⟨j,hr⟩;exact h.v q i,h.r0,h.r1⟩
theorem Hs(hR:aq aa) {ae:List ByteArray}(h:gZ aa k ae.length) (j:(aG aa k ae).done=true):(aG aa k ae).value.size≤6:=by
 obtain⟨i,hi,rfl,hn⟩:=h;have o:=hR.len;rw [dX hi (by omega)] at j ⊢
 rcases Nat.lt_or_ge ae.length (cL aa i) with p | q
 ·
  grind [et]
 rw [gD hR hi (by omega)];have hc:=aq.hb hR _ (List.getElem_mem hi);exact rA (n9 (by omega) fun x r=>by grind [kJ])
theorem pn(hR:aq aa) (h:xH s) {ae:List ByteArray}{reads:List Key}(i:gZ aa k ae.length) (q:(aG aa k ae).done=true) (hl:reads.length=ae.length) (hr:∀a∈reads,ep aa a) :
  eF (bs s.b k (aG aa k ae).value reads)=true:=by
 have B:=i.le hR;have C:=Hs hR i q;have h0:=h.r0;have h1:=h.r1;rw [ft]
 unfold bs
 have y:∀c:Int,(c=if (aA s.b.ah k).isSome && decide ((aC s.b.ah k).value=(aG aa k ae).value) then (aC s.b.ah k).changed else s.b.ad)→0≤c∧c≤s.b.ad:=fun c hc=>by
  split at hc
  ·
   rename_i j
   simp only [Bool.and_eq_true] at j;obtain⟨r,z⟩:=Option.isSome_iff_exists.1 j.1;have hm:=(aI z).1;obtain⟨o,p⟩:=h.v r hm
   grind [ft,aC]
  omega
 obtain⟨o,p⟩:=y _ rfl;exact⟨fun a hm=>(hr a hm).valid,(i.Jt hR).valid,(i.not hR).2,by grind,by grind,o,p,h1,by grind,by grind,.inl rfl⟩
def UpO(aa:List aH) (val:Key→ByteArray) (aD:List ct) (f:Nat):Prop:=∀s k s',kW aa val f s k=some s'→Good aa aD s→xH s→ep aa k→xH s'
def ChO(aa:List aH) (val:Key→ByteArray) (aD:List ct) (f:Nat):Prop:=∀s k n s' b,cP aa val f s k n=some (s',b)→Good aa aD s→xH s→xH s'
def RuO(aa:List aH) (val:Key→ByteArray) (aD:List ct) (f:Nat):Prop:=∀s k reads ae s',gQ aa val f s k reads ae=some s'→Good aa aD s→xH s→gZ aa k ae.length→reads.length=ae.length→(∀a∈reads,ep aa a)→xH s'
theorem Ht(hR:aq aa):∀f,UpO aa val aD f∧ChO aa val aD f∧RuO aa val aD f:=by
 intro f
 induction f with
 | zero=>exact⟨fun s k s' h=>by simp [kW] at h,fun s k n s' b h=>by simp [cP] at h,fun s k r a s' h=>by simp [gQ] at h⟩
 | succ f G=>
  obtain⟨D,z,B⟩:=G;have gd:=cz (val:=val) (aD:=aD) hR f;refine⟨?_,?_,?_⟩
  ·
   intro s k s' h j i hk
   unfold kW at h
   split at h
   ·
    cases h;exact i
   rename_i he
   split at h
   ·
    cases h;exact i
   split at h
   ·
    split at h <;> cases h
    ·
     exact i
    exact⟨i.st,i.v,i.r0,i.r1⟩
   obtain⟨p,F,h⟩:=Option.bind_eq_some_iff.1 h;obtain⟨t,ht,h⟩:=Option.bind_eq_some_iff.1 h
   cases h
   have h1:=z _ _ _ p.1 p.2 (by rw [F]) (j.on k) ⟨i.st,i.v,i.r0,i.r1⟩;have q:=(gd.2.1 _ _ _ p.1 p.2 (by rw [F]) (j.on k)).1
   have y:xH t:=by
    split at ht
    ·
     exact B _ _ _ _ _ ht q h1 (hk.gM (by simp at he;exact he.2)) rfl (fun a o=>by cases o)
    cases ht;exact h1
   exact⟨y.st,y.v,y.r0,y.r1⟩
  ·
   intro s k n s' b h j i
   unfold cP at h
   split at h
   ·
    cases h;exact i
   split at h
   ·
    cases h;exact i
   split at h
   ·
    cases h;exact i
   split at h
   ·
    cases h;exact i.BI _
   rename_i c hc
   split at h
   ·
    obtain⟨t,ht,h⟩:=Option.bind_eq_some_iff.1 h;have h1:=D _ _ _ ht j i (fR j hc);exact z _ _ _ _ _ h (gd.1 _ _ _ ht j (fR j hc)).1 h1
   split at h
   ·
    split at h
    ·
     rename_i H
     cases h
     exact i.BJ (pj H)
    cases h;exact i
   exact z _ _ _ _ _ h j i
  intro s k reads ae s' h j i o hl hr
  unfold gQ at h
  split at h
  ·
   cases h;exact i
  split at h
  ·
   rename_i C
   split at h
   ·
    cases h;exact⟨i.st,i.v,i.r0,i.r1⟩
   cases h
   exact i.put (pn hR i o C hl hr) (Int.le_refl _)
  rename_i C
  obtain⟨t,ht,h⟩:=Option.bind_eq_some_iff.1 h;have hn:=o.next hR (by simpa using C);have h1:=D _ _ _ ht j i hn.2;have q:=(gd.1 _ _ _ ht j hn.2).1
  split at h
  ·
   exact B _ _ _ _ _ h q h1 (by simpa using hn.1) (by simp [hl]) (fun a o=>by grind)
  exact B _ _ _ _ _ h q h1 o hl hr
theorem BL(hR:aq aa) {f:Nat}:∀{l:List Key}{s s':ES},dM aa val f s l=some s'→Good aa aD s→xH s→(∀k∈l,ep aa k)→xH s'
 | [],s,s',h,_,i,_=>by grind [dM]
 | k::r,s,s',h,j,i,hk=>by
  simp only [dM] at h;obtain⟨t,h1,o⟩:=Option.bind_eq_some_iff.1 h
  exact BL hR o ((cz (val:=val) hR f).1 _ _ _ h1 j (hk k (by simp))).1 ((Ht hR f).1 _ _ _ h1 j i (hk k (by simp))) fun k p=>hk k (by simp [p])
end
end Go.Rc

namespace Go.Rc
open Go
theorem El{α:Type}{R:α→α→Prop}(ht:∀a b c,R a b→R b c→R a c) {l:List α}(h:∀(i:Nat) (hi:i+1<l.length),R (l[i]'(by omega)) l[i+1]):l.Pairwise R:=by
 refine List.pairwise_iff_getElem.2 fun i j hi o p=>?_;obtain⟨d,rfl⟩:∃d,j=i+1+d:=⟨j - (i+1),by omega⟩
 induction d with
 | zero=>exact h i o
 | succ d q=>grind
def tq(l:List ct):Prop:=l.Pairwise fun a b=>bC a.key b.key<0
def Mt(rev:Int) (x:ct):Prop:=fQ x.key=true∧aw x.key=true∧(x.value.size:Int)≤1073741824∧0≤x.changed∧x.changed≤rev
theorem Em{rev:Int}{l:List ct}:yI rev l↔tq l∧∀x∈l,Mt rev x:=by
 constructor
 ·
  intro h
  have h1:∀(i:Nat) (hi:i<l.length),Mt rev l[i]∧(0<i→bC (l[i - 1]!).key l[i].key<0):=fun i hi=>by
   have j:=h i _ (ak hi)
   unfold ig at j
   simp only [getElem!_pos l i hi,Bool.or_eq_false_iff,Bool.not_eq_false',Bool.and_eq_false_iff,decide_eq_false_iff_not] at j;obtain⟨a,b,c,d,e,f⟩:=j;exact⟨⟨a,b,by omega,by omega,by omega⟩,fun h0=>by rcases c with c | c <;> omega⟩
  refine⟨El (R:=fun a b:ct=>bC a.key b.key<0) (fun a b c h k=>il h k) fun i hi=>?_,fun x o=>?_⟩
  ·
   grind
  grind [List.mem_iff_getElem]
 rintro⟨h1,j⟩ i y hy;obtain⟨hi,rfl⟩:=List.getElem?_eq_some_iff.1 hy;obtain⟨a,b,c,d,e⟩:=j _ (List.getElem_mem hi)
 unfold ig
 simp only [getElem!_pos l i hi,Bool.or_eq_false_iff,Bool.not_eq_false',Bool.and_eq_false_iff,decide_eq_false_iff_not];refine⟨a,b,?_,by omega,by omega,by omega⟩
 by_cases h0:0<i
 ·
  right
  rw [getElem!_pos l (i - 1) (by omega)]
  have:=List.pairwise_iff_getElem.1 h1 (i - 1) i (by omega) hi (by omega)
  omega
 left
 omega
def fS(n:ct):List ct→Bool→List ct
 | [],put=>if put then [] else [n]
 | x::xs,put=>(if decide (0≤bC x.key n.key) && !put then [n] else [])++(if bC x.key n.key=0 then [] else [x])++fS n xs (put || decide (0≤bC x.key n.key))
theorem uz(n:ct):∀(l:List ct) (b:Bool) (x:ct),x∈fS n l b→x=n∨x∈l:=by
 intro l
 induction l with
 | nil=>grind [fS]
 | cons y h i=>grind [fS]
theorem rB(n:ct):∀l:List ct,fS n l true=l.filter fun x=>!decide (bC x.key n.key=0)
 | []=>rfl
 | x::xs=>by
  simp only [fS,Bool.not_true,Bool.and_false,Bool.false_eq_true,if_false,Bool.true_or,List.nil_append,rB n xs,List.filter_cons]
  grind
theorem nz(n:ct):∀(l:List ct) (b:Bool),(fS n l b).length≤l.length+1
 | [],b=>by cases b <;> simp [fS]
 | x::xs,b=>by
  by_cases h:(decide (0≤bC x.key n.key) && !b)=true
  ·
   have hb:(b || decide (0≤bC x.key n.key))=true:=by simp at h;simp [h.1]
   simp only [fS,List.length_append,List.length_cons];rw [if_pos h,hb,rB]
   grind
  have i:=nz n xs (b || decide (0≤bC x.key n.key));simp only [fS,List.length_append,List.length_cons]
  grind
theorem tq.put{n:ct}:∀{l:List ct},tq l→tq (fS n l false)
 | [],_=>by simp [tq,fS]
 | x::xs,h=>by
  obtain⟨h1,i⟩:=List.pairwise_cons.1 h;have o:tq (fS n xs false):=tq.put i;have j:tq (xs.filter fun y=>!decide (bC y.key n.key=0)):=List.Pairwise.filter _ i
  show tq (fS n (x::xs) false)
  simp only [fS,Bool.not_false,Bool.and_true,Bool.false_or]
  by_cases c1:bC x.key n.key<0
  ·
   rw [decide_eq_false (show ¬0≤bC x.key n.key by omega),if_neg (show ¬bC x.key n.key=0 by omega)];simp only [Bool.false_eq_true,if_false,List.nil_append,List.singleton_append];refine List.pairwise_cons.2 ⟨fun y hy=>?_,o⟩
   grind [uz]
  rw [decide_eq_true (show 0≤bC x.key n.key by omega),rB];simp only [if_true]
  by_cases c2:bC x.key n.key=0
  ·
   rw [if_pos c2];simp only [List.append_nil,List.singleton_append];refine List.pairwise_cons.2 ⟨fun y hy=>?_,j⟩
   grind [l4]
  rw [if_neg c2];simp only [List.singleton_append,List.cons_append]
  have c3:bC n.key x.key<0:=by rw [ji x.key n.key];omega
  refine List.pairwise_cons.2 ⟨fun y hy=>?_,List.pairwise_cons.2 ⟨fun y hy=>h1 y (List.mem_filter.1 hy).1,j⟩⟩
  grind [il]
end Go.Rc

namespace Go.Rc
open Go
def Mu(r:aH):Prop:=r.ring=false∧r.asks=[]∧r.final=1∧0≤r.c∧r.c≤99
theorem Mu.key{aa:List aH}{i:Nat}(hi:i<aa.length) (jr:i≤99) (h:Mu aa[i]):aM aa (i:Int)=⟨31,itoa i⟩:=by
 unfold aM
 rw [if_neg (by omega)]
 simp [bW hi,h.1]
end Go.Rc
namespace Go.Rc
open Go
def QK(i:Nat) (v:ByteArray):Rec:=⟨⟨31,itoa i⟩,v,[],0,0,1,false⟩
def uA{α:Type}(l:List α) (p:α→Bool) (j:Int):Prop:=(∃i:Nat,∃x,l[i]?=some x∧p x=true∧(∀j x,j<i→l[j]?=some x→p x=false)∧j=i)∨((∀x∈l,p x=false)∧j = -1)
end Go.Rc
namespace Go.Rc
open Go
structure WD where
 (ar a1 a2:Option Addr) (r cr n1 c1 n2 c2 m v:Nat)
end Go.Rc

namespace Go.Rc
open Go
def wC(a b:Int):Int:=if a<b then -1 else if b<a then 1 else 0
def QL(l:List Int):Int:=(l.find? fun x=>decide (x≠0)).getD 0
theorem QM{l:List Int}{i:Nat}(hi:i<l.length) (o:∀j x,j<i→l[j]?=some x→x=0) (h:l[i]≠0):QL l=l[i]:=by grind [QL,jy]
theorem Mv{l:List Int}(h:∀x∈l,x=0):QL l=0:=by grind [QL,List.find?_eq_none]
theorem Mw{a b:Key}:QL [wC a.kind b.kind,Lib.compareBytes a.text.data.toList b.text.data.toList]=bC a b:=by
 unfold QL wC bC
 grind
theorem BM{α:Type}{R:α→List Value→Prop}{x y:α}{r s:List Value}(h1:R x r) (h:R y s):∀(i:Nat) (z:α) (t:List Value),[x,y][i]?=some z→[r,s][i]?=some t→R z t:=fun i z t j ht=>by grind
theorem ep.shape{aa:List aH}{k:Key}(h:ep aa k):∃i:Nat,i≤99∧k.text=itoa i∧(30≤k.kind∧k.kind≤32):=by
 cases h with
 | cell h=>rename_i n;exact⟨n,h,by unfold cF;rw [if_neg (by omega)],by unfold cF;rw [if_neg (by omega)];simp⟩
 | fb h jr=>rename_i i;exact⟨i,jr,by unfold aM;rw [if_neg (by omega)],by grind [eG]⟩
theorem ep.cY{aa:List aH}{k:Key}(h:ep aa k):cY k:=by
 obtain⟨_,_,_,h1⟩:=h.shape;exact .inr (by omega)
theorem qf{aa:List aH}{k:Key}(h:ep aa k) (hc:az k=true):k.kind=32:=by
 cases h with
 | cell h=>grind [kh]
 | fb h jr=>grind [bf,eG]
theorem uA.any{α:Type}{l:List α}{p:α→Bool}{j:Int}(h:uA l p j):decide (0≤j)=l.any p:=by
 rcases h with⟨i,x,h1,o,_,rfl⟩ | ⟨h1,rfl⟩
 ·
  grind
 grind
def JE(aa:List aH) (x:Rec):Prop:=ep aa x.key∧aw x.key=false∧(∀a∈x.reads,ep aa a)∧eF x=true
def uB(aa:List aH) (x:bZ):Prop:=0≤x.ad∧x.ad≤1073741824∧(tq x.ab∧∀y∈x.ab,Mt x.ad y)∧(∀y∈x.ab,∃i:Nat,i≤99∧y.key=⟨30,itoa i⟩)∧x.ab.length≤64∧(∀r∈x.ah,JE aa r)∧pf x.ah∧x.ah.length≤4000∧∀r∈x.ah,r.av≤x.ad
end Go.Rc

namespace Go.Rc
open Go
section
variable {l l':List aH}
def cv(l l':List aH):Prop:=l.map (·.ring)=l'.map (·.ring)
theorem cv.len(h:cv l l'):l.length=l'.length:=by simpa using congrArg List.length h
theorem cv.rg(h:cv l l') (i:Nat):aF l i=aF l' i:=by
 have j:=congrArg (fun x=>x[i]?) h
 grind [aF]
theorem cv.lo(h:cv l l'):∀k,bG l k=bG l' k
 | 0=>rfl
 | k+1=>by unfold bG;rw [h.rg k,h.lo k]
theorem my:∀{l l':List aH},cv l l'→(l.takeWhile (·.ring)).length=(l'.takeWhile (·.ring)).length
 | [],[],_=>rfl
 | [],_::_,h=>by simp [cv] at h
 | _::_,[],h=>by simp [cv] at h
 | x::r,y::s,h=>by
  simp only [cv,List.map_cons,List.cons.injEq] at h;have i:=my (l:=r) (l':=s) h.2
  grind [List.takeWhile_cons]
theorem cv.hi(h:cv l l') (m:Nat):dJ l m=dJ l' m:=by grind [dJ,my,cv,List.map_drop]
theorem cv.block(h:cv l l') (n:Int):block l n=block l' n:=by
 unfold Go.Rc.block
 rw [h.len,h.rg,h.lo,h.hi]
theorem cv.may(h:cv l l') (i:Nat) (c:Bool) (n:Int):gB l i c n=gB l' i c n:=by grind [gB,fD,rg,block]
theorem cv.ask(h:cv l l') (i:Nat) (g:Bool) (k:Nat) (x:Ask):fo l i g k x=fo l' i g k x:=by
 unfold fo
 rw [h.may,h.may]
theorem cv.fb(h:cv l l') (i:Nat) (r:aH):lT l i r↔lT l' i r:=by
 unfold lT
 simp only [h.ask]
theorem cv.set{i:Nat}(hi:i<l.length) {r:aH}(hr:r.ring=aF l i):cv (l.set i r) l:=by
 unfold cv
 rw [List.map_set,hr,bW hi];refine List.ext_getElem? fun j=>?_
 grind
def kX(l:List aH) (i:Nat):Prop:=l.length≤8∧∀(j:Nat) (r:aH),l[j]?=some r→j<i→lT l j r
theorem kX.start(h:l.length≤8):kX l 0:=⟨h,fun _ _ _ h=>by omega⟩
theorem kX.set{i:Nat}(h:kX l i) (hi:i<l.length) {r:aH}(hr:r.ring=aF l i) (q:lT l i r):kX (l.set i r) (i+1):=by
 have p:=cv.set hi hr;refine⟨by rw [List.length_set];exact h.1,fun j x o v=>?_⟩;rw [p.fb];rw [List.getElem?_set] at o
 split at o
 ·
  grind
 exact h.2 j x o (by omega)
theorem kX.ok(h:kX l l.length):aq l:=⟨by have:=h.1;omega,fun i r hr=>h.2 i r hr (List.getElem?_eq_some_iff.1 hr).1⟩
theorem QN{i k:Nat}{g:Bool}{x:Ask}{most:Int}(hm:most=if x.cell then 4 else fD l i) (h0:0≤x.n) (h1:x.n<most) (h:x.pick=true→g=false∧k≠0∧0≤x.DV∧x.DV<most) (he:x.pick=false→x.DV=0):fo l i g k x=true:=by grind [gB,fo]
end
end Go.Rc

namespace Go.Rc
open Go
def As.hM(E d:Nat):As where
 fp x:=x=d
 ok Z w:=D3 Z w E d
 lt h x hx:=by subst hx;exact h.lt
 mono hZ h:=by
  obtain⟨l,a,n,c,t,h1,h2,h3⟩:=h;exact⟨l,a,n,c,t,h1,SR.mono h2 (fun b hb _=>hZ b hb) (fun _ _ h=>h),h3⟩
 st hs hc h:=by
  obtain⟨l,a,n,c,t,h1,h2,h3⟩:=h;exact⟨l,a,n,c,t,(As.blk d E _).st (Z:=fun _=>False) hs (fun x hx=>hc x (hx.imp id False.elim)) h1,SR.st hs (fun x hx=>hc x (.inr hx)) (fun _ _ h=>h) h2,h3⟩
theorem As.gd{E d:Nat}{Z:Nat→Prop}{w:World}(h:(As.hM E d).ok Z w):D3 Z w E d:=h
def RR.bX:RR Change:=RR.flat Change.cells
def begun(g:Bool):aH:=⟨g,[],0,0⟩
theorem Ow.flat{α:Type}{f:α→List Value}{b T k n:Nat}{Z:Nat→Prop}{w:World}{xs:List α}{l:List Value}(h:bU w b T l) (hl:l=(xs.map f).flatten) (hk:∀x∈xs,(f x).length=k) (h1:∀u∈l,u.oneCell'=true) (hn:n=xs.length) (hm:xs.length≤140737488355328) :
  Ow (RR.flat f) T k Z w (some ⟨b,0,none⟩) n n xs:=by
 subst hn hl
 have hlen:∀(j:List α),(∀x∈j,(f x).length=k)→(j.map f).flatten.length=j.length*k:=by
  intro j
  induction j with
  | nil=>simp
  | cons y j p=>grind
 refine⟨rfl,xs.map f,by simp,by simpa using hk,by simpa using OL.blk (k:=k) h (Nat.zero_le _) (m:=xs.length) (hlen xs hk) h1 hm,fun i x r o hr=>?_⟩;rw [List.getElem?_map,o] at hr
 simp at hr
 exact hr.symm
def As.acj{ι:Type}(b T:Nat) (F:ι→List Value):As where
 fp x:=x=b
 ok _ w:=∃i,bU w b T (F i)
 lt h x hx:=by obtain⟨i,h⟩:=h;subst hx;exact h.lt
 mono _ h:=h
 st hs hc h:=by obtain⟨i,h⟩:=h;exact⟨i,(As.blk b T _).st (Z:=fun _=>False) hs (fun x hx=>hc x (hx.imp id False.elim)) h⟩
theorem Ow.ring{E n c i b:Nat}{Z:Nat→Prop}{w:World}{a:Option Addr}{l:List aH}(h:Ow RR.fb E 4 Z w a n c l) (p:a=some ⟨b,0,none⟩) (hle:l.length≤140737488355328) (hi:i<l.length):w.rangeAt b (0+i*4) [.bool l[i].ring]:=by
 obtain⟨b',r,h1,_,q,y⟩:=Ow.at h hle (ak hi);rw [p] at h1;simp only [Option.some.injEq,Addr.mk.injEq,and_true] at h1;subst h1;obtain⟨z,B,C,rfl,_⟩:=q;intro j v o
 cases j with
 | zero=>exact y 0 v o
 | succ j=>simp at o
theorem yO(l:List aH) (m:Nat) (hm:m≤l.length):dJ l m≤l.length:=by grind [dJ,List.takeWhile_sublist]
theorem wD{l:List aH}{i:Nat}(hi:i<l.length):0≤fD l i∧fD l i≤l.length:=by
 have h1:=yO l (i+1) (by omega)
 have hb:block l (i:Int)=if aF l i then ((bG l i:Int),(dJ l (i+1):Int)) else ((i:Int),(i:Int)+1):=by
  unfold block;grind
 grind [fD]
theorem Hu{l:List aH}{i:Nat}{g:Bool}{xs:List Ask}{x:Ask}(h:∀(k:Nat) y,xs[k]?=some y→fo l i g k y=true) (j:fo l i g xs.length x=true):∀(k:Nat) y,(xs++[x])[k]?=some y→fo l i g k y=true:=fun k y hy=>by grind
end Go.Rc

namespace Go.Rc
open Go
theorem pf.ne{l:List Rec}(h:pf l) {i:Nat}(hi:i<l.length):∀y∈l.take i,y.key≠l[i].key:=fun y hy e=>by
 obtain⟨j,o,rfl⟩:=List.mem_iff_getElem.1 hy
 have p:j<i:=by simp at o;omega
 have h1:bC l[j].key l[i].key<0:=List.pairwise_iff_getElem.1 h j i (by omega) hi p
 grind [ji]
end Go.Rc

namespace Go.Rc
open Go
section
variable {κ:Type}{enc:κ→Value}
def LH(enc:κ→Value) (w:World) (b m:Nat) (l left:List (κ × Value)) (cur:Option (κ × Value)):Prop:=
 ∃es clock since seen,w.heap[m]?=some (.map es clock)∧(es.toList.map (fun e=>(e.key,e.val))=l.map (fun p=>(enc p.1,p.2))∧(l.map (·.1)).Nodup∧(∀e∈es.toList,e.born<clock)∧(es.toList.map (·.born)).Nodup)∧
  w.heap[b]?=some (.mapIter (some m) since seen clock)∧b≠m∧since≤clock∧(∀e∈es.toList,e.born<since)∧
  (leftOf es seen).toList.map (fun e=>(e.key,e.val))=left.map (fun p=>(enc p.1,p.2))∧
  ∀p,cur=some p→∃e∈es.toList,seen.back?=some e.born∧e.key=enc p.1∧e.val=p.2
variable {w w':World}{b m:Nat}{l left:List (κ × Value)}{cur:Option (κ × Value)}
theorem LH.lt(h:LH enc w b m l left cur):b<w.heap.size∧m<w.heap.size:=by
 obtain⟨es,clock,since,seen,h1,_,i,_⟩:=h;exact⟨(Array.getElem?_eq_some_iff.1 i).1,(Array.getElem?_eq_some_iff.1 h1).1⟩
def As.QO(enc:κ→Value) (b m:Nat) (l left:List (κ × Value)) (cur:Option (κ × Value)):As where
 fp x:=x=b∨x=m
 ok _ w:=LH enc w b m l left cur
 lt h x hx:=by rcases hx with rfl | rfl;exact h.lt.1;exact h.lt.2
 mono _ h:=h
 st hs hc h:=by
  have hl:=h.lt;obtain⟨es,clock,since,seen,h1,h2,h3,h4⟩:=h;exact⟨es,clock,since,seen,by rw [hc m (.inl (.inr rfl)) hl.2];exact h1,h2,by rw [hc b (.inl (.inl rfl)) hl.1];exact h3,h4⟩
theorem As.Mx{Z:Nat→Prop}(h:(As.QO enc b m l left cur).ok Z w):LH enc w b m l left cur:=h
def xI(enc:κ→Value):Option (κ × Value)→Array Value
 | none=>#[.bool false]
 | some p=>#[.bool true,enc p.1,p.2]
theorem Gw(r:Option (κ × Value)):(xI enc r)[0]?=some (.bool r.isSome):=by cases r <;> rfl
theorem mz:∀(L:List MapEntry) (j:Nat) (e:MapEntry),(L.map (·.born)).Nodup→L[j]?=some e→L.filter (fun x=>!(x.born == e.born))=L.eraseIdx j
 | [],_,_,_,h=>by simp at h
 | x::r,0,e,hn,h=>by
  simp at h
  subst h;simp only [List.map_cons,List.nodup_cons] at hn;rw [List.filter_cons];simp only [beq_self_eq_true,Bool.not_true,Bool.false_eq_true,if_false,List.eraseIdx_zero,List.tail_cons];refine List.filter_eq_self.2 fun y hy=>?_
  have:y.born≠x.born:=fun e=>hn.1 (e ▸ List.mem_map.2 ⟨y,hy,rfl⟩)
  simpa using this
 | x::r,j+1,e,hn,h=>by
  simp only [List.map_cons,List.nodup_cons] at hn;simp only [List.getElem?_cons_succ] at h;have i:x.born≠e.born:=fun o=>hn.1 (o ▸ List.mem_map.2 ⟨e,List.mem_of_getElem? h,rfl⟩);rw [List.filter_cons,if_pos (by simpa using i),mz r j e hn.2 h,List.eraseIdx_cons_succ]
theorem BN(es:Array MapEntry) (seen:Array Nat) (b:Nat):(leftOf es (seen.push b)).toList=(leftOf es seen).toList.filter fun x=>!(x.born == b):=by
 unfold leftOf
 rw [Array.toList_filter,Array.toList_filter,List.filter_filter]
 congr 1
 funext x
 rw [Array.contains_push,Bool.not_or,Bool.and_comm]
theorem map_eraseIdx{α β:Type}(f:α→β):∀(l:List α) (j:Nat),(l.eraseIdx j).map f=(l.map f).eraseIdx j
 | [],_=>by simp
 | _::_,0=>by simp
 | x::r,j+1=>by simp [map_eraseIdx f r j]
variable {P:Program}{kv:KV}{n:Nat}{K:KV→World→Prop}{d:Tmp}{ty:TypeId}{pos:String}{af:Array Edge}{g:Option (Nat × Bool)}{T kt e:TypeId}{x:Operand}
theorem OX.range(hT:P.underlying T=some (.map kt e)) (hm:KM enc w m l) (j:ev kv x=some (.map (some m))) (o:Nat.blt d n=true)
  (h:∀b w',aT [] w w'→w.heap.size≤b→LH enc w' b m l l none→K ((d,.pointer (some ⟨b,0,none⟩))::kv) w'):OX P ⟨some d,.range T x,ty,pos,af,g⟩ n kv w K:=by
 obtain⟨es,clock,h1,i⟩:=hm;have q:m<w.heap.size:=(Array.getElem?_eq_some_iff.1 h1).1;refine⟨rfl,o,by simp [known,opers,j],?_⟩
 have hr:(execOp (jI kv) ⟨some d,.range T x,ty,pos,af,g⟩).run P w=.ok (.value (.pointer (some ⟨w.heap.size,0,none⟩))) (w.alloc (.mapIter (some m) clock #[] clock)):=by
  simp only [execOp,aK j,Sem.run_bind,run_range_map w T kt e m es clock hT h1,Result.andThen_ok];rfl
 rw [hr];refine h _ _ (j6 _ _) (Nat.le_refl _) ⟨es,clock,clock,#[],by rw [heap_alloc_old w _ (h:=q)];exact h1,i,heap_alloc_new _ _,by omega,Nat.le_refl _,i.2.2.1,?_,fun p r=>by cases r⟩
 have:leftOf es #[]=es:=by unfold leftOf;simp
 rw [this];exact i.1
theorem Hv(hm:LH enc w b m l left cur):∃(r:Option (κ × Value)) (B:List (κ × Value)) (w':World),(Instr.next (.pointer (some ⟨b,0,none⟩)) false ty).run P w=.ok (.tuple (xI enc r)) w'∧aT [b] w w'∧
  (match r with | none=>left=[]∧B=[] | some p=>∃j,left[j]?=some p∧B=left.eraseIdx j)∧LH enc w' b m l B r:=by
 obtain⟨es,clock,since,seen,h1,C,h,D,F,i,v,h8⟩:=hm;have S:b<w.heap.size:=(Array.getElem?_eq_some_iff.1 h).1
 have G:∀y∈(leftOf es seen).toList,y∈es.toList:=fun y hy=>by
  unfold leftOf at hy
  rw [Array.toList_filter] at hy;exact(List.mem_filter.1 hy).1
 have J:=next_test_false seen es since clock i F
 have e1:(leftOf es seen).filter (fun x=>decide (x.born<since))=leftOf es seen:=Array.filter_eq_self.2 fun y hy=>by
  have:=i y (G y (by simpa using hy))
  simpa using this
 have e2:(leftOf es seen).filter (fun x=>decide (x.born≥since))=#[]:=by
  rw [Array.filter_eq_empty_iff];intro y hy
  have:=i y (G y (by simpa using hy))
  simp
  omega
 have hlen:(leftOf es seen).size=left.length:=by simpa using congrArg List.length v
 by_cases h0:(leftOf es seen).size=0
 ·
  have U:leftOf es seen=#[]:=Array.eq_empty_of_size_eq_zero h0
  have V:left=[]:=by cases left with
   | nil=>rfl
   | cons a r=>rw [h0] at hlen;simp at hlen
  subst V;refine⟨none,[],w,?_,aT.refl _ _,⟨rfl,rfl⟩,es,clock,since,seen,h1,C,h,D,F,i,v,fun p z=>by cases z⟩;simp only [Instr.next,getObj,Sem.run_bind,Sem.run,h,h1,Result.andThen,J,Bool.false_eq_true,if_false];rw [show(es.filter fun e=>!seen.contains e.born)=leftOf es seen from rfl,U]
  simp [choose,Sem.run,Question.forced,xI]
 have W:(leftOf es seen).isEmpty=false:=by simp [Array.isEmpty,h0]
 have X:∃(j:Nat) (w1:World),j<(leftOf es seen).size∧w1.heap=w.heap∧aT [] w w1∧(choose (Question.mapNext (leftOf es seen).size)).run P w=.ok j w1:=by
  by_cases O:(leftOf es seen).size≤1
  ·
   exact⟨0,w,by omega,rfl,aT.refl _ _,by simp [choose,Sem.run,Question.forced,O]⟩
  exact⟨_,w.drew,Nat.mod_lt _ (by omega),rfl,⟨rfl,rfl,rfl,Nat.le_refl _,Nat.le_succ _,fun _ _ _=>rfl⟩,by
   simp only [choose,Sem.run,Question.forced,decide_eq_true_eq,O,if_false,Question.cut]
   rfl⟩
 obtain⟨j,w1,Y,H,hc1,jw⟩:=X;obtain⟨y,hy⟩:∃y,(leftOf es seen)[j]?=some y:=⟨_,Array.getElem?_eq_getElem Y⟩
 have I:(leftOf es seen).toList[j]?=some y:=by rw [Array.getElem?_toList];exact hy
 have hye:y∈es.toList:=G y (List.mem_of_getElem? I);obtain⟨p,z⟩:∃p,left[j]?=some p:=⟨_,List.getElem?_eq_getElem (by omega)⟩
 have o:(y.key,y.val)=(enc p.1,p.2):=by
  have:=congrArg (fun x=>x[j]?) v
  simp only [List.getElem?_map,I,z,Option.map_some,Option.some.injEq] at this;exact this
 simp only [Prod.mk.injEq] at o
 have hbn:((leftOf es seen).toList.map (·.born)).Nodup:=by
  unfold leftOf
  rw [Array.toList_filter];exact(List.filter_sublist.map _).nodup C.2.2.2
 refine⟨some p,left.eraseIdx j,{w1 with heap:=w1.heap.setIfInBounds b (.mapIter (some m) since (seen.push y.born) clock)},?_,?_,⟨j,z,rfl⟩,es,clock,since,seen.push y.born,?_,C,?_,D,F,i,?_,?_⟩
 ·
  simp only [Instr.next,getObj,Sem.run_bind,Sem.run,h,h1,Result.andThen,J,Bool.false_eq_true,if_false];rw [show(es.filter fun e=>!seen.contains e.born)=leftOf es seen from rfl,e1,e2];simp only [W,Bool.false_eq_true,if_false,Array.empty_append,Array.append_empty,Array.size_map,jw,Array.getElem?_map,hy,Option.map_some]
  have JF:(setObj b (.mapIter (some m) since (seen.push y.born) clock)).run P w1=.ok () {w1 with heap:=w1.heap.setIfInBounds b (.mapIter (some m) since (seen.push y.born) clock)}:=by
   simp only [setObj,Sem.run];rw [H,h]
  simp only [Sem.run_bind,JF,Result.andThen,xI,o.1,o.2]
  try rfl
 ·
  have:=iM w1 b (.mapIter (some m) since (seen.push y.born) clock)
  exact aT.trans (aT.mono hc1 (by simp)) this
 ·
  show(w1.heap.setIfInBounds b _)[m]?=_
  rw [H,Array.getElem?_setIfInBounds_ne D];exact h1
 ·
  show(w1.heap.setIfInBounds b _)[b]?=_
  rw [H,Array.getElem?_setIfInBounds_self]
  simp [S]
 ·
  rw [BN,mz _ j y hbn I,map_eraseIdx,map_eraseIdx,v]
 intro q Q;simp only [Option.some.injEq] at Q;subst Q;exact⟨y,hye,Array.back?_push,o.1,o.2⟩
theorem OX.next(hm:LH enc w b m l left cur) (o:ev kv x=some (.pointer (some ⟨b,0,none⟩))) (q:Nat.blt d n=true)
  (h:∀r i w',aT [b] w w'→(match r with | none=>left=[]∧i=[] | some p=>∃j,left[j]?=some p∧i=left.eraseIdx j)→LH enc w' b m l i r→K ((d,.tuple (xI enc r))::kv) w'):OX P ⟨some d,.next x false,ty,pos,af,g⟩ n kv w K:=by
 obtain⟨r,i,w',h1,v,y,z⟩:=Hv (P:=P) (ty:=ty) hm;refine⟨rfl,q,by simp [known,opers,o],?_⟩
 have hr:(execOp (jI kv) ⟨some d,.next x false,ty,pos,af,g⟩).run P w=.ok (.value (.tuple (xI enc r))) w':=by
  simp only [execOp,aK o,Sem.run_bind,h1,Result.andThen_ok];rfl
 rw [hr];exact h _ _ _ v y z
theorem PV.entry{p:κ × Value}(hm:LH enc w b m l left (some p)) (h:ev kv x=some (.pointer (some ⟨b,0,none⟩))):PV P (.entry x) ty kv w (.tuple #[enc p.1,p.2]):=by
 obtain⟨es,clock,since,seen,h1,i,j,_,_,_,_,o⟩:=hm;obtain⟨y,hy,hb,hk,q⟩:=o p rfl;refine⟨rfl,by simp [known,opers,h],fun _ _ _ _=>?_⟩
 have r:es.find? (·.born == y.born)=some y:=by rw [← Array.find?_toList];exact find_born y es.toList i.2.2.2 hy
 have:(Instr.entry (.pointer (some ⟨b,0,none⟩))).run P w=.ok (.tuple #[enc p.1,p.2]) w:=by
  simp only [Instr.entry,getObj,Sem.run_bind,Sem.run,j,h1,hb,Result.andThen,bne_self_eq_false,Bool.false_eq_true,if_false,r,hk,q]
  rfl
 simp only [execOp,aK h,Sem.run_bind,this,Result.andThen_ok]
 rfl
end
end Go.Rc

namespace Go.Rc
open Go
theorem mA{α:Type}:∀{l:List α}{j:Nat}{p q:α},l[j]?=some p→q∈l→q=p∨q∈l.eraseIdx j
 | [],_,_,_,_,h=>by cases h
 | x::r,0,p,q,h,i=>by grind
 | x::r,j+1,p,q,h,i=>by
  rcases List.mem_cons.1 i with rfl | i
  ·
   exact .inr (by simp)
  rcases mA (l:=r) (by simpa using h) i with h1 | h1
  ·
   exact .inl h1
  exact .inr (by simp [h1])
section
variable {aa:List aH}{aD:List ct}
theorem mK.bj(hR:aq aa) {i0:Nat}{L:List Nat}{u:Nat→Nat}{am:List (Key × Value)}(h:mK aa L u am) (hn:(am.map (·.1)).Nodup) (hr:dt aa aD i0 L u) (r:∀j∈L,u j=rv aa aD j) :
  ∀p∈am,p.2=.string (valOf aa aD p.1):=fun p q=>by
 have o:bF am p.1=some p.2:=(tY hn).2 q
 by_cases hk:∃j∈L,p.1=aM aa (j:Int)
 ·
  obtain⟨j,i,e⟩:=hk;obtain⟨v,y⟩:=hr.ring j i;rw [e,h.1 j i] at o
  grind [gW,iw]
 rw [h.2 p.1 fun j i e=>hk ⟨j,i,e⟩] at o
 cases o
theorem mK.first{i0:Nat}{L:List Nat}{u:Nat→Nat}{am:List (Key × Value)}(h:mK aa L u am) (hn:(am.map (·.1)).Nodup) (hr:dt aa aD i0 L u):∃p∈am,p.1=aM aa (i0:Int):=
 ⟨(_,_),(tY hn).1 (h.1 i0 hr.first),rfl⟩
theorem JG{am left ml:List (Key × Value)}{j:Nat}{p:Key × Value}(i:∀q∈am,q∈left∨bF ml q.1=some q.2) (he:∀q∈am,q.2=.string (valOf aa aD q.1)) (o:left[j]?=some p) :
  ∀q∈am,q∈left.eraseIdx j∨bF (cM ml p.1 (.string (valOf aa aD p.1))) q.1=some q.2:=fun q r=>by
 rw [ek]
 by_cases e:p.1=q.1
 ·
  grind
 rw [if_neg e]
 rcases i q r with h | h
 ·
  rcases mA o h with h1 | h1
  ·
   subst h1;exact absurd rfl e
  exact .inl h1
 exact .inr h
end
end Go.Rc

namespace Go.Rc
open Go
def jC(rev:Int) (l:List ct):Prop:=tq l∧(∀y∈l,Mt rev y)∧∀y∈l,(∃i:Nat,i≤9∧y.key=⟨30,itoa i⟩)∧y.value.size≤1000
theorem jC.nil(rev:Int):jC rev []:=⟨.nil,by simp,by simp⟩
theorem jC.mono{r s:Int}{l:List ct}(h:jC r l) (i:r≤s):jC s l:=⟨h.1,fun y hy=>by obtain⟨a,b,c,d,e⟩:=h.2.1 y hy;exact⟨a,b,c,d,by omega⟩,h.2.2⟩
theorem Change.small.key{c:Change}(h:c.small):∃i:Nat,i≤9∧c.key=⟨30,itoa i⟩:=by
 obtain⟨⟨n,h0,j,hk⟩,_⟩:=h;refine⟨n.toNat,by omega,?_⟩;rw [hk]
 unfold cF
 grind
theorem Change.small.ok{c:Change}(h:c.small):fQ c.key=true∧aw c.key=true:=by
 obtain⟨⟨n,h0,i,hk⟩,_⟩:=h;obtain⟨m,rfl⟩:∃m:Nat,n=(m:Int):=⟨n.toNat,by omega⟩;rw [hk];exact⟨ep.valid (aa:=[]) (.cell (by omega)),bD (by omega)⟩
theorem jC.put{rev:Int}{l:List ct}{c:Change}(h:jC rev l) (hc:c.small) (h0:0≤rev):jC rev (fS ⟨c.key,c.value,rev⟩ l false):=by
 refine⟨tq.put h.1,fun y hy=>?_,fun y hy=>?_⟩
 ·
  rcases uz _ _ _ _ hy with rfl | hy
  ·
   have:=hc.2
   exact⟨hc.ok.1,hc.ok.2,by grind,h0,Int.le_refl _⟩
  exact h.2.1 y hy
 rcases uz _ _ _ _ hy with rfl | hy
 ·
  obtain⟨i,hi,hk⟩:=hc.key;exact⟨⟨i,by omega,hk⟩,Nat.le_trans hc.2 (by decide)⟩
 exact h.2.2 y hy
theorem xJ{α:Type} [BEq α] [LawfulBEq α]:∀{l U:List α},l.Nodup→(∀x∈l,x∈U)→l.length≤U.length
 | [],_,_,_=>Nat.zero_le _
 | x::r,U,hn,h=>by
  have i:=h x (by simp);rw [List.nodup_cons] at hn
  have h1:r.length≤(U.erase x).length:=xJ hn.2 fun y hy=>by grind
  grind
theorem jC.len{rev:Int}{l:List ct}(h:jC rev l):l.length≤10:=by
 have hn:(l.map fun y=>y.key).Nodup:=by
  unfold List.Nodup
  rw [List.pairwise_map]
  exact h.1.imp fun {a b} h e=>by grind [ji]
 have:=xJ (U:=(List.range 10).map fun i:Nat=>(⟨30,itoa i⟩:Key)) hn fun k hk=>by
  obtain⟨y,hy,rfl⟩:=List.mem_map.1 hk;obtain⟨i,hi,he⟩:=(h.2.2 y hy).1
  grind
 simpa using this
theorem jC.k99{rev:Int}{l:List ct}(h:jC rev l):∀y∈l,∃i:Nat,i≤99∧y.key=⟨30,itoa i⟩:=fun y hy=>by
 obtain⟨i,hi,he⟩:=(h.2.2 y hy).1;exact⟨i,by omega,he⟩
theorem BO{n:ct}{k:Key}(h:n.key≠k):∀(l:List ct) (b:Bool),(fS n l b).find? (fun x=>x.key == k)=l.find? fun x=>x.key == k
 | [],b=>by grind [fS]
 | x::xs,b=>by
  have hn:(n.key == k)=false:=by simpa using h
  unfold fS
  rw [List.find?_append,List.find?_append,BO h xs]
  have h1:(if (decide (0≤bC x.key n.key) && !b)=true then [n] else []).find? (fun x=>x.key == k)=none:=by grind
  rw [h1,Option.none_or]
  by_cases e:bC x.key n.key=0
  ·
   rw [if_pos e]
   grind [l4]
  grind
theorem og{n:ct}{k:Key}(h:n.key≠k) (l:List ct):bA (fS n l false) k=bA l k:=by
 unfold bA
 rw [BO h]
theorem My{n:ct}{l:List ct}{q:Nat}{b:Bool}(i:q<l.length) {acc r:List ct}(h:acc++fS n (l.drop q) b=r):acc++(if decide (0≤bC l[q].key n.key) && !b then [n] else [])++(if bC l[q].key n.key=0 then [] else [l[q]])++fS n (l.drop (q+1)) (b || decide (0≤bC l[q].key n.key))=r:=by grind [List.drop_eq_getElem_cons,fS]
theorem Mz{n:ct}{l m acc:List ct}{b:Bool}(h:acc++fS n m b=fS n l false):acc.length≤l.length+1:=by
 have h1:=congrArg List.length h
 grind [nz]
end Go.Rc

namespace Go.Rc
open Go
section
variable {aa:List aH}{aD:List ct}{rev:Int}(hR:aq aa)
include hR
end
end Go.Rc

namespace Go.Rc
open Go
def QP(L:List As) (Z:Nat→Prop) (w:World):Prop:=(List.Pairwise (fun(A B:As)=>∀x,A.fp x→¬B.fp x) L)∧∀A∈L,A.ok Z w
def As.many(L:List As):As where
 fp x:=∃A∈L,A.fp x
 ok:=QP L
 lt h x hx:=by obtain⟨A,hA,hx⟩:=hx;exact A.lt (h.2 A hA) x hx
 mono hZ h:=⟨h.1,fun A hA=>A.mono hZ (h.2 A hA)⟩
 st hs hc h:=⟨h.1,fun A hA=>A.st hs (fun x hx=>hc x (hx.imp (fun hx=>⟨A,hA,hx⟩) id)) (h.2 A hA)⟩
section
variable {w0 w:World}{M Z:Nat→Prop}{A:As}{L l:List As}
theorem St.OM(h:St w0 M Z w l):St w0 M Z w (As.many []::l):=by
 refine⟨h.bX,h.jL,?_,?_,.cons ?_ h.rh,?_⟩
 ·
  intro B i x j
  rcases List.mem_cons.1 i with rfl | i
  ·
   obtain⟨A,o,_⟩:=j;cases o
  exact h.lV B i x j
 ·
  intro B i x j
  rcases List.mem_cons.1 i with rfl | i
  ·
   obtain⟨A,o,_⟩:=j;cases o
  exact h.mQ B i x j
 ·
  intro B _ x j;obtain⟨A,o,_⟩:=j;cases o
 intro B i
 rcases List.mem_cons.1 i with rfl | i
 ·
  exact⟨.nil,fun A o=>by cases o⟩
 exact h.ok B i
theorem St.En(h:St w0 M Z w (A::As.many L::l)):St w0 M Z w (As.many (A::L)::l):=by
 obtain⟨d1,d2⟩:=List.pairwise_cons.1 h.rh;obtain⟨d3,d4⟩:=List.pairwise_cons.1 d2;have hm:(As.many L).ok Z w:=h.ok _ (by simp);refine⟨h.bX,h.jL,?_,?_,.cons ?_ d4,?_⟩
 ·
  intro B o x i
  rcases List.mem_cons.1 o with rfl | o
  ·
   obtain⟨C,j,i⟩:=i
   rcases List.mem_cons.1 j with rfl | j
   ·
    exact h.lV C (by simp) x i
   exact h.lV (As.many L) (by simp) x ⟨C,j,i⟩
  exact h.lV B (by simp [o]) x i
 ·
  intro B o x i
  rcases List.mem_cons.1 o with rfl | o
  ·
   obtain⟨C,j,i⟩:=i
   rcases List.mem_cons.1 j with rfl | j
   ·
    exact h.mQ C (by simp) x i
   exact h.mQ (As.many L) (by simp) x ⟨C,j,i⟩
  exact h.mQ B (by simp [o]) x i
 ·
  intro B o x i;obtain⟨C,j,i⟩:=i
  rcases List.mem_cons.1 j with rfl | j
  ·
   exact d1 B (by simp [o]) x i
  exact d3 B o x ⟨C,j,i⟩
 intro B o
 rcases List.mem_cons.1 o with rfl | o
 ·
  refine⟨.cons (fun C j x i p=>d1 (As.many L) (by simp) x i ⟨C,j,p⟩) hm.1,fun C j=>?_⟩
  rcases List.mem_cons.1 j with rfl | j
  ·
   exact h.ok C (by simp)
  exact hm.2 C j
 exact h.ok B (by simp [o])
theorem St.yP(h:St w0 M Z w (As.many (A::L)::l)):St w0 M Z w (A::As.many L::l):=by
 obtain⟨d1,d2⟩:=List.pairwise_cons.1 h.rh;have hm:(As.many (A::L)).ok Z w:=h.ok _ (by simp);obtain⟨d3,d4⟩:=List.pairwise_cons.1 hm.1;refine⟨h.bX,h.jL,?_,?_,.cons ?_ (.cons ?_ d2),?_⟩
 ·
  intro B i x j
  rcases List.mem_cons.1 i with rfl | i
  ·
   exact h.lV _ M0 x ⟨B,.head _,j⟩
  rcases List.mem_cons.1 i with rfl | i
  ·
   obtain⟨C,o,j⟩:=j;exact h.lV _ M0 x ⟨C,.tail _ o,j⟩
  exact h.lV B (.tail _ i) x j
 ·
  intro B i x j
  rcases List.mem_cons.1 i with rfl | i
  ·
   exact h.mQ _ M0 x ⟨B,.head _,j⟩
  rcases List.mem_cons.1 i with rfl | i
  ·
   obtain⟨C,o,j⟩:=j;exact h.mQ _ M0 x ⟨C,.tail _ o,j⟩
  exact h.mQ B (.tail _ i) x j
 ·
  intro B i x j p
  rcases List.mem_cons.1 i with rfl | i
  ·
   obtain⟨C,o,p⟩:=p;exact d3 C o x j p
  exact d1 B i x ⟨A,.head _,j⟩ p
 ·
  intro B i x j;obtain⟨C,o,j⟩:=j;exact d1 B i x ⟨C,.tail _ o,j⟩
 intro B i
 rcases List.mem_cons.1 i with rfl | i
 ·
  exact hm.2 B M0
 rcases List.mem_cons.1 i with rfl | i
 ·
  exact⟨d4,fun C o=>hm.2 C (.tail _ o)⟩
 exact h.ok B (.tail _ i)
theorem St.VT{L':List As}(o:L.Perm L') (h:St w0 M Z w (As.many L::l)):St w0 M Z w (As.many L'::l):=by
 obtain⟨d1,d2⟩:=List.pairwise_cons.1 h.rh;have hm:(As.many L).ok Z w:=h.ok _ (by simp);have p:∀x,(As.many L').fp x→(As.many L).fp x:=fun x ⟨C,q,j⟩=>⟨C,o.mem_iff.2 q,j⟩;refine⟨h.bX,h.jL,?_,?_,.cons (fun B i x j=>d1 B i x (p x j)) d2,?_⟩
 ·
  intro B i x j
  rcases List.mem_cons.1 i with rfl | i
  ·
   exact h.lV _ M0 x (p x j)
  exact h.lV B (.tail _ i) x j
 ·
  intro B i x j
  rcases List.mem_cons.1 i with rfl | i
  ·
   exact h.mQ _ M0 x (p x j)
  exact h.mQ B (.tail _ i) x j
 intro B i
 rcases List.mem_cons.1 i with rfl | i
 ·
  exact⟨hm.1.perm o (fun h x j r=>h x r j),fun C q=>hm.2 C (o.mem_iff.2 q)⟩
 exact h.ok B (.tail _ i)
end
theorem Eo{P:Program}{w:World}{T:TypeId}(hT:P.underlying T=some .bool) (p q:Bool):(Op.equalIn 10000 T (.bool p) (.bool q)).run P w=.ok (p == q) w:=by
 rw [show(10000:Nat)=9999+1 from rfl]
 unfold Op.equalIn
 simp [run_underlying hT]
theorem PV.eqB{P:Program}{kv:KV}{w:World}{T U ty:TypeId}{x y:Operand}{p q:Bool}(hT:P.underlying T=some .bool) (h:ev kv x=some (.bool p)) (hy:ev kv y=some (.bool q)):PV P (.binOp .eql T x y U) ty kv w (.bool (p == q)):=
 ⟨rfl,by simp [known,opers,h,hy],fun _ _ _ _=>by
  simp only [execOp,aK h,aK hy]
  simp [eqGuard,binOp,Op.equal,Op.maxDepth,Eo hT]⟩
structure RE where
 key:Key
 a:Option Addr
 n:Nat
 c:Nat
 reads:List Key
def RE.as(EK:Nat) (e:RE):As:=As.os RR.key EK 2 e.a e.n e.c e.reads
end Go.Rc

namespace Go.Rc
open Go
section
variable {aa:List aH}{aD:List ct}{val:Key→ByteArray}
theorem uC{f g:Nat}(h:f≤g):∀{l:List Key}{s s':ES},dM aa val f s l=some s'→dM aa val g s l=some s'
 | [],s,s',hu=>hu
 | k::r,s,s',hu=>by
  simp only [dM] at hu ⊢;obtain⟨t,h1,i⟩:=Option.bind_eq_some_iff.1 hu;rw [oe h h1];exact uC h i
theorem uD(hR:aq aa):∀(l:List Key) (s:ES),Good aa aD s→(∀k∈l,ep aa k)→∃f s',dM aa val f s l=some s'
 | [],s,_,_=>⟨0,s,rfl⟩
 | k::r,s,h,hk=>by
  obtain⟨f,t,h1⟩:=Ms (val:=val) hR _ s k h (hk k (by simp)) (Nat.le_refl _);have i:=(cz (val:=val) hR f).1 _ _ _ h1 h (hk k (by simp))
  obtain⟨g,s',o⟩:=uD hR r t i.1 fun k j=>hk k (by simp [j])
  refine⟨max f g,s',?_⟩
  grind [dM,oe,uC,Nat.le_max_right]
theorem xK(hR:aq aa) {f:Nat}:∀{l:List Key}{s s':ES},dM aa val f s l=some s'→Good aa aD s→(∀k∈l,ep aa k)→s'.a8.length+gz aa s'≤s.a8.length+gz aa s
 | [],s,s',h,_,_=>by simp only [dM,Option.some.injEq] at h;subst h;exact Nat.le_refl _
 | k::r,s,s',h,i,hk=>by
  simp only [dM] at h;obtain⟨t,h1,j⟩:=Option.bind_eq_some_iff.1 h;have o:=(cz (val:=val) hR f).1 _ _ _ h1 i (hk k (by simp));have p:=(iz (val:=val) hR f).1 _ _ _ h1 i (hk k (by simp))
  have q:=xK hR j o.1 fun k v=>hk k (by simp [v])
  exact Nat.le_trans q p.2.2
end
theorem Hw{aa:List aH}(hR:aq aa) {i:Nat}(hi:i<aa.length):iN aa (aM aa (i:Int))=true:=by
 have h:=hR.len
 unfold iN
 rw [ep.valid (aa:=aa) (.fb hi (by omega)),cj hi (by omega)]
 simp
theorem QQ:jB ⟨0,[],[]⟩:=⟨fun i y h=>by simp at h,fun i r h=>by simp at h,by decide,by decide,by decide,⟨by decide,fun i x h=>by simp at h⟩⟩
theorem jC.jB{rev:Int}{aD:List ct}(h:jC rev aD) (h0:0≤rev) (h1:rev≤1073741824) (j:aD.length≤64):jB ⟨rev,aD,[]⟩:=
 ⟨Em.2 ⟨h.1,h.2.1⟩,fun i r h=>by simp at h,h0,h1,j,⟨Nat.zero_le _,fun i x h=>by simp at h⟩⟩
end Go.Rc

namespace Go.Rc
open Go
def xL(x:Rec):Int:=16+x.key.text.size+x.value.size+8*x.reads.length
def ko(l:List Rec):Int:=(l.map xL).sum
def Hx(x:Rec):Prop:=x.key.text.size≤1000∧x.value.size≤1073741824∧x.reads.length≤4000
theorem Hx.size{x:Rec}(h:Hx x):0≤xL x∧xL x≤1100000000:=by
 unfold xL
 obtain⟨a,b,c⟩:=h
 omega
theorem BP{l:List Rec}{i:Nat}(hi:i<l.length):ko (l.take (i+1))=ko (l.take i)+xL l[i]:=by grind [ko,List.take_succ_eq_append_getElem]
theorem xM:∀{l:List Rec},(∀x∈l,Hx x)→0≤ko l∧ko l≤1100000000*l.length
 | [],_=>by simp [ko]
 | x::r,h=>by
  have h1:=(h x (by simp)).size
  have i:=xM (l:=r) fun y hy=>h y (by simp [hy])
  grind [ko]
theorem BQ{c s:Int}(hc:0≤c∧c≤1073741824) (h:0≤s∧s≤1100000000):-9223372036854775808≤c*s∧c*s≤9223372036854775807:=by
 have h1:=Int.mul_nonneg hc.1 h.1;have i:=Int.mul_le_mul hc.2 h.2 h.1 (by decide:(0:Int)≤1073741824)
 omega
theorem JH{α:Type}{out m:List α}{x:α}(p:Nat) (h:out.Perm m):(([]++out.take p)++[x]++out.drop p).Perm (m++[x]):=by
 have h1:(out.take p++[x]++out.drop p).Perm (out++[x]):=by grind [List.perm_append_comm,List.take_append_drop]
 rw [List.nil_append];exact h1.trans (h.append_right _)
theorem xN(l:List Rec) (k:Key):(fq l k).Sublist l:=List.filter_sublist
def As.rgo(c:Prop) (b o:Nat) (r:List Value):As where
 fp _:=False
 ok Z w:=c→(As.rg b o r).ok Z w
 lt _ _ hx:=hx.elim
 mono hZ h:=fun h0=>(As.rg b o r).mono hZ (h h0)
 st hs hc h:=fun h0=>(As.rg b o r).st hs hc (h h0)
theorem As.gro{c:Prop}{b o:Nat}{r:List Value}{Z:Nat→Prop}{w:World}(hc:c) (h:(As.rgo c b o r).ok Z w):w.rangeAt b o r:=(h hc).2.2
theorem Rd.opt{α:Type}{R:RR α}{k n c:Nat}{Z:Nat→Prop}{w:World}{a:Option Addr}{xs:List α}(h:Rd R k Z w a n c xs) (v:∀b,Z b→b<w.heap.size) (p:Nat):∃b o r,(∀i:p<xs.length,a=some ⟨b,o,none⟩∧r.length=k∧R.r Z w xs[p] r)∧(As.rgo (p<xs.length) b (o+p*k) r).ok Z w:=by
 by_cases i:p<xs.length
 ·
  obtain⟨b,o,r,h1,y,z,B,q⟩:=Rd.at h i;exact⟨b,o,r,fun _=>⟨h1,y,z⟩,fun _=>⟨q,v b q,B⟩⟩
 exact⟨0,0,[],fun j=>absurd j i,fun j=>absurd j i⟩
theorem bp.one(x:bp) (a1:Option Addr) (n1 c1:Nat) (a2:Option Addr) (n2 c2:Nat):∀u∈x.row a1 n1 c1 a2 n2 c2,u.oneCell'=true:=by simp [bp.row,Value.oneCell']
end Go.Rc

namespace Go.Rc
open Go
structure qg where
 aa:List aH
 base:bZ
 goals:List Key
 stack:List bp
 a8:List Key
structure Hy where
 u:Option Addr
 nu:Nat
 cu:Nat
 i:Option Addr
 ni:Nat
 ci:Nat
 r:Option Addr
 nr:Nat
 cr:Nat
 g:Option Addr
 ng:Nat
 cg:Nat
 f:Option Addr
 nf:Nat
 cf:Nat
 p:Option Addr
 np:Nat
 cp:Nat
def qg.row(t:qg) (A:Hy):List Value:=[.slice A.u A.nu A.cu,.int .i64 t.base.ad,.slice A.i A.ni A.ci,.slice A.r A.nr A.cr,.slice A.g A.ng A.cg,.slice A.f A.nf A.cf,.slice A.p A.np A.cp]
structure qg.In (t:qg) (A:Hy) (Z:Nat→Prop) (w:World):Prop where
 u:Rd RR.fb 4 Z w A.u A.nu A.cu t.aa
 i:Rd RR.aD 4 Z w A.i A.ni A.ci t.base.ab
 r:Rd RR.ei 8 Z w A.r A.nr A.cr t.base.ah
 g:Rd RR.key 2 Z w A.g A.ng A.cg t.goals
 f:Rd RR.mJ 6 Z w A.f A.nf A.cf t.stack
 p:Rd RR.key 2 Z w A.p A.np A.cp t.a8
structure qg.In5 (t:qg) (A:Hy) (Z:Nat→Prop) (w:World):Prop where
 u:Rd RR.fb 4 Z w A.u A.nu A.cu t.aa
 i:Rd RR.aD 4 Z w A.i A.ni A.ci t.base.ab
 r:Rd RR.ei 8 Z w A.r A.nr A.cr t.base.ah
 g:Rd RR.key 2 Z w A.g A.ng A.cg t.goals
 f:Rd RR.mJ 6 Z w A.f A.nf A.cf t.stack
structure qg.Sz (t:qg):Prop where
 u:t.aa.length≤1000000
 a:∀x∈t.aa,x.asks.length≤1000
 i:t.base.ab.length≤1000000
 r:t.base.ah.length≤1000000
 f:t.stack.length≤1000000
 g:t.goals.length≤1000000
 p:t.a8.length≤1000000
end Go.Rc

namespace Go.Rc
open Go
structure eD where
 a:Option Addr
 n:Nat
 c:Nat
 a2:Option Addr
 n2:Nat
 c2:Nat
def bp.ot(x:bp × eD):List Value:=x.1.row x.2.a x.2.n x.2.c x.2.a2 x.2.n2 x.2.c2
def RR.im:RR (bp × eD):=RR.flat bp.ot
theorem uE{α:Type}{l:List α}{a:α}(h:l.getLast?=some a):l.dropLast++[a]=l:=by
 rcases List.eq_nil_or_concat l with rfl | ⟨m,b,rfl⟩
 ·
  cases h
 simp at h
 subst h
 simp
def du(L:List (bp × eD)):FZ:=
 ⟨fun Z w=>∀y∈L,Rd RR.key 2 Z w y.2.a y.2.n y.2.c y.1.reads∧Rd RR.str 1 Z w y.2.a2 y.2.n2 y.2.c2 y.1.ae,fun hZ h y hy=>⟨(h y hy).1.mono hZ,(h y hy).2.mono hZ⟩,fun h1 h2 h y hy=>⟨(h y hy).1.st h1 h2,(h y hy).2.st h1 h2⟩⟩
theorem du.last{L:List (bp × eD)}{Z:Nat→Prop}{w:World}{a a2:Option Addr}{n c n2 c2:Nat}{pl:List Key}{i:List ByteArray}(h:(du L.dropLast).p Z w) (hl:L=[]∨∃f,L.getLast?=some (f,⟨a,n,c,a2,n2,c2⟩)∧pl=f.reads∧i=f.ae) (hk:Rd RR.key 2 Z w a n c pl) (hy:Rd RR.str 1 Z w a2 n2 c2 i):(du L).p Z w:=fun y hm=>by
 rcases hl with rfl | ⟨f,h1,rfl,rfl⟩
 ·
  cases hm
 have e:=uE h1;rw [← e] at hm
 rcases List.mem_append.1 hm with hm | hm
 ·
  exact h y hm
 grind
theorem du.nil(Z:Nat→Prop) (w:World):(du ([]:List (bp × eD)).dropLast).p Z w:=fun y hy=>by cases hy
theorem du.mJ{L:List (bp × eD)}{E n c:Nat}{a:Option Addr}{Z:Nat→Prop}{w:World}(h:Ow RR.im E 6 Z w a n c L) (o:(du L).p Z w) (q:∀y∈L,y.1.reads.length≤4000∧y.1.ae.length≤4000):Ow RR.mJ E 6 Z w a n c (L.map Prod.fst):=by
 obtain⟨hn,rows,hl,hk,h1,v⟩:=h;refine⟨by rw [hn,List.length_map],rows,by rw [hl,List.length_map],hk,h1,fun i x r j z=>?_⟩;rw [List.getElem?_map] at j;obtain⟨y,hy,rfl⟩:=Option.map_eq_some_iff.1 j;have hm:=List.mem_of_getElem? hy;have hr:r=bp.ot y:=v i y r hy z;obtain⟨B,C⟩:=q y hm;obtain⟨D,F⟩:=o y hm;exact⟨_,_,_,_,_,_,hr,D,F,B,C⟩
end Go.Rc

namespace Go.Rc
open Go
structure BK (aa:List aH) (aD:List ct) (rev:Int) (b:bZ):Prop where
 fT:Good aa aD ⟨b,[],[],0⟩
 tN:xH ⟨b,[],[],0⟩
 rv:b.ad=rev
 xO:yI rev aD
 po:aD.length≤64
section
variable {aa:List aH}{aD:List ct}{rev:Int}{b:bZ}
theorem BK.jB(h:BK aa aD rev b):jB b:=
 ⟨by rw [h.rv,show b.ab=aD from h.fT.aD];exact h.xO,fun i r hr=>(h.tN.v r (List.mem_of_getElem? hr)).2,h.tN.r0,h.tN.r1,by rw [show b.ab=aD from h.fT.aD];exact h.po,h.tN.st.nj h.fT.len fun r hr=>(h.tN.v r hr).1⟩
theorem BK.BI(h:BK aa aD rev b) (g:List Key):BK aa aD rev (cI b g false):=⟨h.fT.mark g false,h.tN.BI g,h.rv,h.xO,h.po⟩
theorem BK.BJ(h:BK aa aD rev b) {g:List Key}(hc:∀x∈g,az x=true):BK aa aD rev (cI b g true):=⟨h.fT.mark g true,h.tN.BJ hc,h.rv,h.xO,h.po⟩
theorem BK.put(h:BK aa aD rev b) {r:Rec}(hk:ep aa r.key) (hr:r.reads.length≤4000∧∀a∈r.reads,ep aa a) (i:(!(aA b.ah r.key).isSome && decide (4000≤b.ah.length))=false) (j:eF r=true) (o:r.av≤b.ad):BK aa aD rev {b with ah:=dK b.ah r}:=
 ⟨h.fT.put (a8:=[]) hk hr i,h.tN.put (a8:=[]) j o,h.rv,h.xO,h.po⟩
theorem BK.sub(h:BK aa aD rev b) {rs:List Rec}(i:rs.Sublist b.ah):BK aa aD rev {b with ah:=rs}:=
 ⟨⟨h.fT.aD,Nat.le_trans i.length_le h.fT.len,fun r hr=>h.fT.key r (i.subset hr),fun r hr=>h.fT.AG r (i.subset hr),.nil,fun k=>.inl rfl⟩,⟨h.tN.st.sublist i,fun r hr=>h.tN.v r (i.subset hr),h.tN.r0,h.tN.r1⟩,h.rv,h.xO,h.po⟩
theorem BK.small(h:BK aa aD rev b):∀r∈b.ah,Hx r∧0≤r.cost∧r.cost≤1073741824:=fun r hr=>by
 obtain⟨i,hi,ht,_⟩:=(h.fT.key r hr).shape;have h1:=(ft _).1 (h.tN.v r hr).1;obtain⟨_,_,_,o,hl,_,_,_,p,j,_⟩:=h1;have q:=rA (n:=i) (by omega);refine⟨⟨by rw [ht];omega,by omega,by omega⟩,by omega,j⟩
end
structure fw (aa:List aH) (f:bp):Prop where
 key:ep aa f.key
 aD:aw f.key=false
 AG:∀a∈f.reads,ep aa a
 len:f.reads.length=f.ae.length
 gM:gZ aa f.key f.ae.length
 at0:0≤f.at_
theorem fw.new{aa:List aH}{k:Key}(hk:ep aa k) (hi:aw k=false):fw aa ⟨k,false,0,[],[]⟩:=⟨hk,hi,fun a h=>(by cases h),rfl,hk.gM hi,Int.le_refl _⟩
structure TK (aa:List aH) (aD:List ct) (rev:Int) (t:qg):Prop where
 Gx:t.aa=aa
 base:BK aa aD rev t.base
 goals:∀k∈t.goals,ep aa k
 stack:∀f∈t.stack,fw aa f
 a8:∀k∈t.a8,ep aa k
theorem PV.cast{P:Program}{op:Op}{ty:TypeId}{kv:KV}{w:World}{v v':Value}(h:PV P op ty kv w v) (e:v=v'):PV P op ty kv w v':=e ▸ h
theorem bH{α:Type}(L:List α) (x:α):(L++[x])[L.length]?=some x:=by simp
theorem du.snoc{L:List (bp × eD)}{f:bp}{A:eD}{Z:Nat→Prop}{w:World}(h:(du L).p Z w) (hk:Rd RR.key 2 Z w A.a A.n A.c f.reads) (hy:Rd RR.str 1 Z w A.a2 A.n2 A.c2 f.ae):(du (L++[(f,A)])).p Z w:=fun y hm=>by
 rcases List.mem_append.1 hm with hm | hm
 ·
  exact h y hm
 grind
theorem du.whole{L:List (bp × eD)}{f:bp}{A:eD}{l:List bp}{E n c:Nat}{a:Option Addr}{Z:Nat→Prop}{w:World}(h:Ow RR.im E 6 Z w a n c (L++[(f,A)])) (i:(du (L++[(f,A)])).p Z w) (j:∀y∈L,y.1.reads.length≤4000∧y.1.ae.length≤4000) (o:f.reads.length≤4000∧f.ae.length≤4000) (hl:L.map Prod.fst++[f]=l):Ow RR.mJ E 6 Z w a n c l:=by
 have h1:=du.mJ h i fun y hm=>by grind
 grind
theorem BR{L:List (bp × eD)}{f:bp}{A:eD}{l:List bp}{E EK ES n c:Nat}{a:Option Addr}{Z:Nat→Prop}{w:World}(o:Ow RR.im E 6 Z w a n c (L++[(f,A)])) (hk:Ow RR.key EK 2 Z w A.a A.n A.c f.reads) (hy:Ow RR.str ES 1 Z w A.a2 A.n2 A.c2 f.ae) (q:(du L).p Z w) (r:∀y∈L,y.1.reads.length≤4000∧y.1.ae.length≤4000) (v:f.reads.length≤4000∧f.ae.length≤4000) (hl:L.map Prod.fst++[f]=l) (F:l.length≤1000000):∃i:Nat→Prop,(∀x,Z x→i x)∧Rd RR.mJ 6 i w a n c l:=by
 have h1:=hk.rd (by omega);have z:=hy.rd (by omega)
 let i:Nat→Prop:=fun x=>Z x∨x∈aJ A.a∨x∈aJ A.a2
 have j:∀x,Z x→i x:=fun x h=>.inl h;have B:(du (L++[(f,A)])).p i w:=du.snoc ((du L).mono j q) (h1.mono fun x h=>h.imp id .inl) (z.mono fun x h=>h.imp id .inr);have C:Ow RR.im E 6 i w a n c (L++[(f,A)]):=(As.os RR.im E 6 a n c (L++[(f,A)])).mono j o;have D:=du.whole C B r v hl;exact⟨_,fun x h=>.inl (j x h),D.rd (by omega)⟩
theorem l5{x:bZ}{l others:List bp}{k:Key}(h:bJ x l others k=1):aw k=false:=by grind [cN,bJ]
theorem du.push{L:List (bp × eD)}{f g:bp}{A:eD}{l:List bp}{E n c:Nat}{a:Option Addr}{Z:Nat→Prop}{w:World}(h:Ow RR.im E 6 Z w a n c (L++[(f,A)]++[(g,⟨none,0,0,none,0,0⟩)])) (i:(du (L++[(f,A)])).p Z w) (q:∀y∈L,y.1.reads.length≤4000∧y.1.ae.length≤4000) (r:f.reads.length≤4000∧f.ae.length≤4000) (j:g.reads=[]) (o:g.ae=[]) (hl:L.map Prod.fst++[f]=l):Ow RR.mJ E 6 Z w a n c (l++[g]):=by
 have h1:=du.mJ h (du.snoc (f:=g) (A:=⟨none,0,0,none,0,0⟩) i (by rw [j];exact Rd.nil _ _ _ _) (by rw [o];exact Rd.nil _ _ _ _)) fun y hm=>by grind
 grind
section
variable {w0 w:World}{M Z:Nat→Prop}{l:List As}{A0 A1 A2 A3 A4 A5 A6 A7 A8 A9 VL A11 A12 A13 A14 A15 A16 A17:As}
end
end Go.Rc

namespace Go.Rc
open Go
section
variable {α:Type}{R:RR α}{P:Program}{E k n c b:Nat}{a:Option Addr}{L:List α}{u:α}{Z:Nat→Prop}{w:World}
variable {N:Nat}{kv:KV}{K:KV→World→Prop}{ty:TypeId}{pos:String}{af:Array Edge}{g:Option (Nat × Bool)}{T:TypeId}
theorem OX.AH{x y:Operand}{f:Nat}{v:Value}(hT:(P.info? T).map (·.size)=some 1) (h:Ow R E k Z w a n c (L++[u])) (j:a=some ⟨b,0,none⟩) (p:f<k) (q:ev kv x=some (.pointer (some ⟨b,0+L.length*k+f,none⟩))) (hy:ev kv y=some v)
  (h1:v.oneCell'=true) (i:α) (hR:∀r,R.r Z w u r→R.r Z w i (r.set f v)) (z:∀w',aT (aJ a) w w'→OR 0 w' E k (R.r Z w) a n c (L++[i])→K kv w'):OX P ⟨none,.store T x y,ty,pos,af,g⟩ N kv w K:=
 OX.Qu hT h j (bH L u) p q hy h1 i (fun r _ h=>hR r h) fun w' c o=>z w' c (by grind)
end
section
variable {aa:List aH}{f:bp}
theorem fw.read(h:fw aa f) {k:Key}{a:ByteArray}(hk:ep aa k) (i:gZ aa f.key (f.ae.length+1)):fw aa {f with reads:=f.reads++[k],ae:=f.ae++[a]}:=
 ⟨h.key,h.aD,fun b hb=>by
  rcases List.mem_append.1 hb with hb | hb
  ·
   exact h.AG b hb
  grind,by simp [h.len],by simpa using i,h.at0⟩
theorem fw.runs(h:fw aa f):fw aa {f with running:=true,at_:=0}:=⟨h.key,h.aD,h.AG,h.len,h.gM,Int.le_refl _⟩
theorem fw.step(h:fw aa f):fw aa {f with at_:=f.at_+1}:=⟨h.key,h.aD,h.AG,h.len,h.gM,by have:=h.at0;show 0≤f.at_+1;omega⟩
theorem fw.snoc{L:List (bp × eD)}(i:∀y∈L,fw aa y.1) (h:fw aa f):∀g∈L.map Prod.fst++[f],fw aa g:=fun g j=>by grind
end
structure TR (aa:List aH) (aD:List ct) (rev:Int) (n:Nat) (t:qg):Prop where
 ok:TK aa aD rev t
 ns:t.stack.length≤n
 nr:t.a8.length≤n
 ng:t.goals.length≤32
section
variable {aa:List aH}{aD:List ct}{rev:Int}{n:Nat}{t:qg}
theorem TR.mono(h:TR aa aD rev n t) {m:Nat}(hm:n≤m):TR aa aD rev m t:=⟨h.ok,Nat.le_trans h.ns hm,Nat.le_trans h.nr hm,h.ng⟩
theorem TR.sz(h:TR aa aD rev n t) (hR:aq aa) (hn:n≤100000):t.Sz:=by
 have h1:=h.ok.base;have q:=h1.po;have p:t.base.ab=aD:=h1.fT.aD;have r:t.base.ah.length≤4000:=h1.fT.len;have v:=h.ns;have y:=h.nr;have z:=h.ng;have B:=hR.len;have j:=h.ok.Gx;refine⟨by rw [j];omega,fun x o=>?_,by rw [p];omega,by omega,by omega,by omega,by omega⟩;rw [j] at o;obtain⟨i,hi,rfl⟩:=List.mem_iff_getElem.1 o
 have:=(hR.2 i _ (List.getElem?_eq_getElem hi)).1
 omega
theorem TR.VU(h:TR aa aD rev n t):TR aa aD rev n {t with goals:=t.goals.drop 1}:=
 ⟨⟨h.ok.Gx,h.ok.base,fun k hk=>h.ok.goals k (List.mem_of_mem_drop hk),h.ok.stack,h.ok.a8⟩,h.ns,h.nr,by have:=h.ng;simp;omega⟩
theorem TR.begin(h:TR aa aD rev n t) {k:Key}(hk:ep aa k) (hi:aw k=false) (hn:1≤n):TR aa aD rev n {t with goals:=t.goals.drop 1,stack:=[⟨k,false,0,[],[]⟩]}:=
 ⟨⟨h.ok.Gx,h.ok.base,fun k hk=>h.ok.goals k (List.mem_of_mem_drop hk),fun f i=>by grind [fw.new],h.ok.a8⟩,hn,h.nr,by have:=h.ng;simp;omega⟩
theorem TR.next(h:TR aa aD rev n t) {b:bZ}{l:List bp}{rk:List Key}(hb:BK aa aD rev b) (hl:∀f∈l,fw aa f) (hk:∀k∈rk,ep aa k) (h1:rk.length≤1) (i:l.length≤t.stack.length+1):TR aa aD rev (n+1) {t with base:=b,stack:=l,a8:=t.a8++rk}:=
 ⟨⟨h.ok.Gx,hb,h.ok.goals,hl,fun k hm=>by rcases List.mem_append.1 hm with hm | hm;exact h.ok.a8 k hm;exact hk k hm⟩,by have:=h.ns;show l.length≤_;omega,by have:=h.nr;grind,h.ng⟩
theorem yR{x:bZ}{l:List bp}{k:Key}(h:cN x l k=true):aw k=false:=by grind [cN]
end
end Go.Rc

