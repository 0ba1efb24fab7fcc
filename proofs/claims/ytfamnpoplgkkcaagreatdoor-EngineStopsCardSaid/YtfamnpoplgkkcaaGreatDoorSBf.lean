/- Base of the proof: frames, memory, ownership, and the plain meaning of rule systems. Conditions: as each lemma says. -/
import Derived.Test.YtfamnpoplgkkcaaGreatDoorSBe
import Derived.Test.YtfamnpoplgkkcaaGreatDoorSBd
import Derived.Test.YtfamnpoplgkkcaaGreatDoorSBc
import Derived.Laws.IdiomRangeMap
set_option linter.all false
namespace Go.Rc
open Go
/-! ### counting -/
def DL(p:Nat→Bool):Nat→Nat
 | 0=>0
 | n+1=>DL p n+(p n).toNat
theorem rK{p q:Nat→Bool}:∀{n:Nat},(∀i,i<n→p i=true→q i=true)→DL p n≤DL q n
 | 0,_=>Nat.le_refl _
 | n+1,h=>by
  have h1:=rK (n:=n) fun i hi=>h i (by omega)
  have j:=h n (by omega);simp only [DL]
  cases o:p n with
  | false=>simp;omega
  | true=>rw [j o];omega
theorem rL{p q:Nat→Bool}{j:Nat}:∀{n:Nat},(∀i,i<n→p i=true→q i=true)→j<n→q j=true→p j=false→DL p n+1≤DL q n
 | 0,_,r,_,_=>by omega
 | n+1,h,r,h1,o=>by
  simp only [DL]
  rcases Nat.lt_or_ge j n with v | C
  ·
   have y:=rL (n:=n) (fun i hi=>h i (by omega)) v h1 o;have z:=h n (by omega)
   cases B:p n with
   | false=>simp;omega
   | true=>rw [z B];omega
  have e:j=n:=by omega
  subst e
  have y:=rK (n:=j) (p:=p) (q:=q) fun i hi=>h i (by omega)
  rw [h1,o];simp;omega
theorem Gy{p q:Nat→Bool}{j:Nat}:∀{n:Nat},(∀i,i<n→i≠j→p i=true→q i=true)→DL p n≤DL q n+1
 | 0,_=>by simp [DL]
 | n+1,h=>by
  simp only [DL]
  by_cases e:n=j
  ·
   subst e
   have v:=rK (n:=n) (p:=p) (q:=q) fun i hi=>h i (by omega) (by omega)
   cases p n <;> cases q n <;> simp <;> omega
  have h1:=Gy (n:=n) fun i hi=>h i (by omega)
  have o:=h n (by omega) e
  cases r:p n with
  | false=>simp;omega
  | true=>rw [o r];simp;omega
theorem O3(p:Nat→Bool):∀n,DL p n≤n
 | 0=>Nat.le_refl _
 | n+1=>by have:=O3 p n;simp only [DL];cases p n <;> simp <;> omega
/-! ### what is found in what was put -/
theorem Gz:∀(a b:List UInt8),Lib.compareBytes a b=0→a=b
 | [],[],_=>rfl
 | [],_::_,h=>by simp [Lib.compareBytes] at h
 | _::_,[],h=>by simp [Lib.compareBytes] at h
 | x::a,y::b,h=>by
  simp only [Lib.compareBytes] at h
  split at h
  ·
   cases h
  split at h
  ·
   cases h
  rename_i h1 i
  have e:x=y:=by grind
  rw [e,Gz a b h]
theorem l6{a b:Key}(h:bD a b=0):a=b:=by
 unfold bD at h
 split at h
 ·
  cases h
 split at h
 ·
  cases h
 rename_i h1 i
 have j:=Gz _ _ h;obtain⟨p,o⟩:=a;obtain⟨q,r⟩:=b;simp only at h1 i j
 congr 1
 ·
  omega
 cases o;simp_all
theorem BM(r:Rec) (k:Key):∀(l:List Rec) (b:Bool),aB (fe r l b) k=if k=r.key then (if b then none else some r) else aB l k:=by
 intro l
 induction l with
 | nil=>
  intro b
  unfold fe aB
  grind
 | cons x xs i=>
  intro b;have h1:=i (b || decide (0≤bD x.key r.key))
  unfold fe
  unfold aB at h1 ⊢
  rw [List.find?_append,List.find?_append,h1]
  by_cases h:k=r.key
  ·
   subst h;simp only [if_true]
   by_cases hc:bD x.key r.key=0
   ·
    grind
   have o:x.key≠r.key:=fun e=>hc (by rw [e];exact iw _)
   grind
  simp only [if_neg h]
  have hr:(r.key == k)=false:=by simp;exact fun e=>h e.symm
  have j:(List.find? (fun y=>y.key == k) (if (decide (0≤bD x.key r.key) && !b)=true then [r] else []))=none:=by split <;> simp [hr]
  rw [j]
  by_cases hc:bD x.key r.key=0
  ·
   have e:x.key=r.key:=l6 hc
   grind
  grind
theorem cU(l:List Rec) (r:Rec) (k:Key):aB (eu l r) k=if k=r.key then some r else aB l k:=by grind [eu,BM]
theorem rM(f:Rec→Rec) (h:∀r,(f r).key=r.key) (k:Key) (l:List Rec):aB (l.map f) k=(aB l k).map f:=by
 unfold aB
 rw [List.find?_map,show((fun x:Rec=>x.key == k)∘f)=(fun x:Rec=>x.key == k) from funext fun x=>by simp [h]]
/-! ### what goes on being so -/
theorem aT{x:cz}{k:Key}:az x k=true↔∃r,aB x.ah k=some r∧r.av=x.ad:=by
 unfold az aC
 cases h:aB x.ah k with
 | none=>simp
 | some r=>simp
theorem Em{x:cz}{g:List Key}{d:Bool}{k:Key}(h:az x k=true):az (cL x g d) k=true:=by
 obtain⟨r,h1,i⟩:=aT.1 h;refine aT.2 ⟨aY x.ad g d r,?_,?_⟩
 ·
  show aB (x.ah.map (aY x.ad g d)) k=_
  grind [rM,cQ]
 show _=x.ad
 unfold aY
 grind
theorem gW{x:cz}{g:List Key}{k:Key}(h:(aB x.ah k).isSome=true) (hk:k∈g):az (cL x g false) k=true:=by
 obtain⟨r,h1⟩:=Option.isSome_iff_exists.1 h;have i:=List.find?_some h1
 simp at i
 refine aT.2 ⟨aY x.ad g false r,?_,?_⟩
 ·
  show aB (x.ah.map (aY x.ad g false)) k=_
  grind [rM,cQ]
 show _=x.ad
 grind [aY]
theorem Hw{x:cz}{r:Rec}{k:Key}(hr:r.av=x.ad) (h:az x k=true):az {x with ah:=eu x.ah r} k=true:=by
 obtain⟨q,h1,i⟩:=aT.1 h
 by_cases e:k=r.key
 ·
  exact aT.2 ⟨r,by show aB (eu x.ah r) k=_;rw [cU,if_pos e],hr⟩
 exact aT.2 ⟨q,by show aB (eu x.ah r) k=_;rw [cU,if_neg e,h1],i⟩
theorem je{x:cz}{r:Rec}(hr:r.av=x.ad):az {x with ah:=eu x.ah r} r.key=true:=
 aT.2 ⟨r,by show aB (eu x.ah r) r.key=_;rw [cU,if_pos rfl],hr⟩
theorem En(l:List Rec) (rev:Int) (k:Key):k∈aA l rev k:=by grind [aA,rJ]
structure iE (s s':ES):Prop where
 on:∀k,s'.on k=s.on k
 up:∀k,az s.b k=true→az s'.b k=true
theorem iE.refl(s:ES):iE s s:=⟨fun _=>rfl,fun _ h=>h⟩
theorem iE.trans{s t u:ES}(h:iE s t) (i:iE t u):iE s u:=⟨fun k=>(i.on k).trans (h.on k),fun k hk=>i.up k (h.up k hk)⟩
theorem iE.there{s s':ES}(h:iE s s') {k:Key}(ht:eh s k=true):eh s' k=true:=by
 unfold eh at ht ⊢
 rw [h.on k];simp only [Bool.or_eq_true] at ht ⊢
 rcases ht with h1 | h1 | h1
 ·
  exact .inl h1
 ·
  exact .inr (.inl h1)
 exact .inr (.inr (h.up k h1))
def gA(aa:List aG) (s:ES):Nat:=DL (fun i=>!az s.b (aI aa (i:Int)) && !s.on (aI aa (i:Int))) aa.length
def off(aa:List aG) (s:ES):Nat:=DL (fun i=>!s.on (aI aa (i:Int))) aa.length
theorem iE.gA{aa:List aG}{s s':ES}(h:iE s s'):gA aa s'≤gA aa s:=rK fun i _ j=>by
 simp only [Bool.and_eq_true,Bool.not_eq_true'] at j ⊢;rw [h.on] at j;refine⟨?_,j.2⟩
 cases hu:az s.b (aI aa (i:Int)) with
 | false=>rfl
 | true=>rw [h.up _ hu] at j;exact absurd j.1 (by simp)
theorem iE.off{aa:List aG}{s s':ES}(h:iE s s'):Go.Rc.off aa s'=Go.Rc.off aa s:=by
 unfold Go.Rc.off
 congr 1
 funext i
 rw [h.on]
section
variable {aa:List aG}{val:Key→ByteArray}{aD:List cB}
theorem nn(s:ES) (k k':Key):ES.on {s with busy:=cM s.busy k (.bool true)} k'=(decide (k=k') || s.on k'):=by
 unfold ES.on
 simp only [ee]
 by_cases h:k=k' <;> simp [h]
theorem Eo{s:ES}(hn:(s.busy.map (·.1)).Nodup) (k k':Key):ES.on {s with busy:=iT s.busy k} k'=(!decide (k=k') && s.on k'):=by
 unfold ES.on
 simp only [Bp hn]
 by_cases h:k=k' <;> simp [h]
def UpK(aa:List aG) (val:Key→ByteArray) (aD:List cB) (f:Nat):Prop:=∀s k s',kZ aa val f s k=some s'→Good aa aD s→eA aa k→iE s s'∧(s'.e=0→s.e=0∧(ay k=true∨eh s' k=true))∧s'.bf.length+gA aa s'≤s.bf.length+gA aa s
def ChK(aa:List aG) (val:Key→ByteArray) (aD:List cB) (f:Nat):Prop:=∀s k n s' b,cP aa val f s k n=some (s',b)→Good aa aD s→iE s s'∧(s'.e=0→s.e=0∧(b=false→az s'.b k=true))∧s'.bf.length+gA aa s'≤s.bf.length+gA aa s
def RuK(aa:List aG) (val:Key→ByteArray) (aD:List cB) (f:Nat):Prop:=∀s k reads ae s',gO aa val f s k reads ae=some s'→Good aa aD s→gZ aa k ae.length→iE s s'∧(s'.e=0→s.e=0∧az s'.b k=true)∧(s'.bf.length+gA aa s'≤s.bf.length+gA aa s∨(az s'.b k=true∧s'.bf.length+gA aa s'≤s.bf.length+gA aa s+1))
theorem iE.err(s:ES) (e:Int):iE s {s with e:=e}:=⟨fun _=>rfl,fun _ h=>h⟩
theorem iE.mark(s:ES) (g:List Key) (d:Bool):iE s {s with b:=cL s.b g d}:=⟨fun _=>rfl,fun _ h=>Em h⟩
theorem iy(hR:aq aa):∀f,UpK aa val aD f∧ChK aa val aD f∧RuK aa val aD f:=by
 intro f
 induction f with
 | zero=>exact⟨fun s k s' h=>by simp [kZ] at h,fun s k n s' b h=>by simp [cP] at h,fun s k r a s' h=>by simp [gO] at h⟩
 | succ f ih=>
  obtain⟨S,D,F⟩:=ih;have gd:=cA (val:=val) (aD:=aD) hR f;refine⟨?_,?_,?_⟩
  ·
   intro s k s' h p hk
   unfold kZ at h
   split at h
   ·
    rename_i he
    cases h
    refine⟨.refl _,fun h0=>⟨h0,?_⟩,Nat.le_refl _⟩
    grind
   rename_i he
   have he0:s.e=0:=by simp at he;exact he.1
   have G:ay k=false:=by simp at he;exact he.2
   split at h
   ·
    rename_i hu
    cases h
    exact⟨.refl _,fun h0=>⟨h0,.inr (by unfold eh;rw [hu];simp)⟩,Nat.le_refl _⟩
   rename_i hu
   split at h
   ·
    rename_i H
    split at h
    ·
     rename_i hc
     cases h
     exact⟨.refl _,fun h0=>⟨h0,.inr (by unfold eh;rw [H,hc];simp)⟩,Nat.le_refl _⟩
    cases h
    exact⟨.err _ _,fun h0=>by simp at h0,Nat.le_refl _⟩
   rename_i H
   have hu':az s.b k=false:=by simpa using hu
   have LO:s.on k=false:=by simpa using H
   obtain⟨⟨s2,b2⟩,z,h⟩:=Option.bind_eq_some_iff.1 h;obtain⟨o,ht,h⟩:=Option.bind_eq_some_iff.1 h;simp only [Option.some.injEq] at h;subst h;obtain⟨i,hi,hki,_⟩:=hk.gH G;obtain⟨I,_⟩:=gd.2.1 _ _ _ _ _ z (p.on k);obtain⟨U,he2,ht2⟩:=D _ _ _ _ _ z (p.on k)
   -- the state before, with k under way
   have h1:gA aa {s with busy:=cM s.busy k (.bool true)}+1≤gA aa s:=by
    refine rL (j:=i) (fun j _ v=>?_) hi ?_ ?_
    ·
     simp only [nn,Bool.and_eq_true,Bool.not_eq_true',Bool.or_eq_false_iff] at v ⊢;exact⟨v.1,v.2.2⟩
    ·
     grind
    grind [nn]
   have B:Good aa aD o∧iE s2 o∧(o.e=0→s2.e=0∧az o.b k=true)∧(o.bf.length+gA aa o≤s2.bf.length+gA aa s2∨(az o.b k=true∧o.bf.length+gA aa o≤s2.bf.length+gA aa s2+1)):=by
    split at ht
    ·
     obtain⟨a,b,c⟩:=F _ _ _ _ _ ht I (hk.gH G);exact⟨(gd.2.2 _ _ _ _ _ ht I (hk.gH G) rfl (fun a C=>by cases C)).1,a,b,c⟩
    rename_i hb
    simp only [Option.some.injEq] at ht;subst ht;exact⟨I,.refl _,fun h0=>⟨h0,(he2 h0).2 (by simpa using hb)⟩,.inl (Nat.le_refl _)⟩
   obtain⟨J,V,he3,ht3⟩:=B
   have IJ:∀k',o.on k'=(decide (k=k') || s.on k'):=fun k'=>by rw [V.on,U.on,nn]
   have q:iE s {o with busy:=iT o.busy k}:=⟨fun k'=>by
    rw [Eo J.j3,IJ]
    grind,fun k' h=>V.up _ (U.up _ h)⟩
   refine⟨q,fun h0=>⟨he0,.inr ?_⟩,?_⟩
   ·
    have:=(he3 h0).2
    show eh {o with busy:=iT o.busy k} k=true
    unfold eh
    grind
   show o.bf.length+gA aa {o with busy:=iT o.busy k}≤_
   have amx:s2.bf.length+gA aa s2≤s.bf.length+gA aa {s with busy:=cM s.busy k (.bool true)}:=ht2
   by_cases hu3:az o.b k=true
   ·
    have:gA aa {o with busy:=iT o.busy k}≤gA aa o:=rK fun j _ v=>by
     simp only [Eo J.j3,Bool.and_eq_true,Bool.not_eq_true',Bool.and_eq_false_iff] at v ⊢
     grind
    omega
   have y:gA aa {o with busy:=iT o.busy k}≤gA aa o+1:=Gy (j:=i) fun j v DJ z=>by
    simp only [Eo J.j3,Bool.and_eq_true,Bool.not_eq_true',Bool.and_eq_false_iff] at z ⊢
    grind [dY]
   grind
  ·
   intro s k n s' b h p
   unfold cP at h
   split at h
   ·
    rename_i he
    cases h;exact⟨.refl _,fun h0=>absurd h0 he,Nat.le_refl _⟩
   split at h
   ·
    cases h;exact⟨.refl _,fun h0=>⟨h0,fun hb=>by cases hb⟩,Nat.le_refl _⟩
   rename_i hf
   have W:(aB s.b.ah k).isSome=true:=by grind
   split at h
   ·
    rename_i hv
    cases h;exact⟨.refl _,fun h0=>⟨h0,fun _=>by unfold az;rw [W,hv];simp⟩,Nat.le_refl _⟩
   split at h
   ·
    cases h
    have q:iE s {s with b:=cL s.b (aA s.b.ah s.b.ad k) false}:=.mark _ _ _;exact⟨q,fun h0=>⟨h0,fun _=>gW W (En _ _ _)⟩,Nat.add_le_add_left q.gA _⟩
   rename_i c hc
   split at h
   ·
    obtain⟨t,ht,h⟩:=Option.bind_eq_some_iff.1 h;obtain⟨h1,O,B⟩:=S _ _ _ ht p (fO p hc);obtain⟨Q,y,X⟩:=D _ _ _ _ _ h (gd.1 _ _ _ ht p (fO p hc)).1;exact⟨h1.trans Q,fun h0=>⟨(O (y h0).1).1,(y h0).2⟩,Nat.le_trans X B⟩
   split at h
   ·
    split at h <;> cases h
    ·
     have q:iE s {s with b:=cL s.b (aA s.b.ah s.b.ad k) true}:=.mark _ _ _;exact⟨q,fun h0=>⟨h0,fun hb=>by cases hb⟩,Nat.add_le_add_left q.gA _⟩
    exact⟨.refl _,fun h0=>⟨h0,fun hb=>by cases hb⟩,Nat.le_refl _⟩
   exact D _ _ _ _ _ h p
  intro s k reads ae s' h p C
  unfold gO at h
  split at h
  ·
   rename_i he
   cases h;exact⟨.refl _,fun h0=>absurd h0 he,.inl (Nat.le_refl _)⟩
  rename_i he
  split at h
  ·
   split at h
   ·
    cases h;exact⟨.err _ _,fun h0=>by simp at h0,.inl (Nat.le_refl _)⟩
   cases h
   have q:iE s {s with b:={s.b with ah:=eu s.b.ah (bL s.b k (aH aa k ae).value reads)},bf:=s.bf++[k]}:=⟨fun _=>rfl,fun _ h=>Hw rfl h⟩;have hu:az ({s.b with ah:=eu s.b.ah (bL s.b k (aH aa k ae).value reads)}:cz) k=true:=je (r:=bL s.b k (aH aa k ae).value reads) rfl;refine⟨q,fun h0=>⟨h0,hu⟩,.inr ⟨hu,?_⟩⟩
   have:=q.gA (aa:=aa)
   grind
  rename_i hd
  obtain⟨t,ht,h⟩:=Option.bind_eq_some_iff.1 h;have hn:=C.next hR (by simpa using hd);obtain⟨h1,O,B⟩:=S _ _ _ ht p hn.2;have Y:=(gd.1 _ _ _ ht p hn.2).1
  have h7:iE t s'∧(s'.e=0→t.e=0∧az s'.b k=true)∧(s'.bf.length+gA aa s'≤t.bf.length+gA aa t∨(az s'.b k=true∧s'.bf.length+gA aa s'≤t.bf.length+gA aa t+1)):=by
   split at h
   ·
    exact F _ _ _ _ _ h Y (by simpa using hn.1)
   exact F _ _ _ _ _ h Y C
  obtain⟨Q,y,X⟩:=h7;refine⟨h1.trans Q,fun h0=>⟨(O (y h0).1).1,(y h0).2⟩,?_⟩
  grind
/-! ### more fuel does no harm -/
theorem nq:∀f,(∀s k s',kZ aa val f s k=some s'→kZ aa val (f+1) s k=some s')∧(∀s k n p,cP aa val f s k n=some p→cP aa val (f+1) s k n=some p)∧(∀s k r a s',gO aa val f s k r a=some s'→gO aa val (f+1) s k r a=some s'):=by
 intro f
 induction f with
 | zero=>grind [kZ,cP,gO]
 | succ f o=>
  obtain⟨v,y,z⟩:=o;refine⟨?_,?_,?_⟩
  ·
   intro s k s' h
   unfold kZ at h ⊢
   split at h
   ·
    grind
   rename_i h1;rw [if_neg h1]
   split at h
   ·
    grind
   rename_i i;rw [if_neg i]
   split at h
   ·
    grind
   rename_i j;rw [if_neg j]
   obtain⟨p,B,h⟩:=Option.bind_eq_some_iff.1 h;obtain⟨C,ht,h⟩:=Option.bind_eq_some_iff.1 h
   grind
  ·
   intro s k n p h
   unfold cP at h ⊢
   split at h
   ·
    grind
   rename_i h1;rw [if_neg h1]
   split at h
   ·
    grind
   rename_i i;rw [if_neg i]
   split at h
   ·
    grind
   rename_i j;rw [if_neg j]
   split at h
   ·
    exact h
   rename_i c hc
   split at h
   ·
    rename_i q;rw [if_pos q]
    grind [Option.bind_eq_some_iff]
   grind
  intro s k r a s' h
  unfold gO at h ⊢
  split at h
  ·
   grind
  rename_i h1;rw [if_neg h1]
  split at h
  ·
   grind
  rename_i i;rw [if_neg i]
  obtain⟨t,ht,h⟩:=Option.bind_eq_some_iff.1 h
  grind
theorem oa{f g:Nat}(h:f≤g) {s:ES}{k:Key}{s':ES}(hu:kZ aa val f s k=some s'):kZ aa val g s k=some s':=by
 induction h with
 | refl=>exact hu
 | step _ i=>exact(nq _).1 _ _ _ i
theorem pg{f g:Nat}(h:f≤g) {s:ES}{k:Key}{n:Nat}{p:ES × Bool}(hu:cP aa val f s k n=some p):cP aa val g s k n=some p:=by
 induction h with
 | refl=>exact hu
 | step _ i=>exact(nq _).2.1 _ _ _ _ i
theorem uE{f g:Nat}(h:f≤g) {s:ES}{k:Key}{r:List Key}{a:List ByteArray}{s':ES}(hu:gO aa val f s k r a=some s'):gO aa val g s k r a=some s':=by
 induction h with
 | refl=>exact hu
 | step _ i=>exact(nq _).2.2 _ _ _ _ _ i
/-! ### there is fuel enough -/
theorem Ep(hR:aq aa) {d:Nat}(D:∀s k,Good aa aD s→eA aa k→off aa s≤d→∃f s',kZ aa val f s k=some s') (k:Key) :
  ∀(m:Nat) (s:ES) (n:Nat),gA aa s*200000000+(200000000 - n)≤m→n≤100000000→Good aa aD s→off aa s≤d→∃f p,cP aa val f s k n=some p:=by
 intro m
 induction m using Nat.strongRecOn with
 | _ m B=>
  intro s n hm hn h v
  by_cases h1:s.e≠0
  ·
   exact⟨1,(s,false),by unfold cP;rw [if_pos h1]⟩
  by_cases o:(!(aB s.b.ah k).isSome || (aC s.b.ah k).bp)=true
  ·
   exact⟨1,(s,true),by unfold cP;rw [if_neg h1,if_pos o]⟩
  by_cases r:(aC s.b.ah k).av=s.b.ad
  ·
   exact⟨1,(s,false),by unfold cP;grind⟩
  have F:(aA s.b.ah s.b.ad k).length≤4001:=by grind [ko,Good.len]
  have W:=tT h F
  cases hc:(bB s.b.ah (aA s.b.ah s.b.ad k))[n]? with
  | none=>exact⟨1,_,by unfold cP;rw [if_neg h1,if_neg o,if_neg r,hc]⟩
  | some c=>
   have X:n<(bB s.b.ah (aA s.b.ah s.b.ad k)).length:=(List.getElem?_eq_some_iff.1 hc).1
   by_cases y:eh s c.read=false
   ·
    obtain⟨f,t,ht⟩:=D s c.read h (fO h hc) v;obtain⟨z,Y,_⟩:=(iy (val:=val) hR f).1 _ _ _ ht h (fO h hc);have G:=((cA (val:=val) hR f).1 _ _ _ ht h (fO h hc)).1
    have H:ay c.read=false:=by grind [eh]
    by_cases I:t.e=0
    ·
     obtain⟨i,hi,C,_⟩:=(fO h hc).gH H
     have MG:eh t c.read=true:=by grind
     have AM:gA aa t+1≤gA aa s:=by
      have J:az s.b c.read=false:=by grind [eh]
      have hoc:(s.on c.read && ax c.read)=false:=by grind [eh]
      have O:az t.b c.read=true:=by grind [eh,iE.on]
      have Q:s.on c.read=false:=by
       cases ho:s.on c.read with
       | false=>rfl
       | true=>
        exfalso
        cases f with
        | zero=>simp [kZ] at ht
        | succ f=>
         unfold kZ at ht
         grind
      refine rL (j:=i) (fun j _ q=>?_) hi ?_ ?_
      ·
       simp only [Bool.and_eq_true,Bool.not_eq_true'] at q ⊢;rw [z.on] at q;refine⟨?_,q.2⟩
       cases S:az s.b (aI aa (j:Int)) with
       | false=>rfl
       | true=>rw [z.up _ S] at q;exact absurd q.1 (by simp)
      ·
       rw [← C,J,Q];rfl
      rw [← C,O];rfl
     obtain⟨f2,p,U⟩:=B (gA aa t*200000000+(200000000 - n)) (by omega) t n (Nat.le_refl _) hn G (by rw [z.off];exact v);refine⟨max f f2+1,p,?_⟩
     unfold cP
     rw [if_neg h1,if_neg o,if_neg r,hc]
     simp only
     rw [if_pos y,oa (Nat.le_max_left _ _) ht]
     grind [pg,Nat.le_max_right]
    refine⟨max f 1+1,(t,false),?_⟩
    unfold cP
    rw [if_neg h1,if_neg o,if_neg r,hc]
    simp only
    rw [if_pos y,oa (Nat.le_max_left _ _) ht];refine pg (f:=1) (Nat.le_max_right _ _) ?_
    unfold cP
    rw [if_pos I]
   by_cases V:(aC s.b.ah c.dE).av<aR val s.b c.read
   ·
    exact⟨1,_,by unfold cP;rw [if_neg h1,if_neg o,if_neg r,hc];simp only;rw [if_neg y,if_pos V]⟩
   obtain⟨f2,p,U⟩:=B (gA aa s*200000000+(200000000 - (n+1))) (by omega) s (n+1) (Nat.le_refl _) (by omega) h v;refine⟨f2+1,p,?_⟩
   unfold cP
   grind
theorem JG(hR:aq aa) {d:Nat}(v:∀s k,Good aa aD s→eA aa k→off aa s≤d→∃f s',kZ aa val f s k=some s') (k:Key) :
  ∀(m:Nat) (s:ES) (reads:List Key) (ae:List ByteArray),7 - ae.length≤m→Good aa aD s→gZ aa k ae.length→off aa s≤d→∃f s',gO aa val f s k reads ae=some s':=by
 intro m
 induction m with
 | zero=>intro s r a hm _ i _;have:=i.le hR;omega
 | succ m y=>
  intro s reads ae hm j i p
  by_cases h1:s.e≠0
  ·
   exact⟨1,s,by unfold gO;rw [if_pos h1]⟩
  by_cases h:(aH aa k ae).done=true
  ·
   by_cases q:(!(aB s.b.ah k).isSome && decide (4000≤s.b.ah.length))=true
   ·
    exact⟨1,_,by unfold gO;rw [if_neg h1,if_pos h,if_pos q]⟩
   exact⟨1,_,by unfold gO;rw [if_neg h1,if_pos h,if_neg q]⟩
  have hn:=i.next hR (by simpa using h);obtain⟨f,t,ht⟩:=v s _ j hn.2 p;obtain⟨z,_,_⟩:=(iy (val:=val) hR f).1 _ _ _ ht j hn.2;have B:=((cA (val:=val) hR f).1 _ _ _ ht j hn.2).1
  by_cases o:t.e=0
  ·
   obtain⟨f2,s',C⟩:=y t (reads++[(aH aa k ae).ask]) (ae++[bP val t.b (aH aa k ae).ask]) (by simp;omega) B (by simpa using hn.1) (by rw [z.off];exact p);refine⟨max f f2+1,s',?_⟩
   unfold gO
   rw [if_neg h1,if_neg h,oa (Nat.le_max_left _ _) ht];simp only [Option.bind_some];rw [if_pos o]
   grind [uE,Nat.le_max_right]
  refine⟨max f 1+1,t,?_⟩
  unfold gO
  rw [if_neg h1,if_neg h,oa (Nat.le_max_left _ _) ht];simp only [Option.bind_some];rw [if_neg o];refine uE (f:=1) (Nat.le_max_right _ _) ?_
  unfold gO
  rw [if_pos o]
theorem MH(hR:aq aa):∀(d:Nat) (s:ES) (k:Key),Good aa aD s→eA aa k→off aa s≤d→∃f s',kZ aa val f s k=some s':=by
 intro d
 induction d with
 | zero=>
  intro s k p hk C
  by_cases h1:s.e≠0∨ay k=true
  ·
   exact⟨1,s,by unfold kZ;rw [if_pos h1]⟩
  by_cases h:az s.b k=true
  ·
   exact⟨1,s,by unfold kZ;rw [if_neg h1,if_pos h]⟩
  by_cases o:s.on k=true
  ·
   by_cases q:ax k=true
   ·
    exact⟨1,s,by unfold kZ;grind⟩
   exact⟨1,_,by unfold kZ;rw [if_neg h1,if_neg h,if_pos o,if_neg q]⟩
  exfalso
  obtain⟨i,hi,r,_⟩:=hk.gH (by simp at h1;exact h1.2)
  have:off aa {s with busy:=cM s.busy k (.bool true)}+1≤off aa s:=by
   refine rL (j:=i) (fun j _ D=>?_) hi ?_ ?_
   ·
    grind [nn]
   ·
    rw [← r];simpa using o
   grind [nn]
  omega
 | succ d y=>
  intro s k p hk C
  by_cases h1:s.e≠0∨ay k=true
  ·
   exact⟨1,s,by unfold kZ;rw [if_pos h1]⟩
  by_cases h:az s.b k=true
  ·
   exact⟨1,s,by unfold kZ;rw [if_neg h1,if_pos h]⟩
  by_cases o:s.on k=true
  ·
   by_cases q:ax k=true
   ·
    exact⟨1,s,by unfold kZ;grind⟩
   exact⟨1,_,by unfold kZ;rw [if_neg h1,if_neg h,if_pos o,if_neg q]⟩
  have z:ay k=false:=by simp at h1;exact h1.2
  obtain⟨i,hi,r,_⟩:=hk.gH z
  have H:off aa {s with busy:=cM s.busy k (.bool true)}+1≤off aa s:=by
   refine rL (j:=i) (fun j _ D=>?_) hi ?_ ?_
   ·
    grind [nn]
   ·
    rw [← r];simpa using o
   grind [nn]
  obtain⟨f,⟨s2,b2⟩,v⟩:=Ep (val:=val) hR y k _ {s with busy:=cM s.busy k (.bool true)} 0 (Nat.le_refl _) (by omega) (p.on k) (by omega);have F:=((cA (val:=val) hR f).2.1 _ _ _ _ _ v (p.on k)).1;have G:=((iy (val:=val) hR f).2.1 _ _ _ _ _ v (p.on k)).1
  cases b2 with
  | false=>
   refine⟨f+1,{s2 with busy:=iT s2.busy k},?_⟩
   unfold kZ
   grind
  | true=>
   obtain⟨f2,B,I⟩:=JG (val:=val) hR y k _ s2 [] [] (Nat.le_refl _) F (hk.gH z) (by rw [G.off];omega);refine⟨max f f2+1,{B with busy:=iT B.busy k},?_⟩
   unfold kZ
   rw [if_neg h1,if_neg h,if_neg o,pg (Nat.le_max_left _ _) v];simp only [Option.bind_some,if_true]
   grind [uE,Nat.le_max_right]
end
end Go.Rc

namespace Go.Rc
open Go
noncomputable def dM(aa:List aG) (val:Key→ByteArray) (f:Nat):ES→List Key→Option ES
 | s,[]=>some s
 | s,k::r=>(kZ aa val f s k).bind fun t=>dM aa val f t r
def ES.base(s:ES) (x:cz):cz:=if s.e=0 then s.b else x
noncomputable def ES.list(s:ES):List Key:=if s.e=0 then kl s.bf else []
theorem ph{aa:List aG}{aD:List cB}{val:Key→ByteArray}(hR:aq aa) {f:Nat}:∀{l:List Key}{s s':ES},dM aa val f s l=some s'→Good aa aD s→(∀k∈l,eA aa k)→Good aa aD s'∧Gx s s'
 | [],s,s',h,i,_=>by simp only [dM,Option.some.injEq] at h;subst h;exact⟨i,.refl _⟩
 | k::r,s,s',h,i,hk=>by
  simp only [dM] at h;obtain⟨t,h1,p⟩:=Option.bind_eq_some_iff.1 h;have j:=(cA (val:=val) hR f).1 _ _ _ h1 i (hk k (by simp))
  have o:=ph hR p j.1 fun k q=>hk k (by simp [q])
  exact⟨o.1,j.2.trans o.2⟩
theorem St.V0{κ:Type}{enc:κ→Value}{w0 w:World}{M Z:Nat→Prop}{l:List As}{s m T:Nat}{cs:List Value}{q:List (κ × Value)}(h:St w0 M Z w (As.blk s T cs::As.map enc m q::l)):s≠m:=fun e=>by
 have h1:=(List.pairwise_cons.1 h.rG).1 (As.map enc m q) (by simp) s rfl;exact h1 e
end Go.Rc

namespace Go.Rc
open Go
/-! ### the order of keys -/
theorem xN:∀a b:List UInt8,Lib.compareBytes b a = - Lib.compareBytes a b
 | [],[]=>rfl
 | [],_::_=>rfl
 | _::_,[]=>rfl
 | x::a,y::b=>by
  simp only [Lib.compareBytes]
  by_cases h1:x<y
  ·
   grind
  by_cases h:y<x
  ·
   grind
  rw [if_neg h,if_neg h1,if_neg h1,if_neg h,xN a b]
theorem uF:∀a b c:List UInt8,Lib.compareBytes a b<0→Lib.compareBytes b c<0→Lib.compareBytes a c<0
 | _,[],[],_,h=>by simp [Lib.compareBytes] at h
 | [],[],_::_,h,_=>by simp [Lib.compareBytes] at h
 | _::_,[],_::_,h,_=>by simp [Lib.compareBytes] at h
 | _,_::_,[],_,h=>by simp [Lib.compareBytes] at h
 | [],_::_,_::_,_,_=>by simp [Lib.compareBytes]
 | x::a,y::b,z::c,h1,i=>by
  simp only [Lib.compareBytes] at h1 i ⊢
  by_cases e1:x<y
  ·
   grind
  rw [if_neg e1] at h1
  by_cases e3:y<x
  ·
   rw [if_pos e3] at h1;simp at h1
  rw [if_neg e3] at h1
  by_cases e2:y<z
  ·
   grind
  rw [if_neg e2] at i
  by_cases e4:z<y
  ·
   rw [if_pos e4] at i;simp at i
  rw [if_neg e4] at i;rw [if_neg (by grind),if_neg (by grind)];exact uF a b c h1 i
theorem jf(a b:Key):bD b a = - bD a b:=by
 unfold bD
 by_cases h1:a.kind<b.kind
 ·
  grind
 by_cases h:b.kind<a.kind
 ·
  grind
 rw [if_neg h,if_neg h1,if_neg h1,if_neg h,xN]
theorem im{a b c:Key}(h1:bD a b<0) (h:bD b c<0):bD a c<0:=by
 unfold bD at h1 h ⊢
 by_cases e1:a.kind<b.kind
 ·
  grind
 rw [if_neg e1] at h1
 by_cases e4:b.kind<a.kind
 ·
  rw [if_pos e4] at h1;simp at h1
 rw [if_neg e4] at h1
 by_cases e2:b.kind<c.kind
 ·
  rw [if_pos (by omega)];decide
 rw [if_neg e2] at h
 by_cases e3:c.kind<b.kind
 ·
  rw [if_pos e3] at h;simp at h
 rw [if_neg e3] at h;rw [if_neg (by omega),if_neg (by omega)];exact uF _ _ _ h1 h
def pQ(l:List Rec):Prop:=l.Pairwise fun a b=>bD a.key b.key<0
theorem uG(r:Rec):∀l:List Rec,fe r l true=l.filter fun x=>!decide (bD x.key r.key=0)
 | []=>rfl
 | x::xs=>by
  simp only [fe,Bool.not_true,Bool.and_false,Bool.false_eq_true,if_false,Bool.true_or,List.nil_append,uG r xs,List.filter_cons]
  grind
theorem pQ.put{r:Rec}:∀{l:List Rec},pQ l→pQ (eu l r)
 | [],_=>by simp [pQ,eu,fe]
 | x::xs,h=>by
  obtain⟨h1,j⟩:=List.pairwise_cons.1 h;have p:pQ (eu xs r):=pQ.put j;have o:pQ (xs.filter fun y=>!decide (bD y.key r.key=0)):=List.Pairwise.filter _ j
  show pQ (fe r (x::xs) false)
  simp only [fe,Bool.not_false,Bool.and_true,Bool.false_or]
  by_cases c1:bD x.key r.key<0
  ·
   rw [decide_eq_false (show ¬0≤bD x.key r.key by omega),if_neg (show ¬bD x.key r.key=0 by omega)];simp only [Bool.false_eq_true,if_false,List.nil_append,List.singleton_append];refine List.pairwise_cons.2 ⟨fun y i=>?_,p⟩
   grind [gC]
  rw [decide_eq_true (show 0≤bD x.key r.key by omega),uG];simp only [if_true]
  by_cases c2:bD x.key r.key=0
  ·
   rw [if_pos c2];simp only [List.append_nil,List.singleton_append];refine List.pairwise_cons.2 ⟨fun y i=>?_,o⟩
   grind [l6]
  rw [if_neg c2];simp only [List.singleton_append,List.cons_append]
  have c3:bD r.key x.key<0:=by rw [jf x.key r.key];omega
  refine List.pairwise_cons.2 ⟨fun y i=>?_,List.pairwise_cons.2 ⟨fun y i=>h1 y (List.mem_filter.1 i).1,o⟩⟩
  grind [im]
theorem pQ.nh{l:List Rec}(h:pQ l) (hn:l.length≤4000) (o:∀r∈l,eF r=true):nh l:=by
 refine⟨hn,fun i x j=>⟨o x (List.mem_of_getElem? j),fun hi=>?_⟩⟩;obtain⟨hl,rfl⟩:=List.getElem?_eq_some_iff.1 j;rw [getElem!_pos l (i - 1) (by omega)];exact List.pairwise_iff_getElem.1 h (i - 1) i (by omega) hl (by omega)
/-! ### values are short -/
section
variable {aa:List aG}{aD:List cB}
theorem rO{n:Nat}(h:n≤65535):(itoa (n:Int)).size≤6:=by
 have e:Lib.itoa (n:Int)=Lib.decDigits n:=by unfold Lib.itoa;rw [if_neg (by omega)];rfl
 grind [itoa,Lib.decDigits,ByteArray.size]
theorem Er(hR:aq aa) {i:Nat}(hi:i<aa.length):∃n:Nat,n≤65535∧valOf aa aD (aI aa (i:Int))=itoa (n:Int):=by
 have h1:=fD (aD:=aD) hR hi;rw [gN hR hi (gz _ _ _).2] at h1;have hc:=aq.hb hR _ (List.getElem_mem hi);refine⟨_,n0 (kind:=aa[i].final) (c:=aa[i].c.toNat) (l:=(dX (cy aa (aI aa (i:Int))) (valOf aa aD) (cO aa i)).2.map cG) (by omega) (fun x h=>?_),?_⟩
 ·
  grind [kK]
 grind
theorem JH(hR:aq aa) {i:Nat}(hi:aa.length≤i):tw aa aD i=⟨#[]⟩:=by
 have hk:aI aa (i:Int)=dW:=by unfold aI;rw [if_pos (by omega)]
 unfold tw qj
 rw [if_neg (by rw [lR hi];simp),hk]
 unfold cy
 rw [if_pos (.inl (by unfold number dW;simp))]
theorem Es(hR:aq aa) (hi:∀x∈aD,x.value.size≤1000) (k:Key):(valOf aa aD k).size≤1000:=by
 by_cases hk:ay k=true
 ·
  unfold valOf cellOf
  rw [if_pos hk]
  unfold bw
  cases i:aD.find? fun x=>x.key == k with
  | none=>simp [ByteArray.size]
  | some x=>grind
 have e:valOf aa aD k=tw aa aD (number k).toNat:=by unfold valOf;rw [if_neg hk]
 rw [e]
 rcases Nat.lt_or_ge (number k).toNat aa.length with h | h
 ·
  rw [← gV hR h];obtain⟨n,hn,j⟩:=Er (aD:=aD) hR h
  grind [rO]
 grind [JH,ByteArray.size]
theorem uH(aa:List aG) (aD:List cB) (i:Nat):(cT aa aD i).length=cO aa i:=(gz _ _ _).1
theorem pj(hR:aq aa) {i:Nat}(hi:i<aa.length):∀a∈cT aa aD i,eW aa i a:=by
 have key:∀n,n≤cO aa i→∀a∈(dX (cy aa (aI aa (i:Int))) (valOf aa aD) n).1,eW aa i a:=by
  intro n
  induction n with
  | zero=>intro _ a h;simp [dX] at h
  | succ n j=>grind [dX,ef,gz]
 exact key _ (Nat.le_refl _)
theorem eA.valid{k:Key}(h:eA aa k):fN k=true:=by
 cases h with
 | cell h=>
  rename_i n
  have hc:bX (n:Int)=⟨30,itoa (n:Int)⟩:=by unfold bX;rw [if_neg (by omega)]
  rw [hc]
  unfold fN number
  simp only [];rw [if_pos (by omega)]
  grind [jS]
 | eG h jo=>
  rename_i i
  have h1:=ct h jo;have j:=eH h jo
  unfold fN
  grind
end
section
variable {aa:List aG}{aD:List cB}{s t:ES}{k:Key}
theorem aL{l:List Rec}{r:Rec}(h:aB l k=some r):r∈l∧r.key=k:=by grind [aB]
def nt(aa:List aG) (j:Nat):Nat:=if aF aa j then bF aa j else j
def Lw(aa:List aG) (i b:Nat):Prop:=if aF aa i then bF aa i≤b else i<b
def acK(aa:List aG) (s:ES) (i:Nat):Prop:=∀j:Nat,j<aa.length→s.on (aI aa (j:Int))=true→Lw aa i (nt aa j)
def UT(aa:List aG) (s:ES) (i:Nat):Prop:=∀j:Nat,j<aa.length→s.on (aI aa (j:Int))=true→j=i∨Lw aa i (nt aa j)
theorem GA(hR:aq aa) {i:Nat}(hi:i<aa.length) {ae:List ByteArray}(hn:ae.length<cO aa i) :
  ∃a,cy aa (aI aa (i:Int)) ae=⟨false,⟨#[]⟩,a⟩∧eW aa i a∧∀m:Nat,m<aa.length→a=aI aa (m:Int)→Lw aa m (nt aa i)∧∀b,Lw aa i b→Lw aa m b:=by
 have G:=hR.len;obtain⟨a,h1,h,o⟩:=ef hR hi hn;refine⟨a,h1,h,fun m hm p=>?_⟩;have hb:=gj aa m
 cases hr:aF aa i with
 | false=>
  have H:m<i:=by
   rcases h with⟨n,j,rfl⟩ | ⟨q,j,rfl,_,r,_⟩
   ·
    grind [bd,cj]
   grind [dY]
  unfold Lw nt
  grind
 | true=>
  unfold Lw nt
  rw [hr];simp only [if_true]
  cases I:aF aa m with
  | false=>
   have J:m<bF aa i:=by
    rcases h with⟨n,j,rfl⟩ | ⟨q,j,rfl,_,_,_,r⟩
    ·
     grind [bd,cj]
    grind [dY]
   grind
  | true=>
   obtain⟨x,v,y⟩:=o hr;have z:=List.mem_of_getElem? v
   have B:outside aa x=false:=by grind [jb,bz]
   obtain⟨O,C,D,F⟩:=ik hR hi hr z B
   have:=dY hR F hm (D.symm.trans (y.symm.trans p))
   subst this;have Q:=ki hR (cV.step cV.refl C)
   grind
end
end Go.Rc

namespace Go.Rc
open Go
theorem fq(x:Rec):eF x=true↔(∀a∈x.reads,fN a=true)∧fN x.key=true∧ay x.key=false∧(x.value.size:Int)≤1073741824∧(x.reads.length:Int)≤4000∧0≤x.changed∧x.changed≤x.av∧x.av≤1073741824∧1≤x.cost∧x.cost≤1073741824∧(x.bp=false∨ax x.key=true):=by
 unfold eF gi
 grind
structure xO (s:ES):Prop where
 st:pQ s.b.ah
 v:∀r∈s.b.ah,eF r=true∧r.av≤s.b.ad
 r0:0≤s.b.ad
 r1:s.b.ad≤1073741824
section
variable {aa:List aG}{aD:List cB}{val:Key→ByteArray}{s t:ES}{k:Key}
theorem pQ.map{l:List Rec}(h:pQ l) {f:Rec→Rec}(i:∀r,(f r).key=r.key):pQ (l.map f):=by grind [pQ]
theorem xO.BN(h:xO s) (g:List Key):xO {s with b:=cL s.b g false}:=by
 refine⟨h.st.map fun r=>(cQ _ _ _ r).1,fun r hr=>?_,h.r0,h.r1⟩;obtain⟨q,o,rfl⟩:=List.mem_map.1 hr;obtain⟨h1,p⟩:=h.v q o;have h0:=h.r0;have y:=h.r1
 unfold aY
 by_cases hk:q.key∈g
 ·
  rw [if_pos hk];simp only [Bool.false_eq_true,if_false];rw [fq] at h1 ⊢;obtain⟨a,b,c,d,e,f,g,i,j,k,l⟩:=h1;exact⟨⟨a,b,c,d,e,f,by grind,y,j,k,l⟩,Int.le_refl _⟩
 rw [if_neg hk];exact⟨h1,p⟩
theorem xO.BO(h:xO s) {g:List Key}(hc:∀x∈g,ax x=true):xO {s with b:=cL s.b g true}:=by
 refine⟨h.st.map fun r=>(cQ _ _ _ r).1,fun r hr=>?_,h.r0,h.r1⟩;obtain⟨q,p,rfl⟩:=List.mem_map.1 hr;obtain⟨h1,o⟩:=h.v q p
 unfold aY
 by_cases hk:q.key∈g
 ·
  rw [if_pos hk];simp only [if_true];rw [fq] at h1 ⊢;obtain⟨a,b,c,d,e,f,g,i,j,k,l⟩:=h1;exact⟨⟨a,b,c,d,e,f,g,i,j,k,.inr (hc _ hk)⟩,o⟩
 rw [if_neg hk];exact⟨h1,o⟩
theorem pn{l:List Rec}{rev:Int}(hk:ax k=true):∀x∈aA l rev k,ax x=true:=fun x h=>by
 unfold aA at h
 split at h
 ·
  rw [rJ,List.mem_cons] at h
  rcases h with rfl | h
  ·
   exact hk
  obtain⟨r,hr,rfl⟩:=List.mem_map.1 h
  have:=(List.mem_filter.1 hr).2
  unfold BJ at this
  simp only [Bool.and_eq_true] at this;have i:=(kn.1 this.2.1).gA
  unfold bV at i
  grind
 grind
theorem xO.put(h:xO s) {r:Rec}{bf:List Key}(j:eF r=true) (hr:r.av≤s.b.ad):xO {s with b:={s.b with ah:=eu s.b.ah r},bf:=bf}:=
 ⟨h.st.put,fun q i=>by rcases gC _ _ _ _ i with rfl | i;exact⟨j,hr⟩;exact h.v q i,h.r0,h.r1⟩
theorem Hx(hR:aq aa) {ae:List ByteArray}(h:gZ aa k ae.length) (j:(aH aa k ae).done=true):(aH aa k ae).value.size≤6:=by
 obtain⟨i,hi,rfl,hn⟩:=h;have o:=hR.len;rw [eY hi (by omega)] at j ⊢
 rcases Nat.lt_or_ge ae.length (cO aa i) with p | q
 ·
  grind [ef]
 rw [gN hR hi (by omega)];have hc:=aq.hb hR _ (List.getElem_mem hi);exact rO (n0 (by omega) fun x r=>by grind [kK])
theorem po(hR:aq aa) (h:xO s) {ae:List ByteArray}{reads:List Key}(i:gZ aa k ae.length) (q:(aH aa k ae).done=true) (hl:reads.length=ae.length) (hr:∀a∈reads,eA aa a) :
  eF (bL s.b k (aH aa k ae).value reads)=true:=by
 have B:=i.le hR;have C:=Hx hR i q;have h0:=h.r0;have h1:=h.r1;rw [fq]
 unfold bL
 have y:∀c:Int,(c=if (aB s.b.ah k).isSome && decide ((aC s.b.ah k).value=(aH aa k ae).value) then (aC s.b.ah k).changed else s.b.ad)→0≤c∧c≤s.b.ad:=fun c hc=>by
  split at hc
  ·
   rename_i j
   simp only [Bool.and_eq_true] at j;obtain⟨r,z⟩:=Option.isSome_iff_exists.1 j.1;have hm:=(aL z).1;obtain⟨o,p⟩:=h.v r hm
   grind [fq,aC]
  omega
 obtain⟨o,p⟩:=y _ rfl;exact⟨fun a hm=>(hr a hm).valid,(i.IF hR).valid,(i.not hR).2,by grind,by grind,o,p,h1,by grind,by grind,.inl rfl⟩
def UpO(aa:List aG) (val:Key→ByteArray) (aD:List cB) (f:Nat):Prop:=∀s k s',kZ aa val f s k=some s'→Good aa aD s→xO s→eA aa k→xO s'
def ChO(aa:List aG) (val:Key→ByteArray) (aD:List cB) (f:Nat):Prop:=∀s k n s' b,cP aa val f s k n=some (s',b)→Good aa aD s→xO s→xO s'
def RuO(aa:List aG) (val:Key→ByteArray) (aD:List cB) (f:Nat):Prop:=∀s k reads ae s',gO aa val f s k reads ae=some s'→Good aa aD s→xO s→gZ aa k ae.length→reads.length=ae.length→(∀a∈reads,eA aa a)→xO s'
theorem Hy(hR:aq aa):∀f,UpO aa val aD f∧ChO aa val aD f∧RuO aa val aD f:=by
 intro f
 induction f with
 | zero=>exact⟨fun s k s' h=>by simp [kZ] at h,fun s k n s' b h=>by simp [cP] at h,fun s k r a s' h=>by simp [gO] at h⟩
 | succ f G=>
  obtain⟨D,z,B⟩:=G;have gd:=cA (val:=val) (aD:=aD) hR f;refine⟨?_,?_,?_⟩
  ·
   intro s k s' h j i hk
   unfold kZ at h
   split at h
   ·
    cases h;exact i
   rename_i he
   split at h
   ·
    cases h;exact i
   split at h
   ·
    split at h <;> cases h
    ·
     exact i
    exact⟨i.st,i.v,i.r0,i.r1⟩
   obtain⟨p,F,h⟩:=Option.bind_eq_some_iff.1 h;obtain⟨t,ht,h⟩:=Option.bind_eq_some_iff.1 h
   cases h
   have h1:=z _ _ _ p.1 p.2 (by rw [F]) (j.on k) ⟨i.st,i.v,i.r0,i.r1⟩;have q:=(gd.2.1 _ _ _ p.1 p.2 (by rw [F]) (j.on k)).1
   have y:xO t:=by
    split at ht
    ·
     exact B _ _ _ _ _ ht q h1 (hk.gH (by simp at he;exact he.2)) rfl (fun a o=>by cases o)
    cases ht;exact h1
   exact⟨y.st,y.v,y.r0,y.r1⟩
  ·
   intro s k n s' b h j i
   unfold cP at h
   split at h
   ·
    cases h;exact i
   split at h
   ·
    cases h;exact i
   split at h
   ·
    cases h;exact i
   split at h
   ·
    cases h;exact i.BN _
   rename_i c hc
   split at h
   ·
    obtain⟨t,ht,h⟩:=Option.bind_eq_some_iff.1 h;have h1:=D _ _ _ ht j i (fO j hc);exact z _ _ _ _ _ h (gd.1 _ _ _ ht j (fO j hc)).1 h1
   split at h
   ·
    split at h
    ·
     rename_i H
     cases h
     exact i.BO (pn H)
    cases h;exact i
   exact z _ _ _ _ _ h j i
  intro s k reads ae s' h j i o hl hr
  unfold gO at h
  split at h
  ·
   cases h;exact i
  split at h
  ·
   rename_i C
   split at h
   ·
    cases h;exact⟨i.st,i.v,i.r0,i.r1⟩
   cases h
   exact i.put (po hR i o C hl hr) (Int.le_refl _)
  rename_i C
  obtain⟨t,ht,h⟩:=Option.bind_eq_some_iff.1 h;have hn:=o.next hR (by simpa using C);have h1:=D _ _ _ ht j i hn.2;have q:=(gd.1 _ _ _ ht j hn.2).1
  split at h
  ·
   exact B _ _ _ _ _ h q h1 (by simpa using hn.1) (by simp [hl]) (fun a o=>by grind)
  exact B _ _ _ _ _ h q h1 o hl hr
theorem BP(hR:aq aa) {f:Nat}:∀{l:List Key}{s s':ES},dM aa val f s l=some s'→Good aa aD s→xO s→(∀k∈l,eA aa k)→xO s'
 | [],s,s',h,_,i,_=>by grind [dM]
 | k::r,s,s',h,j,i,hk=>by
  simp only [dM] at h;obtain⟨t,h1,o⟩:=Option.bind_eq_some_iff.1 h
  exact BP hR o ((cA (val:=val) hR f).1 _ _ _ h1 j (hk k (by simp))).1 ((Hy hR f).1 _ _ _ h1 j i (hk k (by simp))) fun k p=>hk k (by simp [p])
end
end Go.Rc

namespace Go.Rc
open Go
theorem Et{α:Type}{R:α→α→Prop}(ht:∀a b c,R a b→R b c→R a c) {l:List α}(h:∀(i:Nat) (hi:i+1<l.length),R (l[i]'(by omega)) l[i+1]):l.Pairwise R:=by
 refine List.pairwise_iff_getElem.2 fun i j hi o p=>?_;obtain⟨d,rfl⟩:∃d,j=i+1+d:=⟨j - (i+1),by omega⟩
 induction d with
 | zero=>exact h i o
 | succ d q=>grind
def tx(l:List cB):Prop:=l.Pairwise fun a b=>bD a.key b.key<0
def MI(rev:Int) (x:cB):Prop:=fN x.key=true∧ay x.key=true∧(x.value.size:Int)≤1073741824∧0≤x.changed∧x.changed≤rev
theorem Eu{rev:Int}{l:List cB}:yU rev l↔tx l∧∀x∈l,MI rev x:=by
 constructor
 ·
  intro h
  have h1:∀(i:Nat) (hi:i<l.length),MI rev l[i]∧(0<i→bD (l[i - 1]!).key l[i].key<0):=fun i hi=>by
   have j:=h i _ (ak hi)
   unfold ij at j
   simp only [getElem!_pos l i hi,Bool.or_eq_false_iff,Bool.not_eq_false',Bool.and_eq_false_iff,decide_eq_false_iff_not] at j;obtain⟨a,b,c,d,e,f⟩:=j;exact⟨⟨a,b,by omega,by omega,by omega⟩,fun h0=>by rcases c with c | c <;> omega⟩
  refine⟨Et (R:=fun a b:cB=>bD a.key b.key<0) (fun a b c h k=>im h k) fun i hi=>?_,fun x p=>?_⟩
  ·
   grind
  grind [List.mem_iff_getElem]
 rintro⟨h1,j⟩ i y o;obtain⟨hi,rfl⟩:=List.getElem?_eq_some_iff.1 o;obtain⟨a,b,c,d,e⟩:=j _ (List.getElem_mem hi)
 unfold ij
 simp only [getElem!_pos l i hi,Bool.or_eq_false_iff,Bool.not_eq_false',Bool.and_eq_false_iff,decide_eq_false_iff_not];refine⟨a,b,?_,by omega,by omega,by omega⟩
 by_cases h0:0<i
 ·
  right
  rw [getElem!_pos l (i - 1) (by omega)]
  have:=List.pairwise_iff_getElem.1 h1 (i - 1) i (by omega) hi (by omega)
  omega
 left
 omega
def fP(n:cB):List cB→Bool→List cB
 | [],put=>if put then [] else [n]
 | x::xs,put=>(if decide (0≤bD x.key n.key) && !put then [n] else [])++(if bD x.key n.key=0 then [] else [x])++fP n xs (put || decide (0≤bD x.key n.key))
theorem uI(n:cB):∀(l:List cB) (b:Bool) (x:cB),x∈fP n l b→x=n∨x∈l:=by
 intro l
 induction l with
 | nil=>grind [fP]
 | cons y h i=>grind [fP]
theorem rP(n:cB):∀l:List cB,fP n l true=l.filter fun x=>!decide (bD x.key n.key=0)
 | []=>rfl
 | x::xs=>by
  simp only [fP,Bool.not_true,Bool.and_false,Bool.false_eq_true,if_false,Bool.true_or,List.nil_append,rP n xs,List.filter_cons]
  grind
theorem nv(n:cB):∀(l:List cB) (b:Bool),(fP n l b).length≤l.length+1
 | [],b=>by cases b <;> simp [fP]
 | x::xs,b=>by
  by_cases h:(decide (0≤bD x.key n.key) && !b)=true
  ·
   have hb:(b || decide (0≤bD x.key n.key))=true:=by simp at h;simp [h.1]
   simp only [fP,List.length_append,List.length_cons];rw [if_pos h,hb,rP]
   grind
  have i:=nv n xs (b || decide (0≤bD x.key n.key));simp only [fP,List.length_append,List.length_cons]
  grind
theorem tx.put{n:cB}:∀{l:List cB},tx l→tx (fP n l false)
 | [],_=>by simp [tx,fP]
 | x::xs,h=>by
  obtain⟨h1,j⟩:=List.pairwise_cons.1 h;have p:tx (fP n xs false):=tx.put j;have o:tx (xs.filter fun y=>!decide (bD y.key n.key=0)):=List.Pairwise.filter _ j
  show tx (fP n (x::xs) false)
  simp only [fP,Bool.not_false,Bool.and_true,Bool.false_or]
  by_cases c1:bD x.key n.key<0
  ·
   rw [decide_eq_false (show ¬0≤bD x.key n.key by omega),if_neg (show ¬bD x.key n.key=0 by omega)];simp only [Bool.false_eq_true,if_false,List.nil_append,List.singleton_append];refine List.pairwise_cons.2 ⟨fun y i=>?_,p⟩
   grind [uI]
  rw [decide_eq_true (show 0≤bD x.key n.key by omega),rP];simp only [if_true]
  by_cases c2:bD x.key n.key=0
  ·
   rw [if_pos c2];simp only [List.append_nil,List.singleton_append];refine List.pairwise_cons.2 ⟨fun y i=>?_,o⟩
   grind [l6]
  rw [if_neg c2];simp only [List.singleton_append,List.cons_append]
  have c3:bD n.key x.key<0:=by rw [jf x.key n.key];omega
  refine List.pairwise_cons.2 ⟨fun y i=>?_,List.pairwise_cons.2 ⟨fun y i=>h1 y (List.mem_filter.1 i).1,o⟩⟩
  grind [im]
end Go.Rc

namespace Go.Rc
open Go
def MJ(r:aG):Prop:=r.ring=false∧r.asks=[]∧r.final=1∧0≤r.c∧r.c≤99
theorem MJ.key{aa:List aG}{i:Nat}(hi:i<aa.length) (jo:i≤99) (h:MJ aa[i]):aI aa (i:Int)=⟨31,itoa i⟩:=by
 unfold aI
 rw [if_neg (by omega)]
 simp [bU hi,h.1]
end Go.Rc
namespace Go.Rc
open Go
def Q0(i:Nat) (v:ByteArray):Rec:=⟨⟨31,itoa i⟩,v,[],0,0,1,false⟩
def uJ{α:Type}(l:List α) (p:α→Bool) (j:Int):Prop:=(∃i:Nat,∃x,l[i]?=some x∧p x=true∧(∀j x,j<i→l[j]?=some x→p x=false)∧j=i)∨((∀x∈l,p x=false)∧j = -1)
end Go.Rc
namespace Go.Rc
open Go
structure WD where
 (ar a1 a2:Option Addr) (r cr n1 c1 n2 c2 m v:Nat)
end Go.Rc

namespace Go.Rc
open Go
def wH(a b:Int):Int:=if a<b then -1 else if b<a then 1 else 0
def Q1(l:List Int):Int:=(l.find? fun x=>decide (x≠0)).getD 0
theorem Q3{l:List Int}{i:Nat}(hi:i<l.length) (o:∀j x,j<i→l[j]?=some x→x=0) (h:l[i]≠0):Q1 l=l[i]:=by grind [Q1,jv]
theorem MK{l:List Int}(h:∀x∈l,x=0):Q1 l=0:=by grind [Q1,List.find?_eq_none]
theorem ML{a b:Key}:Q1 [wH a.kind b.kind,Lib.compareBytes a.text.data.toList b.text.data.toList]=bD a b:=by
 unfold Q1 wH bD
 grind
theorem BQ{α:Type}{R:α→List Value→Prop}{x y:α}{r s:List Value}(h1:R x r) (h:R y s):∀(i:Nat) (z:α) (t:List Value),[x,y][i]?=some z→[r,s][i]?=some t→R z t:=fun i z t j ht=>by grind
theorem eA.shape{aa:List aG}{k:Key}(h:eA aa k):∃i:Nat,i≤99∧k.text=itoa i∧(30≤k.kind∧k.kind≤32):=by
 cases h with
 | cell h=>rename_i n;exact⟨n,h,by unfold bX;rw [if_neg (by omega)],by unfold bX;rw [if_neg (by omega)];simp⟩
 | eG h jo=>rename_i i;exact⟨i,jo,by unfold aI;rw [if_neg (by omega)],by grind [eH]⟩
theorem eA.cY{aa:List aG}{k:Key}(h:eA aa k):cY k:=by
 obtain⟨_,_,_,h1⟩:=h.shape;exact .inr (by omega)
theorem ql{aa:List aG}{k:Key}(h:eA aa k) (hc:ax k=true):k.kind=32:=by
 cases h with
 | cell h=>grind [kh]
 | eG h jo=>grind [bz,eH]
theorem uJ.any{α:Type}{l:List α}{p:α→Bool}{j:Int}(h:uJ l p j):decide (0≤j)=l.any p:=by
 rcases h with⟨i,x,h1,o,_,rfl⟩ | ⟨h1,rfl⟩
 ·
  grind
 grind
def JI(aa:List aG) (x:Rec):Prop:=eA aa x.key∧ay x.key=false∧(∀a∈x.reads,eA aa a)∧eF x=true
def uK(aa:List aG) (x:cz):Prop:=0≤x.ad∧x.ad≤1073741824∧(tx x.ab∧∀y∈x.ab,MI x.ad y)∧(∀y∈x.ab,∃i:Nat,i≤99∧y.key=⟨30,itoa i⟩)∧x.ab.length≤64∧(∀r∈x.ah,JI aa r)∧pQ x.ah∧x.ah.length≤4000∧∀r∈x.ah,r.av≤x.ad
end Go.Rc

namespace Go.Rc
open Go
section
variable {l l':List aG}
def cw(l l':List aG):Prop:=l.map (·.ring)=l'.map (·.ring)
theorem cw.len(h:cw l l'):l.length=l'.length:=by simpa using congrArg List.length h
theorem cw.rg(h:cw l l') (i:Nat):aF l i=aF l' i:=by
 have j:=congrArg (fun x=>x[i]?) h
 grind [aF]
theorem cw.lo(h:cw l l'):∀k,bF l k=bF l' k
 | 0=>rfl
 | k+1=>by unfold bF;rw [h.rg k,h.lo k]
theorem mx:∀{l l':List aG},cw l l'→(l.takeWhile (·.ring)).length=(l'.takeWhile (·.ring)).length
 | [],[],_=>rfl
 | [],_::_,h=>by simp [cw] at h
 | _::_,[],h=>by simp [cw] at h
 | x::r,y::s,h=>by
  simp only [cw,List.map_cons,List.cons.injEq] at h;have i:=mx (l:=r) (l':=s) h.2
  grind [List.takeWhile_cons]
theorem cw.hi(h:cw l l') (m:Nat):dL l m=dL l' m:=by grind [dL,mx,cw,List.map_drop]
theorem cw.block(h:cw l l') (n:Int):block l n=block l' n:=by
 unfold Go.Rc.block
 rw [h.len,h.rg,h.lo,h.hi]
theorem cw.may(h:cw l l') (i:Nat) (c:Bool) (n:Int):gy l i c n=gy l' i c n:=by grind [gy,fA,rg,block]
theorem cw.ask(h:cw l l') (i:Nat) (g:Bool) (k:Nat) (x:Ask):fm l i g k x=fm l' i g k x:=by
 unfold fm
 rw [h.may,h.may]
theorem cw.eG(h:cw l l') (i:Nat) (r:aG):lT l i r↔lT l' i r:=by
 unfold lT
 simp only [h.ask]
theorem cw.set{i:Nat}(hi:i<l.length) {r:aG}(hr:r.ring=aF l i):cw (l.set i r) l:=by
 unfold cw
 rw [List.map_set,hr,bU hi];refine List.ext_getElem? fun j=>?_
 grind
def k7(l:List aG) (i:Nat):Prop:=l.length≤8∧∀(j:Nat) (r:aG),l[j]?=some r→j<i→lT l j r
theorem k7.start(h:l.length≤8):k7 l 0:=⟨h,fun _ _ _ h=>by omega⟩
theorem k7.set{i:Nat}(h:k7 l i) (hi:i<l.length) {r:aG}(hr:r.ring=aF l i) (q:lT l i r):k7 (l.set i r) (i+1):=by
 have p:=cw.set hi hr;refine⟨by rw [List.length_set];exact h.1,fun j x o v=>?_⟩;rw [p.eG];rw [List.getElem?_set] at o
 split at o
 ·
  grind
 exact h.2 j x o (by omega)
theorem k7.ok(h:k7 l l.length):aq l:=⟨by have:=h.1;omega,fun i r hr=>h.2 i r hr (List.getElem?_eq_some_iff.1 hr).1⟩
theorem Q4{i k:Nat}{g:Bool}{x:Ask}{most:Int}(hm:most=if x.cell then 4 else fA l i) (h0:0≤x.n) (h1:x.n<most) (h:x.pick=true→g=false∧k≠0∧0≤x.D4∧x.D4<most) (he:x.pick=false→x.D4=0):fm l i g k x=true:=by grind [gy,fm]
end
end Go.Rc

namespace Go.Rc
open Go
def As.hI(E d:Nat):As where
 fp x:=x=d
 ok Z w:=Ea Z w E d
 lt h x hx:=by subst hx;exact h.lt
 mono hZ h:=by
  obtain⟨l,a,n,c,t,h1,h2,h3⟩:=h;exact⟨l,a,n,c,t,h1,SR.mono h2 (fun b hb _=>hZ b hb) (fun _ _ h=>h),h3⟩
 st hs hc h:=by
  obtain⟨l,a,n,c,t,h1,h2,h3⟩:=h;exact⟨l,a,n,c,t,(As.blk d E _).st (Z:=fun _=>False) hs (fun x hx=>hc x (hx.imp id False.elim)) h1,SR.st hs (fun x hx=>hc x (.inr hx)) (fun _ _ h=>h) h2,h3⟩
theorem As.gd{E d:Nat}{Z:Nat→Prop}{w:World}(h:(As.hI E d).ok Z w):Ea Z w E d:=h
def RR.bW:RR Change:=RR.flat Change.cells
def begun(g:Bool):aG:=⟨g,[],0,0⟩
theorem Ow.flat{α:Type}{f:α→List Value}{b T k n:Nat}{Z:Nat→Prop}{w:World}{xs:List α}{l:List Value}(h:bR w b T l) (hl:l=(xs.map f).flatten) (hk:∀x∈xs,(f x).length=k) (h1:∀u∈l,u.oneCell'=true) (hn:n=xs.length) (hm:xs.length≤140737488355328) :
  Ow (RR.flat f) T k Z w (some ⟨b,0,none⟩) n n xs:=by
 subst hn hl
 have hlen:∀(j:List α),(∀x∈j,(f x).length=k)→(j.map f).flatten.length=j.length*k:=by
  intro j
  induction j with
  | nil=>simp
  | cons y j p=>grind
 refine⟨rfl,xs.map f,by simp,by simpa using hk,by simpa using OL.blk (k:=k) h (Nat.zero_le _) (m:=xs.length) (hlen xs hk) h1 hm,fun i x r o hr=>?_⟩;rw [List.getElem?_map,o] at hr
 simp at hr
 exact hr.symm
def As.acL{ι:Type}(b T:Nat) (F:ι→List Value):As where
 fp x:=x=b
 ok _ w:=∃i,bR w b T (F i)
 lt h x hx:=by obtain⟨i,h⟩:=h;subst hx;exact h.lt
 mono _ h:=h
 st hs hc h:=by obtain⟨i,h⟩:=h;exact⟨i,(As.blk b T _).st (Z:=fun _=>False) hs (fun x hx=>hc x (hx.imp id False.elim)) h⟩
theorem Ow.ring{E n c i b:Nat}{Z:Nat→Prop}{w:World}{a:Option Addr}{l:List aG}(h:Ow RR.eG E 4 Z w a n c l) (p:a=some ⟨b,0,none⟩) (hle:l.length≤140737488355328) (hi:i<l.length):w.rangeAt b (0+i*4) [.bool l[i].ring]:=by
 obtain⟨b',r,h1,_,q,y⟩:=Ow.at h hle (ak hi);rw [p] at h1;simp only [Option.some.injEq,Addr.mk.injEq,and_true] at h1;subst h1;obtain⟨z,B,C,rfl,_⟩:=q;intro j v o
 cases j with
 | zero=>exact y 0 v o
 | succ j=>simp at o
theorem y5(l:List aG) (m:Nat) (hm:m≤l.length):dL l m≤l.length:=by grind [dL,List.takeWhile_sublist]
theorem wI{l:List aG}{i:Nat}(hi:i<l.length):0≤fA l i∧fA l i≤l.length:=by
 have h1:=y5 l (i+1) (by omega)
 have hb:block l (i:Int)=if aF l i then ((bF l i:Int),(dL l (i+1):Int)) else ((i:Int),(i:Int)+1):=by
  unfold block;grind
 grind [fA]
theorem Hz{l:List aG}{i:Nat}{g:Bool}{xs:List Ask}{x:Ask}(h:∀(k:Nat) y,xs[k]?=some y→fm l i g k y=true) (j:fm l i g xs.length x=true):∀(k:Nat) y,(xs++[x])[k]?=some y→fm l i g k y=true:=fun k y o=>by grind
end Go.Rc

namespace Go.Rc
open Go
theorem pQ.ne{l:List Rec}(h:pQ l) {i:Nat}(hi:i<l.length):∀y∈l.take i,y.key≠l[i].key:=fun y o e=>by
 obtain⟨j,p,rfl⟩:=List.mem_iff_getElem.1 o
 have q:j<i:=by simp at p;omega
 have h1:bD l[j].key l[i].key<0:=List.pairwise_iff_getElem.1 h j i (by omega) hi q
 grind [jf]
end Go.Rc

namespace Go.Rc
open Go
section
variable {κ:Type}{enc:κ→Value}
def LQ(enc:κ→Value) (w:World) (b m:Nat) (l left:List (κ × Value)) (cur:Option (κ × Value)):Prop:=
 ∃es clock since seen,w.heap[m]?=some (.map es clock)∧(es.toList.map (fun e=>(e.key,e.val))=l.map (fun p=>(enc p.1,p.2))∧(l.map (·.1)).Nodup∧(∀e∈es.toList,e.born<clock)∧(es.toList.map (·.born)).Nodup)∧
  w.heap[b]?=some (.mapIter (some m) since seen clock)∧b≠m∧since≤clock∧(∀e∈es.toList,e.born<since)∧
  (leftOf es seen).toList.map (fun e=>(e.key,e.val))=left.map (fun p=>(enc p.1,p.2))∧
  ∀p,cur=some p→∃e∈es.toList,seen.back?=some e.born∧e.key=enc p.1∧e.val=p.2
variable {w w':World}{b m:Nat}{l left:List (κ × Value)}{cur:Option (κ × Value)}
theorem LQ.lt(h:LQ enc w b m l left cur):b<w.heap.size∧m<w.heap.size:=by
 obtain⟨es,clock,since,seen,h1,_,i,_⟩:=h;exact⟨(Array.getElem?_eq_some_iff.1 i).1,(Array.getElem?_eq_some_iff.1 h1).1⟩
def As.Q5(enc:κ→Value) (b m:Nat) (l left:List (κ × Value)) (cur:Option (κ × Value)):As where
 fp x:=x=b∨x=m
 ok _ w:=LQ enc w b m l left cur
 lt h x hx:=by rcases hx with rfl | rfl;exact h.lt.1;exact h.lt.2
 mono _ h:=h
 st hs hc h:=by
  have hl:=h.lt;obtain⟨es,clock,since,seen,h1,h2,h3,h4⟩:=h;exact⟨es,clock,since,seen,by rw [hc m (.inl (.inr rfl)) hl.2];exact h1,h2,by rw [hc b (.inl (.inl rfl)) hl.1];exact h3,h4⟩
theorem As.MM{Z:Nat→Prop}(h:(As.Q5 enc b m l left cur).ok Z w):LQ enc w b m l left cur:=h
def xP(enc:κ→Value):Option (κ × Value)→Array Value
 | none=>#[.bool false]
 | some p=>#[.bool true,enc p.1,p.2]
theorem GB(r:Option (κ × Value)):(xP enc r)[0]?=some (.bool r.isSome):=by cases r <;> rfl
theorem my:∀(L:List MapEntry) (j:Nat) (e:MapEntry),(L.map (·.born)).Nodup→L[j]?=some e→L.filter (fun x=>!(x.born == e.born))=L.eraseIdx j
 | [],_,_,_,h=>by simp at h
 | x::r,0,e,hn,h=>by
  simp at h
  subst h;simp only [List.map_cons,List.nodup_cons] at hn;rw [List.filter_cons];simp only [beq_self_eq_true,Bool.not_true,Bool.false_eq_true,if_false,List.eraseIdx_zero,List.tail_cons];refine List.filter_eq_self.2 fun y i=>?_
  have:y.born≠x.born:=fun e=>hn.1 (e ▸ List.mem_map.2 ⟨y,i,rfl⟩)
  simpa using this
 | x::r,j+1,e,hn,h=>by
  simp only [List.map_cons,List.nodup_cons] at hn;simp only [List.getElem?_cons_succ] at h;have o:x.born≠e.born:=fun p=>hn.1 (p ▸ List.mem_map.2 ⟨e,List.mem_of_getElem? h,rfl⟩);rw [List.filter_cons,if_pos (by simpa using o),my r j e hn.2 h,List.eraseIdx_cons_succ]
theorem BR(es:Array MapEntry) (seen:Array Nat) (b:Nat):(leftOf es (seen.push b)).toList=(leftOf es seen).toList.filter fun x=>!(x.born == b):=by
 unfold leftOf
 rw [Array.toList_filter,Array.toList_filter,List.filter_filter]
 congr 1
 funext x
 rw [Array.contains_push,Bool.not_or,Bool.and_comm]
theorem map_eraseIdx{α β:Type}(f:α→β):∀(l:List α) (j:Nat),(l.eraseIdx j).map f=(l.map f).eraseIdx j
 | [],_=>by simp
 | _::_,0=>by simp
 | x::r,j+1=>by simp [map_eraseIdx f r j]
variable {P:Program}{kv:KV}{n:Nat}{K:KV→World→Prop}{d:Tmp}{ty:TypeId}{pos:String}{af:Array Edge}{g:Option (Nat × Bool)}{T kt e:TypeId}{x:Operand}
theorem OX.range(hT:P.underlying T=some (.map kt e)) (hm:KM enc w m l) (j:ev kv x=some (.map (some m))) (o:Nat.blt d n=true)
  (h:∀b w',aU [] w w'→w.heap.size≤b→LQ enc w' b m l l none→K ((d,.pointer (some ⟨b,0,none⟩))::kv) w'):OX P ⟨some d,.range T x,ty,pos,af,g⟩ n kv w K:=by
 obtain⟨es,clock,h1,i⟩:=hm;have q:m<w.heap.size:=(Array.getElem?_eq_some_iff.1 h1).1;refine⟨rfl,o,by simp [known,opers,j],?_⟩
 have hr:(execOp (jE kv) ⟨some d,.range T x,ty,pos,af,g⟩).run P w=.ok (.value (.pointer (some ⟨w.heap.size,0,none⟩))) (w.alloc (.mapIter (some m) clock #[] clock)):=by
  simp only [execOp,aM j,Sem.run_bind,run_range_map w T kt e m es clock hT h1,Result.andThen_ok];rfl
 rw [hr];refine h _ _ (j4 _ _) (Nat.le_refl _) ⟨es,clock,clock,#[],by rw [heap_alloc_old w _ (h:=q)];exact h1,i,heap_alloc_new _ _,by omega,Nat.le_refl _,i.2.2.1,?_,fun p r=>by cases r⟩
 have:leftOf es #[]=es:=by unfold leftOf;simp
 rw [this];exact i.1
theorem HA(hm:LQ enc w b m l left cur):∃(r:Option (κ × Value)) (C:List (κ × Value)) (w':World),(Instr.next (.pointer (some ⟨b,0,none⟩)) false ty).run P w=.ok (.tuple (xP enc r)) w'∧aU [b] w w'∧
  (match r with | none=>left=[]∧C=[] | some p=>∃j,left[j]?=some p∧C=left.eraseIdx j)∧LQ enc w' b m l C r:=by
 obtain⟨es,clock,since,seen,h1,D,i,F,G,o,z,h8⟩:=hm;have U:b<w.heap.size:=(Array.getElem?_eq_some_iff.1 i).1
 have H:∀y∈(leftOf es seen).toList,y∈es.toList:=fun y h=>by
  unfold leftOf at h
  rw [Array.toList_filter] at h;exact(List.mem_filter.1 h).1
 have O:=next_test_false seen es since clock o G
 have e1:(leftOf es seen).filter (fun x=>decide (x.born<since))=leftOf es seen:=Array.filter_eq_self.2 fun y h=>by
  have:=o y (H y (by simpa using h))
  simpa using this
 have e2:(leftOf es seen).filter (fun x=>decide (x.born≥since))=#[]:=by
  rw [Array.filter_eq_empty_iff];intro y h
  have:=o y (H y (by simpa using h))
  simp
  omega
 have hlen:(leftOf es seen).size=left.length:=by simpa using congrArg List.length z
 by_cases h0:(leftOf es seen).size=0
 ·
  have V:leftOf es seen=#[]:=Array.eq_empty_of_size_eq_zero h0
  have W:left=[]:=by cases left with
   | nil=>rfl
   | cons a r=>rw [h0] at hlen;simp at hlen
  subst W;refine⟨none,[],w,?_,aU.refl _ _,⟨rfl,rfl⟩,es,clock,since,seen,h1,D,i,F,G,o,z,fun p B=>by cases B⟩;simp only [Instr.next,getObj,Sem.run_bind,Sem.run,i,h1,Result.andThen,O,Bool.false_eq_true,if_false];rw [show(es.filter fun e=>!seen.contains e.born)=leftOf es seen from rfl,V]
  simp [choose,Sem.run,Question.forced,xP]
 have X:(leftOf es seen).isEmpty=false:=by simp [Array.isEmpty,h0]
 have Y:∃(j:Nat) (w1:World),j<(leftOf es seen).size∧w1.heap=w.heap∧aU [] w w1∧(choose (Question.mapNext (leftOf es seen).size)).run P w=.ok j w1:=by
  by_cases Q:(leftOf es seen).size≤1
  ·
   exact⟨0,w,by omega,rfl,aU.refl _ _,by simp [choose,Sem.run,Question.forced,Q]⟩
  exact⟨_,w.drew,Nat.mod_lt _ (by omega),rfl,⟨rfl,rfl,rfl,Nat.le_refl _,Nat.le_succ _,fun _ _ _=>rfl⟩,by
   simp only [choose,Sem.run,Question.forced,decide_eq_true_eq,Q,if_false,Question.cut]
   rfl⟩
 obtain⟨j,w1,hj,I,hc1,jt⟩:=Y;obtain⟨y,h⟩:∃y,(leftOf es seen)[j]?=some y:=⟨_,Array.getElem?_eq_getElem hj⟩
 have J:(leftOf es seen).toList[j]?=some y:=by rw [Array.getElem?_toList];exact h
 have hye:y∈es.toList:=H y (List.mem_of_getElem? J);obtain⟨p,B⟩:∃p,left[j]?=some p:=⟨_,List.getElem?_eq_getElem (by omega)⟩
 have v:(y.key,y.val)=(enc p.1,p.2):=by
  have:=congrArg (fun x=>x[j]?) z
  simp only [List.getElem?_map,J,B,Option.map_some,Option.some.injEq] at this;exact this
 simp only [Prod.mk.injEq] at v
 have hbn:((leftOf es seen).toList.map (·.born)).Nodup:=by
  unfold leftOf
  rw [Array.toList_filter];exact(List.filter_sublist.map _).nodup D.2.2.2
 refine⟨some p,left.eraseIdx j,{w1 with heap:=w1.heap.setIfInBounds b (.mapIter (some m) since (seen.push y.born) clock)},?_,?_,⟨j,B,rfl⟩,es,clock,since,seen.push y.born,?_,D,?_,F,G,o,?_,?_⟩
 ·
  simp only [Instr.next,getObj,Sem.run_bind,Sem.run,i,h1,Result.andThen,O,Bool.false_eq_true,if_false];rw [show(es.filter fun e=>!seen.contains e.born)=leftOf es seen from rfl,e1,e2];simp only [X,Bool.false_eq_true,if_false,Array.empty_append,Array.append_empty,Array.size_map,jt,Array.getElem?_map,h,Option.map_some]
  have JJ:(setObj b (.mapIter (some m) since (seen.push y.born) clock)).run P w1=.ok () {w1 with heap:=w1.heap.setIfInBounds b (.mapIter (some m) since (seen.push y.born) clock)}:=by
   simp only [setObj,Sem.run];rw [I,i]
  simp only [Sem.run_bind,JJ,Result.andThen,xP,v.1,v.2]
  try rfl
 ·
  have:=iL w1 b (.mapIter (some m) since (seen.push y.born) clock)
  exact aU.trans (aU.mono hc1 (by simp)) this
 ·
  show(w1.heap.setIfInBounds b _)[m]?=_
  rw [I,Array.getElem?_setIfInBounds_ne F];exact h1
 ·
  show(w1.heap.setIfInBounds b _)[b]?=_
  rw [I,Array.getElem?_setIfInBounds_self]
  simp [U]
 ·
  rw [BR,my _ j y hbn J,map_eraseIdx,map_eraseIdx,z]
 intro q S;simp only [Option.some.injEq] at S;subst S;exact⟨y,hye,Array.back?_push,v.1,v.2⟩
theorem OX.next(hm:LQ enc w b m l left cur) (o:ev kv x=some (.pointer (some ⟨b,0,none⟩))) (q:Nat.blt d n=true)
  (h:∀r i w',aU [b] w w'→(match r with | none=>left=[]∧i=[] | some p=>∃j,left[j]?=some p∧i=left.eraseIdx j)→LQ enc w' b m l i r→K ((d,.tuple (xP enc r))::kv) w'):OX P ⟨some d,.next x false,ty,pos,af,g⟩ n kv w K:=by
 obtain⟨r,i,w',h1,v,y,z⟩:=HA (P:=P) (ty:=ty) hm;refine⟨rfl,q,by simp [known,opers,o],?_⟩
 have hr:(execOp (jE kv) ⟨some d,.next x false,ty,pos,af,g⟩).run P w=.ok (.value (.tuple (xP enc r))) w':=by
  simp only [execOp,aM o,Sem.run_bind,h1,Result.andThen_ok];rfl
 rw [hr];exact h _ _ _ v y z
theorem PV.entry{p:κ × Value}(hm:LQ enc w b m l left (some p)) (h:ev kv x=some (.pointer (some ⟨b,0,none⟩))):PV P (.entry x) ty kv w (.tuple #[enc p.1,p.2]):=by
 obtain⟨es,clock,since,seen,h1,i,j,_,_,_,_,o⟩:=hm;obtain⟨y,q,hb,hk,r⟩:=o p rfl;refine⟨rfl,by simp [known,opers,h],fun _ _ _ _=>?_⟩
 have v:es.find? (·.born == y.born)=some y:=by rw [← Array.find?_toList];exact find_born y es.toList i.2.2.2 q
 have:(Instr.entry (.pointer (some ⟨b,0,none⟩))).run P w=.ok (.tuple #[enc p.1,p.2]) w:=by
  simp only [Instr.entry,getObj,Sem.run_bind,Sem.run,j,h1,hb,Result.andThen,bne_self_eq_false,Bool.false_eq_true,if_false,v,hk,r]
  rfl
 simp only [execOp,aM h,Sem.run_bind,this,Result.andThen_ok]
 rfl
end
end Go.Rc

namespace Go.Rc
open Go
theorem mz{α:Type}:∀{l:List α}{j:Nat}{p q:α},l[j]?=some p→q∈l→q=p∨q∈l.eraseIdx j
 | [],_,_,_,_,h=>by cases h
 | x::r,0,p,q,h,i=>by grind
 | x::r,j+1,p,q,h,i=>by
  rcases List.mem_cons.1 i with rfl | i
  ·
   exact .inr (by simp)
  rcases mz (l:=r) (by simpa using h) i with h1 | h1
  ·
   exact .inl h1
  exact .inr (by simp [h1])
section
variable {aa:List aG}{aD:List cB}
theorem mK.bu(hR:aq aa) {i0:Nat}{L:List Nat}{u:Nat→Nat}{am:List (Key × Value)}(h:mK aa L u am) (hn:(am.map (·.1)).Nodup) (hr:dw aa aD i0 L u) (r:∀j∈L,u j=rv aa aD j) :
  ∀p∈am,p.2=.string (valOf aa aD p.1):=fun p q=>by
 have o:bE am p.1=some p.2:=(ug hn).2 q
 by_cases hk:∃j∈L,p.1=aI aa (j:Int)
 ·
  obtain⟨j,i,e⟩:=hk;obtain⟨v,y⟩:=hr.ring j i;rw [e,h.1 j i] at o
  grind [gV,iu]
 rw [h.2 p.1 fun j i e=>hk ⟨j,i,e⟩] at o
 cases o
theorem mK.first{i0:Nat}{L:List Nat}{u:Nat→Nat}{am:List (Key × Value)}(h:mK aa L u am) (hn:(am.map (·.1)).Nodup) (hr:dw aa aD i0 L u):∃p∈am,p.1=aI aa (i0:Int):=
 ⟨(_,_),(ug hn).1 (h.1 i0 hr.first),rfl⟩
theorem JK{am left ml:List (Key × Value)}{j:Nat}{p:Key × Value}(i:∀q∈am,q∈left∨bE ml q.1=some q.2) (he:∀q∈am,q.2=.string (valOf aa aD q.1)) (o:left[j]?=some p) :
  ∀q∈am,q∈left.eraseIdx j∨bE (cM ml p.1 (.string (valOf aa aD p.1))) q.1=some q.2:=fun q r=>by
 rw [ee]
 by_cases e:p.1=q.1
 ·
  grind
 rw [if_neg e]
 rcases i q r with h | h
 ·
  rcases mz o h with h1 | h1
  ·
   subst h1;exact absurd rfl e
  exact .inl h1
 exact .inr h
end
end Go.Rc

namespace Go.Rc
open Go
def jg(rev:Int) (l:List cB):Prop:=tx l∧(∀y∈l,MI rev y)∧∀y∈l,(∃i:Nat,i≤9∧y.key=⟨30,itoa i⟩)∧y.value.size≤1000
theorem jg.nil(rev:Int):jg rev []:=⟨.nil,by simp,by simp⟩
theorem jg.mono{r s:Int}{l:List cB}(h:jg r l) (j:r≤s):jg s l:=⟨h.1,fun y i=>by obtain⟨a,b,c,d,e⟩:=h.2.1 y i;exact⟨a,b,c,d,by omega⟩,h.2.2⟩
theorem Change.small.key{c:Change}(h:c.small):∃i:Nat,i≤9∧c.key=⟨30,itoa i⟩:=by
 obtain⟨⟨n,h0,j,hk⟩,_⟩:=h;refine⟨n.toNat,by omega,?_⟩;rw [hk]
 unfold bX
 grind
theorem Change.small.ok{c:Change}(h:c.small):fN c.key=true∧ay c.key=true:=by
 obtain⟨⟨n,h0,i,hk⟩,_⟩:=h;obtain⟨m,rfl⟩:∃m:Nat,n=(m:Int):=⟨n.toNat,by omega⟩;rw [hk];exact⟨eA.valid (aa:=[]) (.cell (by omega)),bd (by omega)⟩
theorem jg.put{rev:Int}{l:List cB}{c:Change}(h:jg rev l) (hc:c.small) (h0:0≤rev):jg rev (fP ⟨c.key,c.value,rev⟩ l false):=by
 refine⟨tx.put h.1,fun y j=>?_,fun y j=>?_⟩
 ·
  rcases uI _ _ _ _ j with rfl | j
  ·
   have:=hc.2
   exact⟨hc.ok.1,hc.ok.2,by grind,h0,Int.le_refl _⟩
  exact h.2.1 y j
 rcases uI _ _ _ _ j with rfl | j
 ·
  obtain⟨i,hi,hk⟩:=hc.key;exact⟨⟨i,by omega,hk⟩,Nat.le_trans hc.2 (by decide)⟩
 exact h.2.2 y j
theorem xQ{α:Type} [BEq α] [LawfulBEq α]:∀{l U:List α},l.Nodup→(∀x∈l,x∈U)→l.length≤U.length
 | [],_,_,_=>Nat.zero_le _
 | x::r,U,hn,h=>by
  have i:=h x (by simp);rw [List.nodup_cons] at hn
  have h1:r.length≤(U.erase x).length:=xQ hn.2 fun y j=>by grind
  grind
theorem jg.len{rev:Int}{l:List cB}(h:jg rev l):l.length≤10:=by
 have hn:(l.map fun y=>y.key).Nodup:=by
  unfold List.Nodup
  rw [List.pairwise_map]
  exact h.1.imp fun {a b} h e=>by grind [jf]
 have:=xQ (U:=(List.range 10).map fun i:Nat=>(⟨30,itoa i⟩:Key)) hn fun k hk=>by
  obtain⟨y,j,rfl⟩:=List.mem_map.1 hk;obtain⟨i,hi,he⟩:=(h.2.2 y j).1
  grind
 simpa using this
theorem jg.k99{rev:Int}{l:List cB}(h:jg rev l):∀y∈l,∃i:Nat,i≤99∧y.key=⟨30,itoa i⟩:=fun y j=>by
 obtain⟨i,hi,he⟩:=(h.2.2 y j).1;exact⟨i,by omega,he⟩
theorem BU{n:cB}{k:Key}(h:n.key≠k):∀(l:List cB) (b:Bool),(fP n l b).find? (fun x=>x.key == k)=l.find? fun x=>x.key == k
 | [],b=>by grind [fP]
 | x::xs,b=>by
  have hn:(n.key == k)=false:=by simpa using h
  unfold fP
  rw [List.find?_append,List.find?_append,BU h xs]
  have h1:(if (decide (0≤bD x.key n.key) && !b)=true then [n] else []).find? (fun x=>x.key == k)=none:=by grind
  rw [h1,Option.none_or]
  by_cases e:bD x.key n.key=0
  ·
   rw [if_pos e]
   grind [l6]
  grind
theorem ob{n:cB}{k:Key}(h:n.key≠k) (l:List cB):bw (fP n l false) k=bw l k:=by
 unfold bw
 rw [BU h]
theorem MN{n:cB}{l:List cB}{q:Nat}{b:Bool}(i:q<l.length) {acc r:List cB}(h:acc++fP n (l.drop q) b=r):acc++(if decide (0≤bD l[q].key n.key) && !b then [n] else [])++(if bD l[q].key n.key=0 then [] else [l[q]])++fP n (l.drop (q+1)) (b || decide (0≤bD l[q].key n.key))=r:=by grind [List.drop_eq_getElem_cons,fP]
theorem MO{n:cB}{l m acc:List cB}{b:Bool}(h:acc++fP n m b=fP n l false):acc.length≤l.length+1:=by
 have h1:=congrArg List.length h
 grind [nv]
end Go.Rc

namespace Go.Rc
open Go
section
variable {aa:List aG}{aD:List cB}{rev:Int}(hR:aq aa)
include hR
end
end Go.Rc

namespace Go.Rc
open Go
def Q6(L:List As) (Z:Nat→Prop) (w:World):Prop:=(List.Pairwise (fun(A B:As)=>∀x,A.fp x→¬B.fp x) L)∧∀A∈L,A.ok Z w
def As.many(L:List As):As where
 fp x:=∃A∈L,A.fp x
 ok:=Q6 L
 lt h x hx:=by obtain⟨A,hA,hx⟩:=hx;exact A.lt (h.2 A hA) x hx
 mono hZ h:=⟨h.1,fun A hA=>A.mono hZ (h.2 A hA)⟩
 st hs hc h:=⟨h.1,fun A hA=>A.st hs (fun x hx=>hc x (hx.imp (fun hx=>⟨A,hA,hx⟩) id)) (h.2 A hA)⟩
section
variable {w0 w:World}{M Z:Nat→Prop}{A:As}{L l:List As}
theorem St.O4(h:St w0 M Z w l):St w0 M Z w (As.many []::l):=by
 refine⟨h.bW,h.jG,?_,?_,.cons ?_ h.rG,?_⟩
 ·
  intro B i x j
  rcases List.mem_cons.1 i with rfl | i
  ·
   obtain⟨A,o,_⟩:=j;cases o
  exact h.lV B i x j
 ·
  intro B i x j
  rcases List.mem_cons.1 i with rfl | i
  ·
   obtain⟨A,o,_⟩:=j;cases o
  exact h.mO B i x j
 ·
  intro B _ x j;obtain⟨A,o,_⟩:=j;cases o
 intro B i
 rcases List.mem_cons.1 i with rfl | i
 ·
  exact⟨.nil,fun A o=>by cases o⟩
 exact h.ok B i
theorem St.Ew(h:St w0 M Z w (A::As.many L::l)):St w0 M Z w (As.many (A::L)::l):=by
 obtain⟨d1,d2⟩:=List.pairwise_cons.1 h.rG;obtain⟨d3,d4⟩:=List.pairwise_cons.1 d2;have hm:(As.many L).ok Z w:=h.ok _ (by simp);refine⟨h.bW,h.jG,?_,?_,.cons ?_ d4,?_⟩
 ·
  intro B o x i
  rcases List.mem_cons.1 o with rfl | o
  ·
   obtain⟨C,j,i⟩:=i
   rcases List.mem_cons.1 j with rfl | j
   ·
    exact h.lV C (by simp) x i
   exact h.lV (As.many L) (by simp) x ⟨C,j,i⟩
  exact h.lV B (by simp [o]) x i
 ·
  intro B o x i
  rcases List.mem_cons.1 o with rfl | o
  ·
   obtain⟨C,j,i⟩:=i
   rcases List.mem_cons.1 j with rfl | j
   ·
    exact h.mO C (by simp) x i
   exact h.mO (As.many L) (by simp) x ⟨C,j,i⟩
  exact h.mO B (by simp [o]) x i
 ·
  intro B o x i;obtain⟨C,j,i⟩:=i
  rcases List.mem_cons.1 j with rfl | j
  ·
   exact d1 B (by simp [o]) x i
  exact d3 B o x ⟨C,j,i⟩
 intro B o
 rcases List.mem_cons.1 o with rfl | o
 ·
  refine⟨.cons (fun C j x i p=>d1 (As.many L) (by simp) x i ⟨C,j,p⟩) hm.1,fun C j=>?_⟩
  rcases List.mem_cons.1 j with rfl | j
  ·
   exact h.ok C (by simp)
  exact hm.2 C j
 exact h.ok B (by simp [o])
theorem St.y7(h:St w0 M Z w (As.many (A::L)::l)):St w0 M Z w (A::As.many L::l):=by
 obtain⟨d1,d2⟩:=List.pairwise_cons.1 h.rG;have hm:(As.many (A::L)).ok Z w:=h.ok _ (by simp);obtain⟨d3,d4⟩:=List.pairwise_cons.1 hm.1;refine⟨h.bW,h.jG,?_,?_,.cons ?_ (.cons ?_ d2),?_⟩
 ·
  intro B i x j
  rcases List.mem_cons.1 i with rfl | i
  ·
   exact h.lV _ M0 x ⟨B,.head _,j⟩
  rcases List.mem_cons.1 i with rfl | i
  ·
   obtain⟨C,o,j⟩:=j;exact h.lV _ M0 x ⟨C,.tail _ o,j⟩
  exact h.lV B (.tail _ i) x j
 ·
  intro B i x j
  rcases List.mem_cons.1 i with rfl | i
  ·
   exact h.mO _ M0 x ⟨B,.head _,j⟩
  rcases List.mem_cons.1 i with rfl | i
  ·
   obtain⟨C,o,j⟩:=j;exact h.mO _ M0 x ⟨C,.tail _ o,j⟩
  exact h.mO B (.tail _ i) x j
 ·
  intro B i x j p
  rcases List.mem_cons.1 i with rfl | i
  ·
   obtain⟨C,o,p⟩:=p;exact d3 C o x j p
  exact d1 B i x ⟨A,.head _,j⟩ p
 ·
  intro B i x j;obtain⟨C,o,j⟩:=j;exact d1 B i x ⟨C,.tail _ o,j⟩
 intro B i
 rcases List.mem_cons.1 i with rfl | i
 ·
  exact hm.2 B M0
 rcases List.mem_cons.1 i with rfl | i
 ·
  exact⟨d4,fun C o=>hm.2 C (.tail _ o)⟩
 exact h.ok B (.tail _ i)
theorem St.V2{L':List As}(o:L.Perm L') (h:St w0 M Z w (As.many L::l)):St w0 M Z w (As.many L'::l):=by
 obtain⟨d1,d2⟩:=List.pairwise_cons.1 h.rG;have hm:(As.many L).ok Z w:=h.ok _ (by simp);have p:∀x,(As.many L').fp x→(As.many L).fp x:=fun x ⟨C,q,j⟩=>⟨C,o.mem_iff.2 q,j⟩;refine⟨h.bW,h.jG,?_,?_,.cons (fun B i x j=>d1 B i x (p x j)) d2,?_⟩
 ·
  intro B i x j
  rcases List.mem_cons.1 i with rfl | i
  ·
   exact h.lV _ M0 x (p x j)
  exact h.lV B (.tail _ i) x j
 ·
  intro B i x j
  rcases List.mem_cons.1 i with rfl | i
  ·
   exact h.mO _ M0 x (p x j)
  exact h.mO B (.tail _ i) x j
 intro B i
 rcases List.mem_cons.1 i with rfl | i
 ·
  exact⟨hm.1.perm o (fun h x j r=>h x r j),fun C q=>hm.2 C (o.mem_iff.2 q)⟩
 exact h.ok B (.tail _ i)
end
structure RE where
 key:Key
 a:Option Addr
 n:Nat
 c:Nat
 reads:List Key
def RE.as(EK:Nat) (e:RE):As:=As.os RR.key EK 2 e.a e.n e.c e.reads
end Go.Rc

namespace Go.Rc
open Go
section
variable {aa:List aG}{aD:List cB}{val:Key→ByteArray}
theorem uL{f g:Nat}(h:f≤g):∀{l:List Key}{s s':ES},dM aa val f s l=some s'→dM aa val g s l=some s'
 | [],s,s',hu=>hu
 | k::r,s,s',hu=>by
  simp only [dM] at hu ⊢;obtain⟨t,h1,i⟩:=Option.bind_eq_some_iff.1 hu;rw [oa h h1];exact uL h i
theorem uM(hR:aq aa):∀(l:List Key) (s:ES),Good aa aD s→(∀k∈l,eA aa k)→∃f s',dM aa val f s l=some s'
 | [],s,_,_=>⟨0,s,rfl⟩
 | k::r,s,h,hk=>by
  obtain⟨f,t,h1⟩:=MH (val:=val) hR _ s k h (hk k (by simp)) (Nat.le_refl _);have i:=(cA (val:=val) hR f).1 _ _ _ h1 h (hk k (by simp))
  obtain⟨g,s',o⟩:=uM hR r t i.1 fun k j=>hk k (by simp [j])
  refine⟨max f g,s',?_⟩
  grind [dM,oa,uL,Nat.le_max_right]
theorem xR(hR:aq aa) {f:Nat}:∀{l:List Key}{s s':ES},dM aa val f s l=some s'→Good aa aD s→(∀k∈l,eA aa k)→s'.bf.length+gA aa s'≤s.bf.length+gA aa s
 | [],s,s',h,_,_=>by simp only [dM,Option.some.injEq] at h;subst h;exact Nat.le_refl _
 | k::r,s,s',h,i,hk=>by
  simp only [dM] at h;obtain⟨t,h1,j⟩:=Option.bind_eq_some_iff.1 h;have o:=(cA (val:=val) hR f).1 _ _ _ h1 i (hk k (by simp));have p:=(iy (val:=val) hR f).1 _ _ _ h1 i (hk k (by simp))
  have q:=xR hR j o.1 fun k v=>hk k (by simp [v])
  exact Nat.le_trans q p.2.2
end
theorem xS{aa:List aG}(hR:aq aa) {i:Nat}(hi:i<aa.length):gD aa (aI aa (i:Int))=true:=by
 have h:=hR.len
 unfold gD
 rw [eA.valid (aa:=aa) (.eG hi (by omega)),ct hi (by omega)]
 simp
theorem Q7:hV ⟨0,[],[]⟩:=⟨fun i y h=>by simp at h,fun i r h=>by simp at h,by decide,by decide,by decide,⟨by decide,fun i x h=>by simp at h⟩⟩
theorem jg.hV{rev:Int}{aD:List cB}(h:jg rev aD) (h0:0≤rev) (h1:rev≤1073741824) (j:aD.length≤64):hV ⟨rev,aD,[]⟩:=
 ⟨Eu.2 ⟨h.1,h.2.1⟩,fun i r h=>by simp at h,h0,h1,j,⟨Nat.zero_le _,fun i x h=>by simp at h⟩⟩
end Go.Rc

namespace Go.Rc
open Go
def xT(x:Rec):Int:=16+x.key.text.size+x.value.size+8*x.reads.length
def kq(l:List Rec):Int:=(l.map xT).sum
def HB(x:Rec):Prop:=x.key.text.size≤1000∧x.value.size≤1073741824∧x.reads.length≤4000
theorem HB.size{x:Rec}(h:HB x):0≤xT x∧xT x≤1100000000:=by
 unfold xT
 obtain⟨a,b,c⟩:=h
 omega
theorem BV{l:List Rec}{i:Nat}(hi:i<l.length):kq (l.take (i+1))=kq (l.take i)+xT l[i]:=by grind [kq,List.take_succ_eq_append_getElem]
theorem xU:∀{l:List Rec},(∀x∈l,HB x)→0≤kq l∧kq l≤1100000000*l.length
 | [],_=>by simp [kq]
 | x::r,h=>by
  have h1:=(h x (by simp)).size
  have j:=xU (l:=r) fun y i=>h y (by simp [i])
  grind [kq]
theorem BW{c s:Int}(hc:0≤c∧c≤1073741824) (h:0≤s∧s≤1100000000):-9223372036854775808≤c*s∧c*s≤9223372036854775807:=by
 have h1:=Int.mul_nonneg hc.1 h.1;have i:=Int.mul_le_mul hc.2 h.2 h.1 (by decide:(0:Int)≤1073741824)
 omega
theorem JL{α:Type}{out m:List α}{x:α}(p:Nat) (h:out.Perm m):(([]++out.take p)++[x]++out.drop p).Perm (m++[x]):=by
 have h1:(out.take p++[x]++out.drop p).Perm (out++[x]):=by grind [List.perm_append_comm,List.take_append_drop]
 rw [List.nil_append];exact h1.trans (h.append_right _)
theorem xV(l:List Rec) (k:Key):(fo l k).Sublist l:=List.filter_sublist
def As.rgo(c:Prop) (b o:Nat) (r:List Value):As where
 fp _:=False
 ok Z w:=c→(As.rg b o r).ok Z w
 lt _ _ hx:=hx.elim
 mono hZ h:=fun h0=>(As.rg b o r).mono hZ (h h0)
 st hs hc h:=fun h0=>(As.rg b o r).st hs hc (h h0)
theorem As.gro{c:Prop}{b o:Nat}{r:List Value}{Z:Nat→Prop}{w:World}(hc:c) (h:(As.rgo c b o r).ok Z w):w.rangeAt b o r:=(h hc).2.2
theorem Rd.opt{α:Type}{R:RR α}{k n c:Nat}{Z:Nat→Prop}{w:World}{a:Option Addr}{xs:List α}(h:Rd R k Z w a n c xs) (v:∀b,Z b→b<w.heap.size) (p:Nat):∃b o r,(∀i:p<xs.length,a=some ⟨b,o,none⟩∧r.length=k∧R.r Z w xs[p] r)∧(As.rgo (p<xs.length) b (o+p*k) r).ok Z w:=by
 by_cases i:p<xs.length
 ·
  obtain⟨b,o,r,h1,y,z,B,q⟩:=Rd.at h i;exact⟨b,o,r,fun _=>⟨h1,y,z⟩,fun _=>⟨q,v b q,B⟩⟩
 exact⟨0,0,[],fun j=>absurd j i,fun j=>absurd j i⟩
theorem bq.one(x:bq) (a1:Option Addr) (n1 c1:Nat) (a2:Option Addr) (n2 c2:Nat):∀u∈x.row a1 n1 c1 a2 n2 c2,u.oneCell'=true:=by simp [bq.row,Value.oneCell']
end Go.Rc

namespace Go.Rc
open Go
structure qm where
 aa:List aG
 base:cz
 goals:List Key
 stack:List bq
 bf:List Key
structure HC where
 u:Option Addr
 nu:Nat
 cu:Nat
 i:Option Addr
 ni:Nat
 ci:Nat
 r:Option Addr
 nr:Nat
 cr:Nat
 g:Option Addr
 ng:Nat
 cg:Nat
 f:Option Addr
 nf:Nat
 cf:Nat
 p:Option Addr
 np:Nat
 cp:Nat
def qm.row(t:qm) (A:HC):List Value:=[.slice A.u A.nu A.cu,.int .i64 t.base.ad,.slice A.i A.ni A.ci,.slice A.r A.nr A.cr,.slice A.g A.ng A.cg,.slice A.f A.nf A.cf,.slice A.p A.np A.cp]
structure qm.In (t:qm) (A:HC) (Z:Nat→Prop) (w:World):Prop where
 u:Rd RR.eG 4 Z w A.u A.nu A.cu t.aa
 i:Rd RR.aD 4 Z w A.i A.ni A.ci t.base.ab
 r:Rd RR.ew 8 Z w A.r A.nr A.cr t.base.ah
 g:Rd RR.key 2 Z w A.g A.ng A.cg t.goals
 f:Rd RR.mJ 6 Z w A.f A.nf A.cf t.stack
 p:Rd RR.key 2 Z w A.p A.np A.cp t.bf
structure qm.In5 (t:qm) (A:HC) (Z:Nat→Prop) (w:World):Prop where
 u:Rd RR.eG 4 Z w A.u A.nu A.cu t.aa
 i:Rd RR.aD 4 Z w A.i A.ni A.ci t.base.ab
 r:Rd RR.ew 8 Z w A.r A.nr A.cr t.base.ah
 g:Rd RR.key 2 Z w A.g A.ng A.cg t.goals
 f:Rd RR.mJ 6 Z w A.f A.nf A.cf t.stack
structure qm.Sz (t:qm):Prop where
 u:t.aa.length≤1000000
 a:∀x∈t.aa,x.asks.length≤1000
 i:t.base.ab.length≤1000000
 r:t.base.ah.length≤1000000
 f:t.stack.length≤1000000
 g:t.goals.length≤1000000
 p:t.bf.length≤1000000
end Go.Rc

namespace Go.Rc
open Go
structure eC where
 a:Option Addr
 n:Nat
 c:Nat
 a2:Option Addr
 n2:Nat
 c2:Nat
def bq.ot(x:bq × eC):List Value:=x.1.row x.2.a x.2.n x.2.c x.2.a2 x.2.n2 x.2.c2
def RR.iq:RR (bq × eC):=RR.flat bq.ot
theorem uN{α:Type}{l:List α}{a:α}(h:l.getLast?=some a):l.dropLast++[a]=l:=by
 rcases List.eq_nil_or_concat l with rfl | ⟨m,b,rfl⟩
 ·
  cases h
 simp at h
 subst h
 simp
def dx(L:List (bq × eC)):FZ:=
 ⟨fun Z w=>∀y∈L,Rd RR.key 2 Z w y.2.a y.2.n y.2.c y.1.reads∧Rd RR.str 1 Z w y.2.a2 y.2.n2 y.2.c2 y.1.ae,fun hZ h y hy=>⟨(h y hy).1.mono hZ,(h y hy).2.mono hZ⟩,fun h1 h2 h y hy=>⟨(h y hy).1.st h1 h2,(h y hy).2.st h1 h2⟩⟩
theorem dx.last{L:List (bq × eC)}{Z:Nat→Prop}{w:World}{a a2:Option Addr}{n c n2 c2:Nat}{pl:List Key}{i:List ByteArray}(h:(dx L.dropLast).p Z w) (hl:L=[]∨∃f,L.getLast?=some (f,⟨a,n,c,a2,n2,c2⟩)∧pl=f.reads∧i=f.ae) (hk:Rd RR.key 2 Z w a n c pl) (j:Rd RR.str 1 Z w a2 n2 c2 i):(dx L).p Z w:=fun y hm=>by
 rcases hl with rfl | ⟨f,h1,rfl,rfl⟩
 ·
  cases hm
 have e:=uN h1;rw [← e] at hm
 rcases List.mem_append.1 hm with hm | hm
 ·
  exact h y hm
 grind
theorem dx.nil(Z:Nat→Prop) (w:World):(dx ([]:List (bq × eC)).dropLast).p Z w:=fun y h=>by cases h
theorem dx.mJ{L:List (bq × eC)}{E n c:Nat}{a:Option Addr}{Z:Nat→Prop}{w:World}(h:Ow RR.iq E 6 Z w a n c L) (q:(dx L).p Z w) (v:∀y∈L,y.1.reads.length≤4000∧y.1.ae.length≤4000):Ow RR.mJ E 6 Z w a n c (L.map Prod.fst):=by
 obtain⟨hn,rows,hl,hk,h1,z⟩:=h;refine⟨by rw [hn,List.length_map],rows,by rw [hl,List.length_map],hk,h1,fun i x r j B=>?_⟩;rw [List.getElem?_map] at j;obtain⟨y,o,rfl⟩:=Option.map_eq_some_iff.1 j;have hm:=List.mem_of_getElem? o;have hr:r=bq.ot y:=z i y r o B;obtain⟨C,D⟩:=v y hm;obtain⟨F,G⟩:=q y hm;exact⟨_,_,_,_,_,_,hr,F,G,C,D⟩
end Go.Rc

namespace Go.Rc
open Go
structure BK (aa:List aG) (aD:List cB) (rev:Int) (b:cz):Prop where
 fQ:Good aa aD ⟨b,[],[],0⟩
 tz:xO ⟨b,[],[],0⟩
 rv:b.ad=rev
 xW:yU rev aD
 pq:aD.length≤64
section
variable {aa:List aG}{aD:List cB}{rev:Int}{b:cz}
theorem BK.hV(h:BK aa aD rev b):hV b:=
 ⟨by rw [h.rv,show b.ab=aD from h.fQ.aD];exact h.xW,fun i r hr=>(h.tz.v r (List.mem_of_getElem? hr)).2,h.tz.r0,h.tz.r1,by rw [show b.ab=aD from h.fQ.aD];exact h.pq,h.tz.st.nh h.fQ.len fun r hr=>(h.tz.v r hr).1⟩
theorem BK.BN(h:BK aa aD rev b) (g:List Key):BK aa aD rev (cL b g false):=⟨h.fQ.mark g false,h.tz.BN g,h.rv,h.xW,h.pq⟩
theorem BK.BO(h:BK aa aD rev b) {g:List Key}(hc:∀x∈g,ax x=true):BK aa aD rev (cL b g true):=⟨h.fQ.mark g true,h.tz.BO hc,h.rv,h.xW,h.pq⟩
theorem BK.put(h:BK aa aD rev b) {r:Rec}(hk:eA aa r.key) (hr:r.reads.length≤4000∧∀a∈r.reads,eA aa a) (i:(!(aB b.ah r.key).isSome && decide (4000≤b.ah.length))=false) (j:eF r=true) (o:r.av≤b.ad):BK aa aD rev {b with ah:=eu b.ah r}:=
 ⟨h.fQ.put (bf:=[]) hk hr i,h.tz.put (bf:=[]) j o,h.rv,h.xW,h.pq⟩
theorem BK.sub(h:BK aa aD rev b) {rs:List Rec}(i:rs.Sublist b.ah):BK aa aD rev {b with ah:=rs}:=
 ⟨⟨h.fQ.aD,Nat.le_trans i.length_le h.fQ.len,fun r hr=>h.fQ.key r (i.subset hr),fun r hr=>h.fQ.AQ r (i.subset hr),.nil,fun k=>.inl rfl⟩,⟨h.tz.st.sublist i,fun r hr=>h.tz.v r (i.subset hr),h.tz.r0,h.tz.r1⟩,h.rv,h.xW,h.pq⟩
theorem BK.small(h:BK aa aD rev b):∀r∈b.ah,HB r∧0≤r.cost∧r.cost≤1073741824:=fun r hr=>by
 obtain⟨i,hi,ht,_⟩:=(h.fQ.key r hr).shape;have h1:=(fq _).1 (h.tz.v r hr).1;obtain⟨_,_,_,o,hl,_,_,_,p,j,_⟩:=h1;have q:=rO (n:=i) (by omega);refine⟨⟨by rw [ht];omega,by omega,by omega⟩,by omega,j⟩
end
structure ft (aa:List aG) (f:bq):Prop where
 key:eA aa f.key
 aD:ay f.key=false
 AQ:∀a∈f.reads,eA aa a
 len:f.reads.length=f.ae.length
 gH:gZ aa f.key f.ae.length
 at0:0≤f.at_
theorem ft.new{aa:List aG}{k:Key}(hk:eA aa k) (hi:ay k=false):ft aa ⟨k,false,0,[],[]⟩:=⟨hk,hi,fun a h=>(by cases h),rfl,hk.gH hi,Int.le_refl _⟩
structure TK (aa:List aG) (aD:List cB) (rev:Int) (t:qm):Prop where
 GC:t.aa=aa
 base:BK aa aD rev t.base
 goals:∀k∈t.goals,eA aa k
 stack:∀f∈t.stack,ft aa f
 bf:∀k∈t.bf,eA aa k
theorem PV.cast{P:Program}{op:Op}{ty:TypeId}{kv:KV}{w:World}{v v':Value}(h:PV P op ty kv w v) (e:v=v'):PV P op ty kv w v':=e ▸ h
theorem bG{α:Type}(L:List α) (x:α):(L++[x])[L.length]?=some x:=by simp
theorem dx.snoc{L:List (bq × eC)}{f:bq}{A:eC}{Z:Nat→Prop}{w:World}(h:(dx L).p Z w) (hk:Rd RR.key 2 Z w A.a A.n A.c f.reads) (i:Rd RR.str 1 Z w A.a2 A.n2 A.c2 f.ae):(dx (L++[(f,A)])).p Z w:=fun y hm=>by
 rcases List.mem_append.1 hm with hm | hm
 ·
  exact h y hm
 grind
theorem dx.whole{L:List (bq × eC)}{f:bq}{A:eC}{l:List bq}{E n c:Nat}{a:Option Addr}{Z:Nat→Prop}{w:World}(h:Ow RR.iq E 6 Z w a n c (L++[(f,A)])) (i:(dx (L++[(f,A)])).p Z w) (j:∀y∈L,y.1.reads.length≤4000∧y.1.ae.length≤4000) (o:f.reads.length≤4000∧f.ae.length≤4000) (hl:L.map Prod.fst++[f]=l):Ow RR.mJ E 6 Z w a n c l:=by
 have h1:=dx.mJ h i fun y hm=>by grind
 grind
theorem BX{L:List (bq × eC)}{f:bq}{A:eC}{l:List bq}{E EK ES n c:Nat}{a:Option Addr}{Z:Nat→Prop}{w:World}(o:Ow RR.iq E 6 Z w a n c (L++[(f,A)])) (hk:Ow RR.key EK 2 Z w A.a A.n A.c f.reads) (q:Ow RR.str ES 1 Z w A.a2 A.n2 A.c2 f.ae) (r:(dx L).p Z w) (v:∀y∈L,y.1.reads.length≤4000∧y.1.ae.length≤4000) (z:f.reads.length≤4000∧f.ae.length≤4000) (hl:L.map Prod.fst++[f]=l) (G:l.length≤1000000):∃i:Nat→Prop,(∀x,Z x→i x)∧Rd RR.mJ 6 i w a n c l:=by
 have h1:=hk.rd (by omega);have B:=q.rd (by omega)
 let i:Nat→Prop:=fun x=>Z x∨x∈aJ A.a∨x∈aJ A.a2
 have j:∀x,Z x→i x:=fun x h=>.inl h;have C:(dx (L++[(f,A)])).p i w:=dx.snoc ((dx L).mono j r) (h1.mono fun x h=>h.imp id .inl) (B.mono fun x h=>h.imp id .inr);have D:Ow RR.iq E 6 i w a n c (L++[(f,A)]):=(As.os RR.iq E 6 a n c (L++[(f,A)])).mono j o;have F:=dx.whole D C v z hl;exact⟨_,fun x h=>.inl (j x h),F.rd (by omega)⟩
theorem l7{x:cz}{l others:List bq}{k:Key}(h:bH x l others k=1):ay k=false:=by grind [cH,bH]
theorem dx.push{L:List (bq × eC)}{f g:bq}{A:eC}{l:List bq}{E n c:Nat}{a:Option Addr}{Z:Nat→Prop}{w:World}(h:Ow RR.iq E 6 Z w a n c (L++[(f,A)]++[(g,⟨none,0,0,none,0,0⟩)])) (i:(dx (L++[(f,A)])).p Z w) (q:∀y∈L,y.1.reads.length≤4000∧y.1.ae.length≤4000) (r:f.reads.length≤4000∧f.ae.length≤4000) (j:g.reads=[]) (o:g.ae=[]) (hl:L.map Prod.fst++[f]=l):Ow RR.mJ E 6 Z w a n c (l++[g]):=by
 have h1:=dx.mJ h (dx.snoc (f:=g) (A:=⟨none,0,0,none,0,0⟩) i (by rw [j];exact Rd.nil _ _ _ _) (by rw [o];exact Rd.nil _ _ _ _)) fun y hm=>by grind
 grind
section
variable {w0 w:World}{M Z:Nat→Prop}{l:List As}{A0 A1 A2 A3 A4 A5 A6 A7 A8 A9 VT A11 A12 A13 A14 A15 A16 O5:As}
end
end Go.Rc

namespace Go.Rc
open Go
section
variable {α:Type}{R:RR α}{P:Program}{E k n c b:Nat}{a:Option Addr}{L:List α}{u:α}{Z:Nat→Prop}{w:World}
variable {N:Nat}{kv:KV}{K:KV→World→Prop}{ty:TypeId}{pos:String}{af:Array Edge}{g:Option (Nat × Bool)}{T:TypeId}
theorem OX.AR{x y:Operand}{f:Nat}{v:Value}(hT:(P.info? T).map (·.size)=some 1) (h:Ow R E k Z w a n c (L++[u])) (j:a=some ⟨b,0,none⟩) (p:f<k) (q:ev kv x=some (.pointer (some ⟨b,0+L.length*k+f,none⟩))) (z:ev kv y=some v)
  (h1:v.oneCell'=true) (i:α) (hR:∀r,R.r Z w u r→R.r Z w i (r.set f v)) (B:∀w',aU (aJ a) w w'→OR 0 w' E k (R.r Z w) a n c (L++[i])→K kv w'):OX P ⟨none,.store T x y,ty,pos,af,g⟩ N kv w K:=
 OX.QJ hT h j (bG L u) p q z h1 i (fun r _ h=>hR r h) fun w' c o=>B w' c (by grind)
end
section
variable {aa:List aG}{f:bq}
theorem ft.read(h:ft aa f) {k:Key}{a:ByteArray}(hk:eA aa k) (i:gZ aa f.key (f.ae.length+1)):ft aa {f with reads:=f.reads++[k],ae:=f.ae++[a]}:=
 ⟨h.key,h.aD,fun b hb=>by
  rcases List.mem_append.1 hb with hb | hb
  ·
   exact h.AQ b hb
  grind,by simp [h.len],by simpa using i,h.at0⟩
theorem ft.runs(h:ft aa f):ft aa {f with running:=true,at_:=0}:=⟨h.key,h.aD,h.AQ,h.len,h.gH,Int.le_refl _⟩
theorem ft.step(h:ft aa f):ft aa {f with at_:=f.at_+1}:=⟨h.key,h.aD,h.AQ,h.len,h.gH,by have:=h.at0;show 0≤f.at_+1;omega⟩
theorem ft.snoc{L:List (bq × eC)}(i:∀y∈L,ft aa y.1) (h:ft aa f):∀g∈L.map Prod.fst++[f],ft aa g:=fun g j=>by grind
end
structure TR (aa:List aG) (aD:List cB) (rev:Int) (n:Nat) (t:qm):Prop where
 ok:TK aa aD rev t
 ns:t.stack.length≤n
 nr:t.bf.length≤n
 ng:t.goals.length≤32
section
variable {aa:List aG}{aD:List cB}{rev:Int}{n:Nat}{t:qm}
theorem TR.mono(h:TR aa aD rev n t) {m:Nat}(hm:n≤m):TR aa aD rev m t:=⟨h.ok,Nat.le_trans h.ns hm,Nat.le_trans h.nr hm,h.ng⟩
theorem TR.sz(h:TR aa aD rev n t) (hR:aq aa) (hn:n≤100000):t.Sz:=by
 have h1:=h.ok.base;have q:=h1.pq;have p:t.base.ab=aD:=h1.fQ.aD;have r:t.base.ah.length≤4000:=h1.fQ.len;have v:=h.ns;have y:=h.nr;have z:=h.ng;have B:=hR.len;have j:=h.ok.GC;refine⟨by rw [j];omega,fun x o=>?_,by rw [p];omega,by omega,by omega,by omega,by omega⟩;rw [j] at o;obtain⟨i,hi,rfl⟩:=List.mem_iff_getElem.1 o
 have:=(hR.2 i _ (List.getElem?_eq_getElem hi)).1
 omega
theorem TR.V3(h:TR aa aD rev n t):TR aa aD rev n {t with goals:=t.goals.drop 1}:=
 ⟨⟨h.ok.GC,h.ok.base,fun k hk=>h.ok.goals k (List.mem_of_mem_drop hk),h.ok.stack,h.ok.bf⟩,h.ns,h.nr,by have:=h.ng;simp;omega⟩
theorem TR.begin(h:TR aa aD rev n t) {k:Key}(hk:eA aa k) (hi:ay k=false) (hn:1≤n):TR aa aD rev n {t with goals:=t.goals.drop 1,stack:=[⟨k,false,0,[],[]⟩]}:=
 ⟨⟨h.ok.GC,h.ok.base,fun k hk=>h.ok.goals k (List.mem_of_mem_drop hk),fun f i=>by grind [ft.new],h.ok.bf⟩,hn,h.nr,by have:=h.ng;simp;omega⟩
theorem TR.next(h:TR aa aD rev n t) {b:cz}{l:List bq}{rk:List Key}(hb:BK aa aD rev b) (hl:∀f∈l,ft aa f) (hk:∀k∈rk,eA aa k) (h1:rk.length≤1) (i:l.length≤t.stack.length+1):TR aa aD rev (n+1) {t with base:=b,stack:=l,bf:=t.bf++rk}:=
 ⟨⟨h.ok.GC,hb,h.ok.goals,hl,fun k hm=>by rcases List.mem_append.1 hm with hm | hm;exact h.ok.bf k hm;exact hk k hm⟩,by have:=h.ns;show l.length≤_;omega,by have:=h.nr;grind,h.ng⟩
theorem y8{x:cz}{l:List bq}{k:Key}(h:cH x l k=true):ay k=false:=by grind [cH]
end
end Go.Rc

