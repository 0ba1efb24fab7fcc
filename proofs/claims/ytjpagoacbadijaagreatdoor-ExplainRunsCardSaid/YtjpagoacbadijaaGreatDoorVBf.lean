/- Base of the proof: frames, memory, ownership, and the plain meaning of rule systems. Conditions: as each lemma says. -/
import Derived.Test.YtjpagoacbadijaaGreatDoorVBe
import Derived.Test.YtjpagoacbadijaaGreatDoorVBd
import Derived.Test.YtjpagoacbadijaaGreatDoorVBc
import Derived.Laws.IdiomRangeMap
set_option linter.all false
namespace Go.Rc
open Go
/-! ### counting -/
def IF(p:Nat→Bool):Nat→Nat
 | 0=>0
 | n+1=>IF p n+(p n).toNat
theorem ze{p q:Nat→Bool}:∀{n:Nat},(∀i,i<n→p i=true→q i=true)→IF p n≤IF q n
 | 0,_=>Nat.le_refl _
 | n+1,h=>by
  have h1:=ze (n:=n) fun i hi=>h i (by omega)
  have h2:=h n (by omega);simp only [IF]
  cases hp:p n with
  | false=>simp;omega
  | true=>rw [h2 hp];omega
theorem zh{p q:Nat→Bool}{j:Nat}:∀{n:Nat},(∀i,i<n→p i=true→q i=true)→j<n→q j=true→p j=false→IF p n+1≤IF q n
 | 0,_,hj,_,_=>by omega
 | n+1,h,hj,h1,h2=>by
  simp only [IF]
  rcases Nat.lt_or_ge j n with dZ | qi
  ·
   have h3:=zh (n:=n) (fun i hi=>h i (by omega)) dZ h1 h2;have h4:=h n (by omega)
   cases hp:p n with
   | false=>simp;omega
   | true=>rw [h4 hp];omega
  have e:j=n:=by omega
  subst e
  have h3:=ze (n:=j) (p:=p) (q:=q) fun i hi=>h i (by omega)
  rw [h1,h2];simp;omega
theorem KB{p q:Nat→Bool}{j:Nat}:∀{n:Nat},(∀i,i<n→i≠j→p i=true→q i=true)→IF p n≤IF q n+1
 | 0,_=>by simp [IF]
 | n+1,h=>by
  simp only [IF]
  by_cases e:n=j
  ·
   subst e
   have h3:=ze (n:=n) (p:=p) (q:=q) fun i hi=>h i (by omega) (by omega)
   cases p n <;> cases q n <;> simp <;> omega
  have h1:=KB (n:=n) fun i hi=>h i (by omega)
  have h2:=h n (by omega) e
  cases hp:p n with
  | false=>simp;omega
  | true=>rw [h2 hp];simp;omega
theorem TY(p:Nat→Bool):∀n,IF p n≤n
 | 0=>Nat.le_refl _
 | n+1=>by have:=TY p n;simp only [IF];cases p n <;> simp <;> omega
/-! ### what is found in what was put -/
theorem KC:∀(a b:List UInt8),Lib.compareBytes a b=0→a=b
 | [],[],_=>rfl
 | [],_::_,h=>by simp [Lib.compareBytes] at h
 | _::_,[],h=>by simp [Lib.compareBytes] at h
 | x::a,y::b,h=>by
  simp only [Lib.compareBytes] at h
  split at h
  ·
   cases h
  split at h
  ·
   cases h
  rename_i h1 h2
  have e:x=y:=by grind
  rw [e,KC a b h]
theorem pd{a b:Key}(h:cv a b=0):a=b:=by
 unfold cv at h
 split at h
 ·
  cases h
 split at h
 ·
  cases h
 rename_i h1 h2
 have h3:=KC _ _ h;obtain⟨ka,ta⟩:=a;obtain⟨kb,tb⟩:=b;simp only at h1 h2 h3
 congr 1
 ·
  omega
 cases ta;simp_all
theorem Gw(r:Rec) (k:Key):∀(l:List Rec) (b:Bool),aB (fY r l b) k=if k=r.key then (if b then none else some r) else aB l k:=by
 intro l
 induction l with
 | nil=>
  intro b
  unfold fY aB
  grind
 | cons x xs ih=>
  intro b;have h1:=ih (b || decide (0≤cv x.key r.key))
  unfold fY
  unfold aB at h1 ⊢
  rw [List.find?_append,List.find?_append,h1]
  by_cases h:k=r.key
  ·
   subst h;simp only [if_true]
   by_cases hc:cv x.key r.key=0
   ·
    grind
   have kV:x.key≠r.key:=fun e=>hc (by rw [e];exact k8 _)
   grind
  simp only [if_neg h]
  have hr:(r.key == k)=false:=by simp;exact fun e=>h e.symm
  have h2:(List.find? (fun y=>y.key == k) (if (decide (0≤cv x.key r.key) && !b)=true then [r] else []))=none:=by split <;> simp [hr]
  rw [h2]
  by_cases hc:cv x.key r.key=0
  ·
   have e:x.key=r.key:=pd hc
   grind
  grind
theorem gi(l:List Rec) (r:Rec) (k:Key):aB (fP l r) k=if k=r.key then some r else aB l k:=by grind [fP,Gw]
theorem vD(f:Rec→Rec) (hf:∀r,(f r).key=r.key) (k:Key) (l:List Rec):aB (l.map f) k=(aB l k).map f:=by
 unfold aB
 rw [List.find?_map,show((fun x:Rec=>x.key == k)∘f)=(fun x:Rec=>x.key == k) from funext fun x=>by simp [hf]]
/-! ### what goes on being so -/
theorem cB{x:dP}{k:Key}:aJ x k=true↔∃r,aB x.ak k=some r∧r.ax=x.ae:=by
 unfold aJ aH
 cases hf:aB x.ak k with
 | none=>simp
 | some r=>simp
theorem II{x:dP}{g:List Key}{d:Bool}{k:Key}(h:aJ x k=true):aJ (dQ x g d) k=true:=by
 obtain⟨r,h1,h2⟩:=cB.1 h;refine cB.2 ⟨cL x.ae g d r,?_,?_⟩
 ·
  show aB (x.ak.map (cL x.ae g d)) k=_
  grind [vD,dN]
 show _=x.ae
 unfold cL
 grind
theorem uu{x:dP}{g:List Key}{k:Key}(h:(aB x.ak k).isSome=true) (hk:k∈g):aJ (dQ x g false) k=true:=by
 obtain⟨r,h1⟩:=Option.isSome_iff_exists.1 h;have h3:=List.find?_some h1
 simp at h3
 refine cB.2 ⟨cL x.ae g false r,?_,?_⟩
 ·
  show aB (x.ak.map (cL x.ae g false)) k=_
  grind [vD,dN]
 show _=x.ae
 grind [cL]
theorem LX{x:dP}{r:Rec}{k:Key}(hr:r.ax=x.ae) (h:aJ x k=true):aJ {x with ak:=fP x.ak r} k=true:=by
 obtain⟨q,h1,h2⟩:=cB.1 h
 by_cases e:k=r.key
 ·
  exact cB.2 ⟨r,by show aB (fP x.ak r) k=_;rw [gi,if_pos e],hr⟩
 exact cB.2 ⟨q,by show aB (fP x.ak r) k=_;rw [gi,if_neg e,h1],h2⟩
theorem tg{x:dP}{r:Rec}(hr:r.ax=x.ae):aJ {x with ak:=fP x.ak r} r.key=true:=
 cB.2 ⟨r,by show aB (fP x.ak r) r.key=_;rw [gi,if_pos rfl],hr⟩
theorem IJ(l:List Rec) (rev:Int) (k:Key):k∈aC l rev k:=by grind [aC,rA]
structure j5 (s s':ES):Prop where
 on:∀k,s'.on k=s.on k
 up:∀k,aJ s.b k=true→aJ s'.b k=true
theorem j5.refl(s:ES):j5 s s:=⟨fun _=>rfl,fun _ h=>h⟩
theorem j5.trans{s t u:ES}(h:j5 s t) (h':j5 t u):j5 s u:=⟨fun k=>(h'.on k).trans (h.on k),fun k hk=>h'.up k (h.up k hk)⟩
theorem j5.there{s s':ES}(h:j5 s s') {k:Key}(ht:fB s k=true):fB s' k=true:=by
 unfold fB at ht ⊢
 rw [h.on k];simp only [Bool.or_eq_true] at ht ⊢
 rcases ht with h1 | h1 | h1
 ·
  exact .inl h1
 ·
  exact .inr (.inl h1)
 exact .inr (.inr (h.up k h1))
def iK(ab:List aG) (s:ES):Nat:=IF (fun i=>!aJ s.b (aL ab (i:Int)) && !s.on (aL ab (i:Int))) ab.length
def off(ab:List aG) (s:ES):Nat:=IF (fun i=>!s.on (aL ab (i:Int))) ab.length
theorem j5.iK{ab:List aG}{s s':ES}(h:j5 s s'):iK ab s'≤iK ab s:=ze fun i _ hp=>by
 simp only [Bool.and_eq_true,Bool.not_eq_true'] at hp ⊢;rw [h.on] at hp;refine⟨?_,hp.2⟩
 cases hu:aJ s.b (aL ab (i:Int)) with
 | false=>rfl
 | true=>rw [h.up _ hu] at hp;exact absurd hp.1 (by simp)
theorem j5.off{ab:List aG}{s s':ES}(h:j5 s s'):Go.Rc.off ab s'=Go.Rc.off ab s:=by
 unfold Go.Rc.off
 congr 1
 funext i
 rw [h.on]
section
variable {ab:List aG}{val:Key→ByteArray}{aF:List dy}
theorem qw(s:ES) (k k':Key):ES.on {s with busy:=dC s.busy k (.bool true)} k'=(decide (k=k') || s.on k'):=by
 unfold ES.on
 simp only [fy]
 by_cases h:k=k' <;> simp [h]
theorem IK{s:ES}(hn:(s.busy.map (·.1)).Nodup) (k k':Key):ES.on {s with busy:=jJ s.busy k} k'=(!decide (k=k') && s.on k'):=by
 unfold ES.on
 simp only [F3 hn]
 by_cases h:k=k' <;> simp [h]
def UpK(ab:List aG) (val:Key→ByteArray) (aF:List dy) (f:Nat):Prop:=∀s k s',mb ab val f s k=some s'→Good ab aF s→gG ab k→j5 s s'∧(s'.e=0→s.e=0∧(az k=true∨fB s' k=true))∧s'.cP.length+iK ab s'≤s.cP.length+iK ab s
def ChK(ab:List aG) (val:Key→ByteArray) (aF:List dy) (f:Nat):Prop:=∀s k n s' b,dF ab val f s k n=some (s',b)→Good ab aF s→j5 s s'∧(s'.e=0→s.e=0∧(b=false→aJ s'.b k=true))∧s'.cP.length+iK ab s'≤s.cP.length+iK ab s
def RuK(ab:List aG) (val:Key→ByteArray) (aF:List dy) (f:Nat):Prop:=∀s k reads ah s',gW ab val f s k reads ah=some s'→Good ab aF s→jq ab k ah.length→j5 s s'∧(s'.e=0→s.e=0∧aJ s'.b k=true)∧(s'.cP.length+iK ab s'≤s.cP.length+iK ab s∨(aJ s'.b k=true∧s'.cP.length+iK ab s'≤s.cP.length+iK ab s+1))
theorem j5.err(s:ES) (e:Int):j5 s {s with e:=e}:=⟨fun _=>rfl,fun _ h=>h⟩
theorem j5.mark(s:ES) (g:List Key) (d:Bool):j5 s {s with b:=dQ s.b g d}:=⟨fun _=>rfl,fun _ h=>II h⟩
theorem jY(hR:aw ab):∀f,UpK ab val aF f∧ChK ab val aF f∧RuK ab val aF f:=by
 intro f
 induction f with
 | zero=>exact⟨fun s k s' h=>by simp [mb] at h,fun s k n s' b h=>by simp [dF] at h,fun s k r a s' h=>by simp [gW] at h⟩
 | succ f ih=>
  obtain⟨LW,Fz,H6⟩:=ih;have gd:=df (val:=val) (aF:=aF) hR f;refine⟨?_,?_,?_⟩
  ·
   intro s k s' h hg hk
   unfold mb at h
   split at h
   ·
    rename_i he
    cases h
    refine⟨.refl _,fun h0=>⟨h0,?_⟩,Nat.le_refl _⟩
    grind
   rename_i he
   have he0:s.e=0:=by simp at he;exact he.1
   have qt:az k=false:=by simp at he;exact he.2
   split at h
   ·
    rename_i hu
    cases h
    exact⟨.refl _,fun h0=>⟨h0,.inr (by unfold fB;rw [hu];simp)⟩,Nat.le_refl _⟩
   rename_i hu
   split at h
   ·
    rename_i ho
    split at h
    ·
     rename_i hc
     cases h
     exact⟨.refl _,fun h0=>⟨h0,.inr (by unfold fB;rw [ho,hc];simp)⟩,Nat.le_refl _⟩
    cases h
    exact⟨.err _ _,fun h0=>by simp at h0,Nat.le_refl _⟩
   rename_i ho
   have hu':aJ s.b k=false:=by simpa using hu
   have H2:s.on k=false:=by simpa using ho
   obtain⟨⟨s2,b2⟩,hp,h⟩:=Option.bind_eq_some_iff.1 h;obtain⟨s3,ht,h⟩:=Option.bind_eq_some_iff.1 h;simp only [Option.some.injEq] at h;subst h;obtain⟨i,hi,sP,_⟩:=hk.jE qt;obtain⟨FB,_⟩:=gd.2.1 _ _ _ _ _ hp (hg.on k);obtain⟨nc,QG,LY⟩:=Fz _ _ _ _ _ hp (hg.on k)
   -- the state before, with k under way
   have h1:iK ab {s with busy:=dC s.busy k (.bool true)}+1≤iK ab s:=by
    refine zh (j:=i) (fun j _ hj=>?_) hi ?_ ?_
    ·
     simp only [qw,Bool.and_eq_true,Bool.not_eq_true',Bool.or_eq_false_iff] at hj ⊢;exact⟨hj.1,hj.2.2⟩
    ·
     grind
    grind [qw]
   have h3:Good ab aF s3∧j5 s2 s3∧(s3.e=0→s2.e=0∧aJ s3.b k=true)∧(s3.cP.length+iK ab s3≤s2.cP.length+iK ab s2∨(aJ s3.b k=true∧s3.cP.length+iK ab s3≤s2.cP.length+iK ab s2+1)):=by
    split at ht
    ·
     obtain⟨a,b,c⟩:=H6 _ _ _ _ _ ht FB (hk.jE qt);exact⟨(gd.2.2 _ _ _ _ _ ht FB (hk.jE qt) rfl (fun a ha=>by cases ha)).1,a,b,c⟩
    rename_i hb
    simp only [Option.some.injEq] at ht;subst ht;exact⟨FB,.refl _,fun h0=>⟨h0,(QG h0).2 (by simpa using hb)⟩,.inl (Nat.le_refl _)⟩
   obtain⟨hg3,wT,he3,ht3⟩:=h3
   have IL:∀k',s3.on k'=(decide (k=k') || s.on k'):=fun k'=>by rw [wT.on,nc.on,qw]
   have QO:j5 s {s3 with busy:=jJ s3.busy k}:=⟨fun k'=>by
    rw [IK hg3.mE,IL]
    grind,fun k' h=>wT.up _ (nc.up _ h)⟩
   refine⟨QO,fun h0=>⟨he0,.inr ?_⟩,?_⟩
   ·
    have:=(he3 h0).2
    show fB {s3 with busy:=jJ s3.busy k} k=true
    unfold fB
    grind
   show s3.cP.length+iK ab {s3 with busy:=jJ s3.busy k}≤_
   have apQ:s2.cP.length+iK ab s2≤s.cP.length+iK ab {s with busy:=dC s.busy k (.bool true)}:=LY
   by_cases hu3:aJ s3.b k=true
   ·
    have:iK ab {s3 with busy:=jJ s3.busy k}≤iK ab s3:=ze fun j _ hj=>by
     simp only [IK hg3.mE,Bool.and_eq_true,Bool.not_eq_true',Bool.and_eq_false_iff] at hj ⊢
     grind
    omega
   have h5:iK ab {s3 with busy:=jJ s3.busy k}≤iK ab s3+1:=KB (j:=i) fun j hj kV hp=>by
    simp only [IK hg3.mE,Bool.and_eq_true,Bool.not_eq_true',Bool.and_eq_false_iff] at hp ⊢
    grind [fo]
   grind
  ·
   intro s k n s' b h hg
   unfold dF at h
   split at h
   ·
    rename_i he
    cases h;exact⟨.refl _,fun h0=>absurd h0 he,Nat.le_refl _⟩
   split at h
   ·
    cases h;exact⟨.refl _,fun h0=>⟨h0,fun hb=>by cases hb⟩,Nat.le_refl _⟩
   rename_i hf
   have ZX:(aB s.b.ak k).isSome=true:=by grind
   split at h
   ·
    rename_i hv
    cases h;exact⟨.refl _,fun h0=>⟨h0,fun _=>by unfold aJ;rw [ZX,hv];simp⟩,Nat.le_refl _⟩
   split at h
   ·
    cases h
    have QO:j5 s {s with b:=dQ s.b (aC s.b.ak s.b.ae k) false}:=.mark _ _ _;exact⟨QO,fun h0=>⟨h0,fun _=>uu ZX (IJ _ _ _)⟩,Nat.add_le_add_left QO.iK _⟩
   rename_i c hc
   split at h
   ·
    obtain⟨t,ht,h⟩:=Option.bind_eq_some_iff.1 h;obtain⟨h1,h2,h3⟩:=LW _ _ _ ht hg (iE hg hc);obtain⟨h4,h5,h6⟩:=Fz _ _ _ _ _ h (gd.1 _ _ _ ht hg (iE hg hc)).1;exact⟨h1.trans h4,fun h0=>⟨(h2 (h5 h0).1).1,(h5 h0).2⟩,Nat.le_trans h6 h3⟩
   split at h
   ·
    split at h <;> cases h
    ·
     have QO:j5 s {s with b:=dQ s.b (aC s.b.ak s.b.ae k) true}:=.mark _ _ _;exact⟨QO,fun h0=>⟨h0,fun hb=>by cases hb⟩,Nat.add_le_add_left QO.iK _⟩
    exact⟨.refl _,fun h0=>⟨h0,fun hb=>by cases hb⟩,Nat.le_refl _⟩
   exact Fz _ _ _ _ _ h hg
  intro s k reads ah s' h hg ha
  unfold gW at h
  split at h
  ·
   rename_i he
   cases h;exact⟨.refl _,fun h0=>absurd h0 he,.inl (Nat.le_refl _)⟩
  rename_i he
  split at h
  ·
   split at h
   ·
    cases h;exact⟨.err _ _,fun h0=>by simp at h0,.inl (Nat.le_refl _)⟩
   cases h
   have QO:j5 s {s with b:={s.b with ak:=fP s.b.ak (dI s.b k (aN ab k ah).value reads)},cP:=s.cP++[k]}:=⟨fun _=>rfl,fun _ h=>LX rfl h⟩;have hu:aJ ({s.b with ak:=fP s.b.ak (dI s.b k (aN ab k ah).value reads)}:dP) k=true:=tg (r:=dI s.b k (aN ab k ah).value reads) rfl;refine⟨QO,fun h0=>⟨h0,hu⟩,.inr ⟨hu,?_⟩⟩
   have:=QO.iK (ab:=ab)
   grind
  rename_i hd
  obtain⟨t,ht,h⟩:=Option.bind_eq_some_iff.1 h;have hn:=ha.next hR (by simpa using hd);obtain⟨h1,h2,h3⟩:=LW _ _ _ ht hg hn.2;have pW:=(gd.1 _ _ _ ht hg hn.2).1
  have h7:j5 t s'∧(s'.e=0→t.e=0∧aJ s'.b k=true)∧(s'.cP.length+iK ab s'≤t.cP.length+iK ab t∨(aJ s'.b k=true∧s'.cP.length+iK ab s'≤t.cP.length+iK ab t+1)):=by
   split at h
   ·
    exact H6 _ _ _ _ _ h pW (by simpa using hn.1)
   exact H6 _ _ _ _ _ h pW ha
  obtain⟨h4,h5,h6⟩:=h7;refine⟨h1.trans h4,fun h0=>⟨(h2 (h5 h0).1).1,(h5 h0).2⟩,?_⟩
  grind
/-! ### more fuel does no harm -/
theorem qx:∀f,(∀s k s',mb ab val f s k=some s'→mb ab val (f+1) s k=some s')∧(∀s k n p,dF ab val f s k n=some p→dF ab val (f+1) s k n=some p)∧(∀s k r a s',gW ab val f s k r a=some s'→gW ab val (f+1) s k r a=some s'):=by
 intro f
 induction f with
 | zero=>grind [mb,dF,gW]
 | succ f ih=>
  obtain⟨LW,Fz,H6⟩:=ih;refine⟨?_,?_,?_⟩
  ·
   intro s k s' h
   unfold mb at h ⊢
   split at h
   ·
    grind
   rename_i h1;rw [if_neg h1]
   split at h
   ·
    grind
   rename_i h2;rw [if_neg h2]
   split at h
   ·
    grind
   rename_i h3;rw [if_neg h3]
   obtain⟨p,hp,h⟩:=Option.bind_eq_some_iff.1 h;obtain⟨s3,ht,h⟩:=Option.bind_eq_some_iff.1 h
   grind
  ·
   intro s k n p h
   unfold dF at h ⊢
   split at h
   ·
    grind
   rename_i h1;rw [if_neg h1]
   split at h
   ·
    grind
   rename_i h2;rw [if_neg h2]
   split at h
   ·
    grind
   rename_i h3;rw [if_neg h3]
   split at h
   ·
    exact h
   rename_i c hc
   split at h
   ·
    rename_i h4;rw [if_pos h4]
    grind [Option.bind_eq_some_iff]
   grind
  intro s k r a s' h
  unfold gW at h ⊢
  split at h
  ·
   grind
  rename_i h1;rw [if_neg h1]
  split at h
  ·
   grind
  rename_i h2;rw [if_neg h2]
  obtain⟨t,ht,h⟩:=Option.bind_eq_some_iff.1 h
  grind
theorem rB{f g:Nat}(h:f≤g) {s:ES}{k:Key}{s':ES}(hu:mb ab val f s k=some s'):mb ab val g s k=some s':=by
 induction h with
 | refl=>exact hu
 | step _ ih=>exact(qx _).1 _ _ _ ih
theorem th{f g:Nat}(h:f≤g) {s:ES}{k:Key}{n:Nat}{p:ES × Bool}(hu:dF ab val f s k n=some p):dF ab val g s k n=some p:=by
 induction h with
 | refl=>exact hu
 | step _ ih=>exact(qx _).2.1 _ _ _ _ ih
theorem zj{f g:Nat}(h:f≤g) {s:ES}{k:Key}{r:List Key}{a:List ByteArray}{s':ES}(hu:gW ab val f s k r a=some s'):gW ab val g s k r a=some s':=by
 induction h with
 | refl=>exact hu
 | step _ ih=>exact(qx _).2.2 _ _ _ _ _ ih
/-! ### there is fuel enough -/
theorem IM(hR:aw ab) {d:Nat}(mA:∀s k,Good ab aF s→gG ab k→off ab s≤d→∃f s',mb ab val f s k=some s') (k:Key) :
  ∀(m:Nat) (s:ES) (n:Nat),iK ab s*200000000+(200000000 - n)≤m→n≤100000000→Good ab aF s→off ab s≤d→∃f p,dF ab val f s k n=some p:=by
 intro m
 induction m using Nat.strongRecOn with
 | _ m ih=>
  intro s n hm hn hg hd
  by_cases h1:s.e≠0
  ·
   exact⟨1,(s,false),by unfold dF;rw [if_pos h1]⟩
  by_cases h2:(!(aB s.b.ak k).isSome || (aH s.b.ak k).bS)=true
  ·
   exact⟨1,(s,true),by unfold dF;rw [if_neg h1,if_pos h2]⟩
  by_cases h3:(aH s.b.ak k).ax=s.b.ae
  ·
   exact⟨1,(s,false),by unfold dF;grind⟩
  have Ou:(aC s.b.ak s.b.ae k).length≤4001:=by grind [pc,Good.len]
  have vo:=DK hg Ou
  cases hc:(bW s.b.ak (aC s.b.ak s.b.ae k))[n]? with
  | none=>exact⟨1,_,by unfold dF;rw [if_neg h1,if_neg h2,if_neg h3,hc]⟩
  | some c=>
   have l4:n<(bW s.b.ak (aC s.b.ak s.b.ae k)).length:=(List.getElem?_eq_some_iff.1 hc).1
   by_cases h4:fB s c.read=false
   ·
    obtain⟨f,t,ht⟩:=mA s c.read hg (iE hg hc) hd;obtain⟨sk,ZQ,_⟩:=(jY (val:=val) hR f).1 _ _ _ ht hg (iE hg hc);have H7:=((df (val:=val) hR f).1 _ _ _ ht hg (iE hg hc)).1
    have qt:az c.read=false:=by grind [fB]
    by_cases h5:t.e=0
    ·
     obtain⟨i,hi,sP,_⟩:=(iE hg hc).jE qt
     have Kh:fB t c.read=true:=by grind
     have dZ:iK ab t+1≤iK ab s:=by
      have hu0:aJ s.b c.read=false:=by grind [fB]
      have hoc:(s.on c.read && aA c.read)=false:=by grind [fB]
      have QP:aJ t.b c.read=true:=by grind [fB,j5.on]
      have IL:s.on c.read=false:=by
       cases ho:s.on c.read with
       | false=>rfl
       | true=>
        exfalso
        cases f with
        | zero=>simp [mb] at ht
        | succ f=>
         unfold mb at ht
         grind
      refine zh (j:=i) (fun j _ hj=>?_) hi ?_ ?_
      ·
       simp only [Bool.and_eq_true,Bool.not_eq_true'] at hj ⊢;rw [sk.on] at hj;refine⟨?_,hj.2⟩
       cases hx:aJ s.b (aL ab (j:Int)) with
       | false=>rfl
       | true=>rw [sk.up _ hx] at hj;exact absurd hj.1 (by simp)
      ·
       rw [← sP,hu0,IL];rfl
      rw [← sP,QP];rfl
     obtain⟨f2,p,hp⟩:=ih (iK ab t*200000000+(200000000 - n)) (by omega) t n (Nat.le_refl _) hn H7 (by rw [sk.off];exact hd);refine⟨max f f2+1,p,?_⟩
     unfold dF
     rw [if_neg h1,if_neg h2,if_neg h3,hc]
     simp only
     rw [if_pos h4,rB (Nat.le_max_left _ _) ht]
     grind [th,Nat.le_max_right]
    refine⟨max f 1+1,(t,false),?_⟩
    unfold dF
    rw [if_neg h1,if_neg h2,if_neg h3,hc]
    simp only
    rw [if_pos h4,rB (Nat.le_max_left _ _) ht];refine th (f:=1) (Nat.le_max_right _ _) ?_
    unfold dF
    rw [if_pos h5]
   by_cases h6:(aH s.b.ak c.eY).ax<bp val s.b c.read
   ·
    exact⟨1,_,by unfold dF;rw [if_neg h1,if_neg h2,if_neg h3,hc];simp only;rw [if_neg h4,if_pos h6]⟩
   obtain⟨f2,p,hp⟩:=ih (iK ab s*200000000+(200000000 - (n+1))) (by omega) s (n+1) (Nat.le_refl _) (by omega) hg hd;refine⟨f2+1,p,?_⟩
   unfold dF
   grind
theorem Ov(hR:aw ab) {d:Nat}(mA:∀s k,Good ab aF s→gG ab k→off ab s≤d→∃f s',mb ab val f s k=some s') (k:Key) :
  ∀(m:Nat) (s:ES) (reads:List Key) (ah:List ByteArray),7 - ah.length≤m→Good ab aF s→jq ab k ah.length→off ab s≤d→∃f s',gW ab val f s k reads ah=some s':=by
 intro m
 induction m with
 | zero=>intro s r a hm _ ha _;have:=ha.le hR;omega
 | succ m ih=>
  intro s reads ah hm hg ha hd
  by_cases h1:s.e≠0
  ·
   exact⟨1,s,by unfold gW;rw [if_pos h1]⟩
  by_cases h2:(aN ab k ah).done=true
  ·
   by_cases h3:(!(aB s.b.ak k).isSome && decide (4000≤s.b.ak.length))=true
   ·
    exact⟨1,_,by unfold gW;rw [if_neg h1,if_pos h2,if_pos h3]⟩
   exact⟨1,_,by unfold gW;rw [if_neg h1,if_pos h2,if_neg h3]⟩
  have hn:=ha.next hR (by simpa using h2);obtain⟨f,t,ht⟩:=mA s _ hg hn.2 hd;obtain⟨sk,_,_⟩:=(jY (val:=val) hR f).1 _ _ _ ht hg hn.2;have H7:=((df (val:=val) hR f).1 _ _ _ ht hg hn.2).1
  by_cases h5:t.e=0
  ·
   obtain⟨f2,s',QJ⟩:=ih t (reads++[(aN ab k ah).ask]) (ah++[dz val t.b (aN ab k ah).ask]) (by simp;omega) H7 (by simpa using hn.1) (by rw [sk.off];exact hd);refine⟨max f f2+1,s',?_⟩
   unfold gW
   rw [if_neg h1,if_neg h2,rB (Nat.le_max_left _ _) ht];simp only [Option.bind_some];rw [if_pos h5]
   grind [zj,Nat.le_max_right]
  refine⟨max f 1+1,t,?_⟩
  unfold gW
  rw [if_neg h1,if_neg h2,rB (Nat.le_max_left _ _) ht];simp only [Option.bind_some];rw [if_neg h5];refine zj (f:=1) (Nat.le_max_right _ _) ?_
  unfold gW
  rw [if_pos h5]
theorem Rz(hR:aw ab):∀(d:Nat) (s:ES) (k:Key),Good ab aF s→gG ab k→off ab s≤d→∃f s',mb ab val f s k=some s':=by
 intro d
 induction d with
 | zero=>
  intro s k hg hk hd
  by_cases h1:s.e≠0∨az k=true
  ·
   exact⟨1,s,by unfold mb;rw [if_pos h1]⟩
  by_cases h2:aJ s.b k=true
  ·
   exact⟨1,s,by unfold mb;rw [if_neg h1,if_pos h2]⟩
  by_cases h3:s.on k=true
  ·
   by_cases h4:aA k=true
   ·
    exact⟨1,s,by unfold mb;grind⟩
   exact⟨1,_,by unfold mb;rw [if_neg h1,if_neg h2,if_pos h3,if_neg h4]⟩
  exfalso
  obtain⟨i,hi,sP,_⟩:=hk.jE (by simp at h1;exact h1.2)
  have:off ab {s with busy:=dC s.busy k (.bool true)}+1≤off ab s:=by
   refine zh (j:=i) (fun j _ hj=>?_) hi ?_ ?_
   ·
    grind [qw]
   ·
    rw [← sP];simpa using h3
   grind [qw]
  omega
 | succ d ih=>
  intro s k hg hk hd
  by_cases h1:s.e≠0∨az k=true
  ·
   exact⟨1,s,by unfold mb;rw [if_pos h1]⟩
  by_cases h2:aJ s.b k=true
  ·
   exact⟨1,s,by unfold mb;rw [if_neg h1,if_pos h2]⟩
  by_cases h3:s.on k=true
  ·
   by_cases h4:aA k=true
   ·
    exact⟨1,s,by unfold mb;grind⟩
   exact⟨1,_,by unfold mb;rw [if_neg h1,if_neg h2,if_pos h3,if_neg h4]⟩
  have qt:az k=false:=by simp at h1;exact h1.2
  obtain⟨i,hi,sP,_⟩:=hk.jE qt
  have apS:off ab {s with busy:=dC s.busy k (.bool true)}+1≤off ab s:=by
   refine zh (j:=i) (fun j _ hj=>?_) hi ?_ ?_
   ·
    grind [qw]
   ·
    rw [← sP];simpa using h3
   grind [qw]
  obtain⟨f,⟨s2,b2⟩,hp⟩:=IM (val:=val) hR ih k _ {s with busy:=dC s.busy k (.bool true)} 0 (Nat.le_refl _) (by omega) (hg.on k) (by omega);have FB:=((df (val:=val) hR f).2.1 _ _ _ _ _ hp (hg.on k)).1;have nc:=((jY (val:=val) hR f).2.1 _ _ _ _ _ hp (hg.on k)).1
  cases b2 with
  | false=>
   refine⟨f+1,{s2 with busy:=jJ s2.busy k},?_⟩
   unfold mb
   grind
  | true=>
   obtain⟨f2,s3,vE⟩:=Ov (val:=val) hR ih k _ s2 [] [] (Nat.le_refl _) FB (hk.jE qt) (by rw [nc.off];omega);refine⟨max f f2+1,{s3 with busy:=jJ s3.busy k},?_⟩
   unfold mb
   rw [if_neg h1,if_neg h2,if_neg h3,th (Nat.le_max_left _ _) hp];simp only [Option.bind_some,if_true]
   grind [zj,Nat.le_max_right]
end
end Go.Rc

namespace Go.Rc
open Go
noncomputable def eD(ab:List aG) (val:Key→ByteArray) (f:Nat):ES→List Key→Option ES
 | s,[]=>some s
 | s,k::r=>(mb ab val f s k).bind fun t=>eD ab val f t r
def ES.base(s:ES) (x:dP):dP:=if s.e=0 then s.b else x
noncomputable def ES.list(s:ES):List Key:=if s.e=0 then kR s.cP else []
theorem ti{ab:List aG}{aF:List dy}{val:Key→ByteArray}(hR:aw ab) {f:Nat}:∀{l:List Key}{s s':ES},eD ab val f s l=some s'→Good ab aF s→(∀k∈l,gG ab k)→Good ab aF s'∧KA s s'
 | [],s,s',h,hg,_=>by simp only [eD,Option.some.injEq] at h;subst h;exact⟨hg,.refl _⟩
 | k::r,s,s',h,hg,hk=>by
  simp only [eD] at h;obtain⟨t,h1,h2⟩:=Option.bind_eq_some_iff.1 h;have h3:=(df (val:=val) hR f).1 _ _ _ h1 hg (hk k (by simp))
  have h4:=ti hR h2 h3.1 fun k Nd=>hk k (by simp [Nd])
  exact⟨h4.1,h3.2.trans h4.2⟩
theorem St.abr{κ:Type}{enc:κ→Value}{w0 w:World}{M Z:Nat→Prop}{l:List As}{s m T:Nat}{cs:List Value}{q:List (κ × Value)}(h:St w0 M Z w (As.blk s T cs::As.map enc m q::l)):s≠m:=fun e=>by
 have h1:=(List.pairwise_cons.1 h.vA).1 (As.map enc m q) (by simp) s rfl;exact h1 e
end Go.Rc

namespace Go.Rc
open Go
/-! ### the order of keys -/
theorem Cy:∀a b:List UInt8,Lib.compareBytes b a = - Lib.compareBytes a b
 | [],[]=>rfl
 | [],_::_=>rfl
 | _::_,[]=>rfl
 | x::a,y::b=>by
  simp only [Lib.compareBytes]
  by_cases h1:x<y
  ·
   grind
  by_cases h2:y<x
  ·
   grind
  rw [if_neg h2,if_neg h1,if_neg h1,if_neg h2,Cy a b]
theorem zk:∀a b c:List UInt8,Lib.compareBytes a b<0→Lib.compareBytes b c<0→Lib.compareBytes a c<0
 | _,[],[],_,h=>by simp [Lib.compareBytes] at h
 | [],[],_::_,h,_=>by simp [Lib.compareBytes] at h
 | _::_,[],_::_,h,_=>by simp [Lib.compareBytes] at h
 | _,_::_,[],_,h=>by simp [Lib.compareBytes] at h
 | [],_::_,_::_,_,_=>by simp [Lib.compareBytes]
 | x::a,y::b,z::c,h1,h2=>by
  simp only [Lib.compareBytes] at h1 h2 ⊢
  by_cases e1:x<y
  ·
   grind
  rw [if_neg e1] at h1
  by_cases e3:y<x
  ·
   rw [if_pos e3] at h1;simp at h1
  rw [if_neg e3] at h1
  by_cases e2:y<z
  ·
   grind
  rw [if_neg e2] at h2
  by_cases e4:z<y
  ·
   rw [if_pos e4] at h2;simp at h2
  rw [if_neg e4] at h2;rw [if_neg (by grind),if_neg (by grind)];exact zk a b c h1 h2
theorem k9(a b:Key):cv b a = - cv a b:=by
 unfold cv
 by_cases h1:a.kind<b.kind
 ·
  grind
 by_cases h2:b.kind<a.kind
 ·
  grind
 rw [if_neg h2,if_neg h1,if_neg h1,if_neg h2,Cy]
theorem jP{a b c:Key}(h1:cv a b<0) (h2:cv b c<0):cv a c<0:=by
 unfold cv at h1 h2 ⊢
 by_cases e1:a.kind<b.kind
 ·
  grind
 rw [if_neg e1] at h1
 by_cases e4:b.kind<a.kind
 ·
  rw [if_pos e4] at h1;simp at h1
 rw [if_neg e4] at h1
 by_cases e2:b.kind<c.kind
 ·
  rw [if_pos (by omega)];decide
 rw [if_neg e2] at h2
 by_cases e3:c.kind<b.kind
 ·
  rw [if_pos e3] at h2;simp at h2
 rw [if_neg e3] at h2;rw [if_neg (by omega),if_neg (by omega)];exact zk _ _ _ h1 h2
def vF(l:List Rec):Prop:=l.Pairwise fun a b=>cv a.key b.key<0
theorem zl(r:Rec):∀l:List Rec,fY r l true=l.filter fun x=>!decide (cv x.key r.key=0)
 | []=>rfl
 | x::xs=>by
  simp only [fY,Bool.not_true,Bool.and_false,Bool.false_eq_true,if_false,Bool.true_or,List.nil_append,zl r xs,List.filter_cons]
  grind
theorem vF.put{r:Rec}:∀{l:List Rec},vF l→vF (fP l r)
 | [],_=>by simp [vF,fP,fY]
 | x::xs,h=>by
  obtain⟨h1,h2⟩:=List.pairwise_cons.1 h;have ih:vF (fP xs r):=vF.put h2;have hf:vF (xs.filter fun y=>!decide (cv y.key r.key=0)):=List.Pairwise.filter _ h2
  show vF (fY r (x::xs) false)
  simp only [fY,Bool.not_false,Bool.and_true,Bool.false_or]
  by_cases c1:cv x.key r.key<0
  ·
   rw [decide_eq_false (show ¬0≤cv x.key r.key by omega),if_neg (show ¬cv x.key r.key=0 by omega)];simp only [Bool.false_eq_true,if_false,List.nil_append,List.singleton_append];refine List.pairwise_cons.2 ⟨fun y hy=>?_,ih⟩
   grind [iJ]
  rw [decide_eq_true (show 0≤cv x.key r.key by omega),zl];simp only [if_true]
  by_cases c2:cv x.key r.key=0
  ·
   rw [if_pos c2];simp only [List.append_nil,List.singleton_append];refine List.pairwise_cons.2 ⟨fun y hy=>?_,hf⟩
   grind [pd]
  rw [if_neg c2];simp only [List.singleton_append,List.cons_append]
  have c3:cv r.key x.key<0:=by rw [k9 x.key r.key];omega
  refine List.pairwise_cons.2 ⟨fun y hy=>?_,List.pairwise_cons.2 ⟨fun y hy=>h1 y (List.mem_filter.1 hy).1,hf⟩⟩
  grind [jP]
theorem vF.qp{l:List Rec}(h:vF l) (hn:l.length≤4000) (hv:∀r∈l,fI r=true):qp l:=by
 refine⟨hn,fun i x hx=>⟨hv x (List.mem_of_getElem? hx),fun hi=>?_⟩⟩;obtain⟨hl,rfl⟩:=List.getElem?_eq_some_iff.1 hx;rw [getElem!_pos l (i - 1) (by omega)];exact List.pairwise_iff_getElem.1 h (i - 1) i (by omega) hl (by omega)
/-! ### values are short -/
section
variable {ab:List aG}{aF:List dy}
theorem vG{n:Nat}(h:n≤65535):(itoa (n:Int)).size≤6:=by
 have e:Lib.itoa (n:Int)=Lib.decDigits n:=by unfold Lib.itoa;rw [if_neg (by omega)];rfl
 grind [itoa,Lib.decDigits,ByteArray.size]
theorem IP(hR:aw ab) {i:Nat}(hi:i<ab.length):∃n:Nat,n≤65535∧valOf ab aF (aL ab (i:Int))=itoa (n:Int):=by
 have h1:=jd (aF:=aF) hR hi;rw [jc hR hi (iD _ _ _).2] at h1;have hc:=aw.hb hR _ (List.getElem_mem hi);refine⟨_,ru (kind:=ab[i].final) (c:=ab[i].c.toNat) (l:=(fZ (dt ab (aL ab (i:Int))) (valOf ab aF) (dU ab i)).2.map dE) (by omega) (fun x hx=>?_),?_⟩
 ·
  grind [nE]
 grind
theorem Ox(hR:aw ab) {i:Nat}(hi:ab.length≤i):xP ab aF i=⟨#[]⟩:=by
 have hk:aL ab (i:Int)=dn:=by unfold aL;rw [if_pos (by omega)]
 unfold xP uq
 rw [if_neg (by rw [oX hi];simp),hk]
 unfold dt
 rw [if_pos (.inl (by unfold number dn;simp))]
theorem IQ(hR:aw ab) (hi:∀x∈aF,x.value.size≤1000) (k:Key):(valOf ab aF k).size≤1000:=by
 by_cases hk:az k=true
 ·
  unfold valOf cellOf
  rw [if_pos hk]
  unfold cZ
  cases hf:aF.find? fun x=>x.key == k with
  | none=>simp [ByteArray.size]
  | some x=>grind
 have e:valOf ab aF k=xP ab aF (number k).toNat:=by unfold valOf;rw [if_neg hk]
 rw [e]
 rcases Nat.lt_or_ge (number k).toNat ab.length with h | h
 ·
  rw [← jl hR h];obtain⟨n,hn,h2⟩:=IP (aF:=aF) hR h
  grind [vG]
 grind [Ox,ByteArray.size]
theorem zm(ab:List aG) (aF:List dy) (i:Nat):(dX ab aF i).length=dU ab i:=(iD _ _ _).1
theorem tj(hR:aw ab) {i:Nat}(hi:i<ab.length):∀a∈dX ab aF i,gg ab i a:=by
 have key:∀n,n≤dU ab i→∀a∈(fZ (dt ab (aL ab (i:Int))) (valOf ab aF) n).1,gg ab i a:=by
  intro n
  induction n with
  | zero=>intro _ a ha;simp [fZ] at ha
  | succ n ih=>grind [fZ,fA,iD]
 exact key _ (Nat.le_refl _)
theorem gG.valid{k:Key}(h:gG ab k):gN k=true:=by
 cases h with
 | cell h=>
  rename_i n
  have hc:dx (n:Int)=⟨30,itoa (n:Int)⟩:=by unfold dx;rw [if_neg (by omega)]
  rw [hc]
  unfold gN number
  simp only [];rw [if_pos (by omega)]
  grind [mi]
 | gF h lB=>
  rename_i i
  have h1:=dw h lB;have h2:=fK h lB
  unfold gN
  grind
end
section
variable {ab:List aG}{aF:List dy}{s t:ES}{k:Key}
theorem aT{l:List Rec}{r:Rec}(h:aB l k=some r):r∈l∧r.key=k:=by grind [aB]
def qy(ab:List aG) (j:Nat):Nat:=if aD ab j then bY ab j else j
def Lw(ab:List aG) (i b:Nat):Prop:=if aD ab i then bY ab i≤b else i<b
def ahw(ab:List aG) (s:ES) (i:Nat):Prop:=∀j:Nat,j<ab.length→s.on (aL ab (j:Int))=true→Lw ab i (qy ab j)
def ZY(ab:List aG) (s:ES) (i:Nat):Prop:=∀j:Nat,j<ab.length→s.on (aL ab (j:Int))=true→j=i∨Lw ab i (qy ab j)
theorem KD(hR:aw ab) {i:Nat}(hi:i<ab.length) {ah:List ByteArray}(hn:ah.length<dU ab i) :
  ∃a,dt ab (aL ab (i:Int)) ah=⟨false,⟨#[]⟩,a⟩∧gg ab i a∧∀m:Nat,m<ab.length→a=aL ab (m:Int)→Lw ab m (qy ab i)∧∀b,Lw ab i b→Lw ab m b:=by
 have rS:=hR.len;obtain⟨a,h1,h2,h3⟩:=fA hR hi hn;refine⟨a,h1,h2,fun m hm VZ=>?_⟩;have hb:=iv ab m
 cases hr:aD ab i with
 | false=>
  have QK:m<i:=by
   rcases h2 with⟨n,h4,rfl⟩ | ⟨m',h4,rfl,_,h5,_⟩
   ·
    grind [cO,eh]
   grind [fo]
  unfold Lw qy
  grind
 | true=>
  unfold Lw qy
  rw [hr];simp only [if_true]
  cases ZZ:aD ab m with
  | false=>
   have jD:m<bY ab i:=by
    rcases h2 with⟨n,h4,rfl⟩ | ⟨m',h4,rfl,_,_,_,h5⟩
    ·
     grind [cO,eh]
    grind [fo]
   grind
  | true=>
   obtain⟨x,hx,hax⟩:=h3 hr;have kH:=List.mem_of_getElem? hx
   have gE:outside ab x=false:=by grind [kY,bZ]
   obtain⟨kk,Ky,pI,nt⟩:=jL hR hi hr kH gE
   have:=fo hR nt hm (pI.symm.trans (hax.symm.trans VZ))
   subst this;have H4:=mO hR (dT.step dT.refl Ky)
   grind
end
end Go.Rc

namespace Go.Rc
open Go
theorem gH(x:Rec):fI x=true↔(∀a∈x.reads,gN a=true)∧gN x.key=true∧az x.key=false∧(x.value.size:Int)≤1073741824∧(x.reads.length:Int)≤4000∧0≤x.changed∧x.changed≤x.ax∧x.ax≤1073741824∧1≤x.cost∧x.cost≤1073741824∧(x.bS=false∨aA x.key=true):=by
 unfold fI ir
 grind
structure Cz (s:ES):Prop where
 st:vF s.b.ak
 v:∀r∈s.b.ak,fI r=true∧r.ax≤s.b.ae
 r0:0≤s.b.ae
 r1:s.b.ae≤1073741824
section
variable {ab:List aG}{aF:List dy}{val:Key→ByteArray}{s t:ES}{k:Key}
theorem vF.map{l:List Rec}(h:vF l) {f:Rec→Rec}(hf:∀r,(f r).key=r.key):vF (l.map f):=by grind [vF]
theorem Cz.KF(h:Cz s) (g:List Key):Cz {s with b:=dQ s.b g false}:=by
 refine⟨h.st.map fun r=>(dN _ _ _ r).1,fun r hr=>?_,h.r0,h.r1⟩;obtain⟨q,hq,rfl⟩:=List.mem_map.1 hr;obtain⟨h1,h2⟩:=h.v q hq;have h0:=h.r0;have h3:=h.r1
 unfold cL
 by_cases hk:q.key∈g
 ·
  rw [if_pos hk];simp only [Bool.false_eq_true,if_false];rw [gH] at h1 ⊢;obtain⟨a,b,c,d,e,f,g,i,j,k,l⟩:=h1;exact⟨⟨a,b,c,d,e,f,by grind,h3,j,k,l⟩,Int.le_refl _⟩
 rw [if_neg hk];exact⟨h1,h2⟩
theorem Cz.KG(h:Cz s) {g:List Key}(hc:∀x∈g,aA x=true):Cz {s with b:=dQ s.b g true}:=by
 refine⟨h.st.map fun r=>(dN _ _ _ r).1,fun r hr=>?_,h.r0,h.r1⟩;obtain⟨q,hq,rfl⟩:=List.mem_map.1 hr;obtain⟨h1,h2⟩:=h.v q hq
 unfold cL
 by_cases hk:q.key∈g
 ·
  rw [if_pos hk];simp only [if_true];rw [gH] at h1 ⊢;obtain⟨a,b,c,d,e,f,g,i,j,k,l⟩:=h1;exact⟨⟨a,b,c,d,e,f,g,i,j,k,.inr (hc _ hk)⟩,h2⟩
 rw [if_neg hk];exact⟨h1,h2⟩
theorem zn{l:List Rec}{rev:Int}(hk:aA k=true):∀x∈aC l rev k,aA x=true:=fun x hx=>by
 unfold aC at hx
 split at hx
 ·
  rw [rA,List.mem_cons] at hx
  rcases hx with rfl | hx
  ·
   exact hk
  obtain⟨r,hr,rfl⟩:=List.mem_map.1 hx
  have:=(List.mem_filter.1 hr).2
  unfold Gu at this
  simp only [Bool.and_eq_true] at this;have ho:=(mQ.1 this.2.1).iK
  unfold cJ at ho
  grind
 grind
theorem Cz.put(h:Cz s) {r:Rec}{cP:List Key}(hv:fI r=true) (hr:r.ax≤s.b.ae):Cz {s with b:={s.b with ak:=fP s.b.ak r},cP:=cP}:=
 ⟨h.st.put,fun q hq=>by rcases iJ _ _ _ _ hq with rfl | hq;exact⟨hv,hr⟩;exact h.v q hq,h.r0,h.r1⟩
theorem LZ(hR:aw ab) {ah:List ByteArray}(h:jq ab k ah.length) (hd:(aN ab k ah).done=true):(aN ab k ah).value.size≤6:=by
 obtain⟨i,hi,rfl,hn⟩:=h;have rS:=hR.len;rw [gP hi (by omega)] at hd ⊢
 rcases Nat.lt_or_ge ah.length (dU ab i) with dZ | qi
 ·
  grind [fA]
 rw [jc hR hi (by omega)];have hc:=aw.hb hR _ (List.getElem_mem hi);exact vG (ru (by omega) fun x hx=>by grind [nE])
theorem zo(hR:aw ab) (h:Cz s) {ah:List ByteArray}{reads:List Key}(ha:jq ab k ah.length) (hd:(aN ab k ah).done=true) (hl:reads.length=ah.length) (hr:∀a∈reads,gG ab a) :
  fI (dI s.b k (aN ab k ah).value reads)=true:=by
 have h6:=ha.le hR;have hs:=LZ hR ha hd;have h0:=h.r0;have h1:=h.r1;rw [gH]
 unfold dI
 have pP:∀c:Int,(c=if (aB s.b.ak k).isSome && decide ((aH s.b.ak k).value=(aN ab k ah).value) then (aH s.b.ak k).changed else s.b.ae)→0≤c∧c≤s.b.ae:=fun c hc=>by
  split at hc
  ·
   rename_i hf
   simp only [Bool.and_eq_true] at hf;obtain⟨r,ZX⟩:=Option.isSome_iff_exists.1 hf.1;have hm:=(aT ZX).1;obtain⟨h2,h3⟩:=h.v r hm
   grind [gH,aH]
  omega
 obtain⟨h2,h3⟩:=pP _ rfl;exact⟨fun a hm=>(hr a hm).valid,(ha.QL hR).valid,(ha.not hR).2,by grind,by grind,h2,h3,h1,by grind,by grind,.inl rfl⟩
def UpO(ab:List aG) (val:Key→ByteArray) (aF:List dy) (f:Nat):Prop:=∀s k s',mb ab val f s k=some s'→Good ab aF s→Cz s→gG ab k→Cz s'
def ChO(ab:List aG) (val:Key→ByteArray) (aF:List dy) (f:Nat):Prop:=∀s k n s' b,dF ab val f s k n=some (s',b)→Good ab aF s→Cz s→Cz s'
def RuO(ab:List aG) (val:Key→ByteArray) (aF:List dy) (f:Nat):Prop:=∀s k reads ah s',gW ab val f s k reads ah=some s'→Good ab aF s→Cz s→jq ab k ah.length→reads.length=ah.length→(∀a∈reads,gG ab a)→Cz s'
theorem L0(hR:aw ab):∀f,UpO ab val aF f∧ChO ab val aF f∧RuO ab val aF f:=by
 intro f
 induction f with
 | zero=>exact⟨fun s k s' h=>by simp [mb] at h,fun s k n s' b h=>by simp [dF] at h,fun s k r a s' h=>by simp [gW] at h⟩
 | succ f ih=>
  obtain⟨LW,Fz,H6⟩:=ih;have gd:=df (val:=val) (aF:=aF) hR f;refine⟨?_,?_,?_⟩
  ·
   intro s k s' h hg ho hk
   unfold mb at h
   split at h
   ·
    cases h;exact ho
   rename_i he
   split at h
   ·
    cases h;exact ho
   split at h
   ·
    split at h <;> cases h
    ·
     exact ho
    exact⟨ho.st,ho.v,ho.r0,ho.r1⟩
   obtain⟨p,hp,h⟩:=Option.bind_eq_some_iff.1 h;obtain⟨t,ht,h⟩:=Option.bind_eq_some_iff.1 h
   cases h
   have h1:=Fz _ _ _ p.1 p.2 (by rw [hp]) (hg.on k) ⟨ho.st,ho.v,ho.r0,ho.r1⟩;have pW:=(gd.2.1 _ _ _ p.1 p.2 (by rw [hp]) (hg.on k)).1
   have h3:Cz t:=by
    split at ht
    ·
     exact H6 _ _ _ _ _ ht pW h1 (hk.jE (by simp at he;exact he.2)) rfl (fun a ha=>by cases ha)
    cases ht;exact h1
   exact⟨h3.st,h3.v,h3.r0,h3.r1⟩
  ·
   intro s k n s' b h hg ho
   unfold dF at h
   split at h
   ·
    cases h;exact ho
   split at h
   ·
    cases h;exact ho
   split at h
   ·
    cases h;exact ho
   split at h
   ·
    cases h;exact ho.KF _
   rename_i c hc
   split at h
   ·
    obtain⟨t,ht,h⟩:=Option.bind_eq_some_iff.1 h;have h1:=LW _ _ _ ht hg ho (iE hg hc);exact Fz _ _ _ _ _ h (gd.1 _ _ _ ht hg (iE hg hc)).1 h1
   split at h
   ·
    split at h
    ·
     rename_i tk
     cases h
     exact ho.KG (zn tk)
    cases h;exact ho
   exact Fz _ _ _ _ _ h hg ho
  intro s k reads ah s' h hg ho ha hl hr
  unfold gW at h
  split at h
  ·
   cases h;exact ho
  split at h
  ·
   rename_i hd
   split at h
   ·
    cases h;exact⟨ho.st,ho.v,ho.r0,ho.r1⟩
   cases h
   exact ho.put (zo hR ho ha hd hl hr) (Int.le_refl _)
  rename_i hd
  obtain⟨t,ht,h⟩:=Option.bind_eq_some_iff.1 h;have hn:=ha.next hR (by simpa using hd);have h1:=LW _ _ _ ht hg ho hn.2;have pW:=(gd.1 _ _ _ ht hg hn.2).1
  split at h
  ·
   exact H6 _ _ _ _ _ h pW h1 (by simpa using hn.1) (by simp [hl]) (fun a ha=>by grind)
  exact H6 _ _ _ _ _ h pW h1 ha hl hr
theorem Gx(hR:aw ab) {f:Nat}:∀{l:List Key}{s s':ES},eD ab val f s l=some s'→Good ab aF s→Cz s→(∀k∈l,gG ab k)→Cz s'
 | [],s,s',h,_,ho,_=>by grind [eD]
 | k::r,s,s',h,hg,ho,hk=>by
  simp only [eD] at h;obtain⟨t,h1,h2⟩:=Option.bind_eq_some_iff.1 h
  exact Gx hR h2 ((df (val:=val) hR f).1 _ _ _ h1 hg (hk k (by simp))).1 ((L0 hR f).1 _ _ _ h1 hg ho (hk k (by simp))) fun k Nd=>hk k (by simp [Nd])
end
end Go.Rc

namespace Go.Rc
open Go
theorem IU{α:Type}{R:α→α→Prop}(ht:∀a b c,R a b→R b c→R a c) {l:List α}(h:∀(i:Nat) (hi:i+1<l.length),R (l[i]'(by omega)) l[i+1]):l.Pairwise R:=by
 refine List.pairwise_iff_getElem.2 fun i j hi hj hij=>?_;obtain⟨d,rfl⟩:∃d,j=i+1+d:=⟨j - (i+1),by omega⟩
 induction d with
 | zero=>exact h i hj
 | succ d ih=>grind
def xQ(l:List dy):Prop:=l.Pairwise fun a b=>cv a.key b.key<0
def RA(rev:Int) (x:dy):Prop:=gN x.key=true∧az x.key=true∧(x.value.size:Int)≤1073741824∧0≤x.changed∧x.changed≤rev
theorem IV{rev:Int}{l:List dy}:DD rev l↔xQ l∧∀x∈l,RA rev x:=by
 constructor
 ·
  intro h
  have h1:∀(i:Nat) (hi:i<l.length),RA rev l[i]∧(0<i→cv (l[i - 1]!).key l[i].key<0):=fun i hi=>by
   have h2:=h i _ (ao hi)
   unfold jK at h2
   simp only [getElem!_pos l i hi,Bool.or_eq_false_iff,Bool.not_eq_false',Bool.and_eq_false_iff,decide_eq_false_iff_not] at h2;obtain⟨a,b,c,d,e,f⟩:=h2;exact⟨⟨a,b,by omega,by omega,by omega⟩,fun h0=>by rcases c with c | c <;> omega⟩
  refine⟨IU (R:=fun a b:dy=>cv a.key b.key<0) (fun a b c h k=>jP h k) fun i hi=>?_,fun x hx=>?_⟩
  ·
   grind
  grind [List.mem_iff_getElem]
 rintro⟨h1,h2⟩ i y hy;obtain⟨hi,rfl⟩:=List.getElem?_eq_some_iff.1 hy;obtain⟨a,b,c,d,e⟩:=h2 _ (List.getElem_mem hi)
 unfold jK
 simp only [getElem!_pos l i hi,Bool.or_eq_false_iff,Bool.not_eq_false',Bool.and_eq_false_iff,decide_eq_false_iff_not];refine⟨a,b,?_,by omega,by omega,by omega⟩
 by_cases h0:0<i
 ·
  right
  rw [getElem!_pos l (i - 1) (by omega)]
  have:=List.pairwise_iff_getElem.1 h1 (i - 1) i (by omega) hi (by omega)
  omega
 left
 omega
def ig(n:dy):List dy→Bool→List dy
 | [],put=>if put then [] else [n]
 | x::xs,put=>(if decide (0≤cv x.key n.key) && !put then [n] else [])++(if cv x.key n.key=0 then [] else [x])++ig n xs (put || decide (0≤cv x.key n.key))
theorem zq(n:dy):∀(l:List dy) (b:Bool) (x:dy),x∈ig n l b→x=n∨x∈l:=by
 intro l
 induction l with
 | nil=>grind [ig]
 | cons y ys ih=>grind [ig]
theorem vH(n:dy):∀l:List dy,ig n l true=l.filter fun x=>!decide (cv x.key n.key=0)
 | []=>rfl
 | x::xs=>by
  simp only [ig,Bool.not_true,Bool.and_false,Bool.false_eq_true,if_false,Bool.true_or,List.nil_append,vH n xs,List.filter_cons]
  grind
theorem qz(n:dy):∀(l:List dy) (b:Bool),(ig n l b).length≤l.length+1
 | [],b=>by cases b <;> simp [ig]
 | x::xs,b=>by
  by_cases h:(decide (0≤cv x.key n.key) && !b)=true
  ·
   have hb:(b || decide (0≤cv x.key n.key))=true:=by simp at h;simp [h.1]
   simp only [ig,List.length_append,List.length_cons];rw [if_pos h,hb,vH]
   grind
  have ih:=qz n xs (b || decide (0≤cv x.key n.key));simp only [ig,List.length_append,List.length_cons]
  grind
theorem xQ.put{n:dy}:∀{l:List dy},xQ l→xQ (ig n l false)
 | [],_=>by simp [xQ,ig]
 | x::xs,h=>by
  obtain⟨h1,h2⟩:=List.pairwise_cons.1 h;have ih:xQ (ig n xs false):=xQ.put h2;have hf:xQ (xs.filter fun y=>!decide (cv y.key n.key=0)):=List.Pairwise.filter _ h2
  show xQ (ig n (x::xs) false)
  simp only [ig,Bool.not_false,Bool.and_true,Bool.false_or]
  by_cases c1:cv x.key n.key<0
  ·
   rw [decide_eq_false (show ¬0≤cv x.key n.key by omega),if_neg (show ¬cv x.key n.key=0 by omega)];simp only [Bool.false_eq_true,if_false,List.nil_append,List.singleton_append];refine List.pairwise_cons.2 ⟨fun y hy=>?_,ih⟩
   grind [zq]
  rw [decide_eq_true (show 0≤cv x.key n.key by omega),vH];simp only [if_true]
  by_cases c2:cv x.key n.key=0
  ·
   rw [if_pos c2];simp only [List.append_nil,List.singleton_append];refine List.pairwise_cons.2 ⟨fun y hy=>?_,hf⟩
   grind [pd]
  rw [if_neg c2];simp only [List.singleton_append,List.cons_append]
  have c3:cv n.key x.key<0:=by rw [k9 x.key n.key];omega
  refine List.pairwise_cons.2 ⟨fun y hy=>?_,List.pairwise_cons.2 ⟨fun y hy=>h1 y (List.mem_filter.1 hy).1,hf⟩⟩
  grind [jP]
end Go.Rc

namespace Go.Rc
open Go
def RB(r:aG):Prop:=r.ring=false∧r.asks=[]∧r.final=1∧0≤r.c∧r.c≤99
theorem RB.key{ab:List aG}{i:Nat}(hi:i<ab.length) (lB:i≤99) (h:RB ab[i]):aL ab (i:Int)=⟨31,itoa i⟩:=by
 unfold aL
 rw [if_neg (by omega)]
 simp [cM hi,h.1]
end Go.Rc
namespace Go.Rc
open Go
def V0(i:Nat) (v:ByteArray):Rec:=⟨⟨31,itoa i⟩,v,[],0,0,1,false⟩
def CB{α:Type}(l:List α) (p:α→Bool) (j:Int):Prop:=(∃i:Nat,∃x,l[i]?=some x∧p x=true∧(∀j x,j<i→l[j]?=some x→p x=false)∧j=i)∨((∀x∈l,p x=false)∧j = -1)
end Go.Rc
namespace Go.Rc
open Go
structure WD where
 (ar a1 a2:Option Addr) (r cr n1 c1 n2 c2 m v:Nat)
end Go.Rc

namespace Go.Rc
open Go
def Br(a b:Int):Int:=if a<b then -1 else if b<a then 1 else 0
def V2(l:List Int):Int:=(l.find? fun x=>decide (x≠0)).getD 0
theorem V3{l:List Int}{i:Nat}(hi:i<l.length) (gR:∀j x,j<i→l[j]?=some x→x=0) (h:l[i]≠0):V2 l=l[i]:=by grind [V2,lE]
theorem RC{l:List Int}(h:∀x∈l,x=0):V2 l=0:=by grind [V2,List.find?_eq_none]
theorem RD{a b:Key}:V2 [Br a.kind b.kind,Lib.compareBytes a.text.data.toList b.text.data.toList]=cv a b:=by
 unfold V2 Br cv
 grind
theorem Gy{α:Type}{R:α→List Value→Prop}{x y:α}{r s:List Value}(h1:R x r) (h2:R y s):∀(i:Nat) (z:α) (t:List Value),[x,y][i]?=some z→[r,s][i]?=some t→R z t:=fun i z t hz ht=>by grind
theorem gG.shape{ab:List aG}{k:Key}(h:gG ab k):∃i:Nat,i≤99∧k.text=itoa i∧(30≤k.kind∧k.kind≤32):=by
 cases h with
 | cell h=>rename_i n;exact⟨n,h,by unfold dx;rw [if_neg (by omega)],by unfold dx;rw [if_neg (by omega)];simp⟩
 | gF h lB=>rename_i i;exact⟨i,lB,by unfold aL;rw [if_neg (by omega)],by grind [fK]⟩
theorem gG.gT{ab:List aG}{k:Key}(h:gG ab k):gT k:=by
 obtain⟨_,_,_,h1⟩:=h.shape;exact .inr (by omega)
theorem uv{ab:List aG}{k:Key}(h:gG ab k) (hc:aA k=true):k.kind=32:=by
 cases h with
 | cell h=>grind [mN]
 | gF h lB=>grind [bZ,fK]
theorem CB.any{α:Type}{l:List α}{p:α→Bool}{j:Int}(h:CB l p j):decide (0≤j)=l.any p:=by
 rcases h with⟨i,x,h1,h2,_,rfl⟩ | ⟨h1,rfl⟩
 ·
  grind
 grind
def Oy(ab:List aG) (x:Rec):Prop:=gG ab x.key∧az x.key=false∧(∀a∈x.reads,gG ab a)∧fI x=true
def qA(ab:List aG) (x:dP):Prop:=0≤x.ae∧x.ae≤1073741824∧(xQ x.ad∧∀y∈x.ad,RA x.ae y)∧(∀y∈x.ad,∃i:Nat,i≤99∧y.key=⟨30,itoa i⟩)∧x.ad.length≤64∧(∀r∈x.ak,Oy ab r)∧vF x.ak∧x.ak.length≤4000∧∀r∈x.ak,r.ax≤x.ae
end Go.Rc

namespace Go.Rc
open Go
section
variable {l l':List aG}
def da(l l':List aG):Prop:=l.map (·.ring)=l'.map (·.ring)
theorem da.len(h:da l l'):l.length=l'.length:=by simpa using congrArg List.length h
theorem da.rg(h:da l l') (i:Nat):aD l i=aD l' i:=by
 have h2:=congrArg (fun x=>x[i]?) h
 grind [aD]
theorem da.lo(h:da l l'):∀k,bY l k=bY l' k
 | 0=>rfl
 | k+1=>by unfold bY;rw [h.rg k,h.lo k]
theorem pJ:∀{l l':List aG},da l l'→(l.takeWhile (·.ring)).length=(l'.takeWhile (·.ring)).length
 | [],[],_=>rfl
 | [],_::_,h=>by simp [da] at h
 | _::_,[],h=>by simp [da] at h
 | x::r,y::s,h=>by
  simp only [da,List.map_cons,List.cons.injEq] at h;have ih:=pJ (l:=r) (l':=s) h.2
  grind [List.takeWhile_cons]
theorem da.hi(h:da l l') (m:Nat):eW l m=eW l' m:=by grind [eW,pJ,da,List.map_drop]
theorem da.block(h:da l l') (n:Int):block l n=block l' n:=by
 unfold Go.Rc.block
 rw [h.len,h.rg,h.lo,h.hi]
theorem da.may(h:da l l') (i:Nat) (c:Bool) (n:Int):iC l i c n=iC l' i c n:=by grind [iC,gO,rg,block]
theorem da.ask(h:da l l') (i:Nat) (g:Bool) (k:Nat) (x:Ask):gD l i g k x=gD l' i g k x:=by
 unfold gD
 rw [h.may,h.may]
theorem da.gF(h:da l l') (i:Nat) (r:aG):o0 l i r↔o0 l' i r:=by
 unfold o0
 simp only [h.ask]
theorem da.set{i:Nat}(hi:i<l.length) {r:aG}(hr:r.ring=aD l i):da (l.set i r) l:=by
 unfold da
 rw [List.map_set,hr,cM hi];refine List.ext_getElem? fun j=>?_
 grind
def nT(l:List aG) (i:Nat):Prop:=l.length≤8∧∀(j:Nat) (r:aG),l[j]?=some r→j<i→o0 l j r
theorem nT.start(h:l.length≤8):nT l 0:=⟨h,fun _ _ _ h=>by omega⟩
theorem nT.set{i:Nat}(h:nT l i) (hi:i<l.length) {r:aG}(hr:r.ring=aD l i) (ho:o0 l i r):nT (l.set i r) (i+1):=by
 have hs:=da.set hi hr;refine⟨by rw [List.length_set];exact h.1,fun j x hx hj=>?_⟩;rw [hs.gF];rw [List.getElem?_set] at hx
 split at hx
 ·
  grind
 exact h.2 j x hx (by omega)
theorem nT.ok(h:nT l l.length):aw l:=⟨by have:=h.1;omega,fun i r hr=>h.2 i r hr (List.getElem?_eq_some_iff.1 hr).1⟩
theorem V4{i k:Nat}{g:Bool}{x:Ask}{most:Int}(hm:most=if x.cell then 4 else gO l i) (h0:0≤x.n) (h1:x.n<most) (hp:x.pick=true→g=false∧k≠0∧0≤x.Ip∧x.Ip<most) (he:x.pick=false→x.Ip=0):gD l i g k x=true:=by grind [iC,gD]
end
end Go.Rc

namespace Go.Rc
open Go
def As.jt(E d:Nat):As where
 fp x:=x=d
 ok Z w:=Iv Z w E d
 lt h x hx:=by subst hx;exact h.lt
 mono hZ h:=by
  obtain⟨l,a,n,c,t,h1,h2,h3⟩:=h;exact⟨l,a,n,c,t,h1,SR.mono h2 (fun b hb _=>hZ b hb) (fun _ _ h=>h),h3⟩
 st hs hc h:=by
  obtain⟨l,a,n,c,t,h1,h2,h3⟩:=h;exact⟨l,a,n,c,t,(As.blk d E _).st (Z:=fun _=>False) hs (fun x hx=>hc x (hx.imp id False.elim)) h1,SR.st hs (fun x hx=>hc x (.inr hx)) (fun _ _ h=>h) h2,h3⟩
theorem As.gd{E d:Nat}{Z:Nat→Prop}{w:World}(h:(As.jt E d).ok Z w):Iv Z w E d:=h
def RR.cW:RR Change:=RR.flat Change.cells
def begun(g:Bool):aG:=⟨g,[],0,0⟩
theorem Ow.flat{α:Type}{f:α→List Value}{b T k n:Nat}{Z:Nat→Prop}{w:World}{xs:List α}{l:List Value}(h:cV w b T l) (hl:l=(xs.map f).flatten) (hk:∀x∈xs,(f x).length=k) (h1:∀u∈l,u.oneCell'=true) (hn:n=xs.length) (hm:xs.length≤140737488355328) :
  Ow (RR.flat f) T k Z w (some ⟨b,0,none⟩) n n xs:=by
 subst hn hl
 have hlen:∀(ys:List α),(∀x∈ys,(f x).length=k)→(ys.map f).flatten.length=ys.length*k:=by
  intro ys
  induction ys with
  | nil=>simp
  | cons y ys ih=>grind
 refine⟨rfl,xs.map f,by simp,by simpa using hk,by simpa using OL.blk (k:=k) h (Nat.zero_le _) (m:=xs.length) (hlen xs hk) h1 hm,fun i x r hx hr=>?_⟩;rw [List.getElem?_map,hx] at hr
 simp at hr
 exact hr.symm
def As.ahx{ι:Type}(b T:Nat) (F:ι→List Value):As where
 fp x:=x=b
 ok _ w:=∃i,cV w b T (F i)
 lt h x hx:=by obtain⟨i,h⟩:=h;subst hx;exact h.lt
 mono _ h:=h
 st hs hc h:=by obtain⟨i,h⟩:=h;exact⟨i,(As.blk b T _).st (Z:=fun _=>False) hs (fun x hx=>hc x (hx.imp id False.elim)) h⟩
theorem Ow.ring{E n c i b:Nat}{Z:Nat→Prop}{w:World}{a:Option Addr}{l:List aG}(h:Ow RR.gF E 4 Z w a n c l) (ha:a=some ⟨b,0,none⟩) (hle:l.length≤140737488355328) (hi:i<l.length):w.rangeAt b (0+i*4) [.bool l[i].ring]:=by
 obtain⟨b',r,h1,_,h3,h4⟩:=Ow.at h hle (ao hi);rw [ha] at h1;simp only [Option.some.injEq,Addr.mk.injEq,and_true] at h1;subst h1;obtain⟨a',n',c',rfl,_⟩:=h3;intro j v hv
 cases j with
 | zero=>exact h4 0 v hv
 | succ j=>simp at hv
theorem DL(l:List aG) (m:Nat) (hm:m≤l.length):eW l m≤l.length:=by grind [eW,List.takeWhile_sublist]
theorem Bs{l:List aG}{i:Nat}(hi:i<l.length):0≤gO l i∧gO l i≤l.length:=by
 have h1:=DL l (i+1) (by omega)
 have hb:block l (i:Int)=if aD l i then ((bY l i:Int),(eW l (i+1):Int)) else ((i:Int),(i:Int)+1):=by
  unfold block;grind
 grind [gO]
theorem L4{l:List aG}{i:Nat}{g:Bool}{xs:List Ask}{x:Ask}(h:∀(k:Nat) y,xs[k]?=some y→gD l i g k y=true) (hx:gD l i g xs.length x=true):∀(k:Nat) y,(xs++[x])[k]?=some y→gD l i g k y=true:=fun k y hy=>by grind
end Go.Rc

namespace Go.Rc
open Go
theorem vF.ne{l:List Rec}(h:vF l) {i:Nat}(hi:i<l.length):∀y∈l.take i,y.key≠l[i].key:=fun y hy e=>by
 obtain⟨j,hj,rfl⟩:=List.mem_iff_getElem.1 hy
 have lV:j<i:=by simp at hj;omega
 have h1:cv l[j].key l[i].key<0:=List.pairwise_iff_getElem.1 h j i (by omega) hi lV
 grind [k9]
end Go.Rc

namespace Go.Rc
open Go
section
variable {κ:Type}{enc:κ→Value}
def QQ(enc:κ→Value) (w:World) (b m:Nat) (l left:List (κ × Value)) (cur:Option (κ × Value)):Prop:=
 ∃es clock since seen,w.heap[m]?=some (.map es clock)∧(es.toList.map (fun e=>(e.key,e.val))=l.map (fun p=>(enc p.1,p.2))∧(l.map (·.1)).Nodup∧(∀e∈es.toList,e.born<clock)∧(es.toList.map (·.born)).Nodup)∧
  w.heap[b]?=some (.mapIter (some m) since seen clock)∧b≠m∧since≤clock∧(∀e∈es.toList,e.born<since)∧
  (leftOf es seen).toList.map (fun e=>(e.key,e.val))=left.map (fun p=>(enc p.1,p.2))∧
  ∀p,cur=some p→∃e∈es.toList,seen.back?=some e.born∧e.key=enc p.1∧e.val=p.2
variable {w w':World}{b m:Nat}{l left:List (κ × Value)}{cur:Option (κ × Value)}
theorem QQ.lt(h:QQ enc w b m l left cur):b<w.heap.size∧m<w.heap.size:=by
 obtain⟨es,clock,since,seen,h1,_,h3,_⟩:=h;exact⟨(Array.getElem?_eq_some_iff.1 h3).1,(Array.getElem?_eq_some_iff.1 h1).1⟩
def As.mit(enc:κ→Value) (b m:Nat) (l left:List (κ × Value)) (cur:Option (κ × Value)):As where
 fp x:=x=b∨x=m
 ok _ w:=QQ enc w b m l left cur
 lt h x hx:=by rcases hx with rfl | rfl;exact h.lt.1;exact h.lt.2
 mono _ h:=h
 st hs hc h:=by
  have hl:=h.lt;obtain⟨es,clock,since,seen,h1,h2,h3,h4⟩:=h;exact⟨es,clock,since,seen,by rw [hc m (.inl (.inr rfl)) hl.2];exact h1,h2,by rw [hc b (.inl (.inl rfl)) hl.1];exact h3,h4⟩
theorem As.abu{Z:Nat→Prop}(h:(As.mit enc b m l left cur).ok Z w):QQ enc w b m l left cur:=h
def CC(enc:κ→Value):Option (κ × Value)→Array Value
 | none=>#[.bool false]
 | some p=>#[.bool true,enc p.1,p.2]
theorem RF(r:Option (κ × Value)):(CC enc r)[0]?=some (.bool r.isSome):=by cases r <;> rfl
theorem pK:∀(L:List MapEntry) (j:Nat) (e:MapEntry),(L.map (·.born)).Nodup→L[j]?=some e→L.filter (fun x=>!(x.born == e.born))=L.eraseIdx j
 | [],_,_,_,h=>by simp at h
 | x::r,0,e,hn,h=>by
  simp at h
  subst h;simp only [List.map_cons,List.nodup_cons] at hn;rw [List.filter_cons];simp only [beq_self_eq_true,Bool.not_true,Bool.false_eq_true,if_false,List.eraseIdx_zero,List.tail_cons];refine List.filter_eq_self.2 fun y hy=>?_
  have:y.born≠x.born:=fun e=>hn.1 (e ▸ List.mem_map.2 ⟨y,hy,rfl⟩)
  simpa using this
 | x::r,j+1,e,hn,h=>by
  simp only [List.map_cons,List.nodup_cons] at hn;simp only [List.getElem?_cons_succ] at h;have hx:x.born≠e.born:=fun h2=>hn.1 (h2 ▸ List.mem_map.2 ⟨e,List.mem_of_getElem? h,rfl⟩);rw [List.filter_cons,if_pos (by simpa using hx),pK r j e hn.2 h,List.eraseIdx_cons_succ]
theorem Gz(es:Array MapEntry) (seen:Array Nat) (b:Nat):(leftOf es (seen.push b)).toList=(leftOf es seen).toList.filter fun x=>!(x.born == b):=by
 unfold leftOf
 rw [Array.toList_filter,Array.toList_filter,List.filter_filter]
 congr 1
 funext x
 rw [Array.contains_push,Bool.not_or,Bool.and_comm]
theorem map_eraseIdx{α β:Type}(f:α→β):∀(l:List α) (j:Nat),(l.eraseIdx j).map f=(l.map f).eraseIdx j
 | [],_=>by simp
 | _::_,0=>by simp
 | x::r,j+1=>by simp [map_eraseIdx f r j]
variable {P:Program}{kv:KV}{n:Nat}{K:KV→World→Prop}{d:Tmp}{ty:TypeId}{pos:String}{af:Array Edge}{g:Option (Nat × Bool)}{T kt e:TypeId}{x:Operand}
theorem OX.range(hT:P.underlying T=some (.map kt e)) (hm:KM enc w m l) (hx:ev kv x=some (.map (some m))) (hd:Nat.blt d n=true)
  (h:∀b w',aV [] w w'→w.heap.size≤b→QQ enc w' b m l l none→K ((d,.pointer (some ⟨b,0,none⟩))::kv) w'):OX P ⟨some d,.range T x,ty,pos,af,g⟩ n kv w K:=by
 obtain⟨es,clock,h1,h2⟩:=hm;have dZ:m<w.heap.size:=(Array.getElem?_eq_some_iff.1 h1).1;refine⟨rfl,hd,by simp [known,opers,hx],?_⟩
 have hr:(execOp (lX kv) ⟨some d,.range T x,ty,pos,af,g⟩).run P w=.ok (.value (.pointer (some ⟨w.heap.size,0,none⟩))) (w.alloc (.mapIter (some m) clock #[] clock)):=by
  simp only [execOp,aK hx,Sem.run_bind,run_range_map w T kt e m es clock hT h1,Result.andThen_ok];rfl
 rw [hr];refine h _ _ (mw _ _) (Nat.le_refl _) ⟨es,clock,clock,#[],by rw [heap_alloc_old w _ (h:=dZ)];exact h1,h2,heap_alloc_new _ _,by omega,Nat.le_refl _,h2.2.2.1,?_,fun p hp=>by cases hp⟩
 have:leftOf es #[]=es:=by unfold leftOf;simp
 rw [this];exact h2.1
theorem L5(hm:QQ enc w b m l left cur):∃(r:Option (κ × Value)) (wV:List (κ × Value)) (w':World),(Instr.next (.pointer (some ⟨b,0,none⟩)) false ty).run P w=.ok (.tuple (CC enc r)) w'∧aV [b] w w'∧
  (match r with | none=>left=[]∧wV=[] | some p=>∃j,left[j]?=some p∧wV=left.eraseIdx j)∧QQ enc w' b m l wV r:=by
 obtain⟨es,clock,since,seen,h1,h2,h3,h4,h5,h6,h7,h8⟩:=hm;have dZ:b<w.heap.size:=(Array.getElem?_eq_some_iff.1 h3).1
 have j4:∀y∈(leftOf es seen).toList,y∈es.toList:=fun y hy=>by
  unfold leftOf at hy
  rw [Array.toList_filter] at hy;exact(List.mem_filter.1 hy).1
 have TZ:=next_test_false seen es since clock h6 h5
 have e1:(leftOf es seen).filter (fun x=>decide (x.born<since))=leftOf es seen:=Array.filter_eq_self.2 fun y hy=>by
  have:=h6 y (j4 y (by simpa using hy))
  simpa using this
 have e2:(leftOf es seen).filter (fun x=>decide (x.born≥since))=#[]:=by
  rw [Array.filter_eq_empty_iff];intro y hy
  have:=h6 y (j4 y (by simpa using hy))
  simp
  omega
 have hlen:(leftOf es seen).size=left.length:=by simpa using congrArg List.length h7
 by_cases h0:(leftOf es seen).size=0
 ·
  have hL:leftOf es seen=#[]:=Array.eq_empty_of_size_eq_zero h0
  have Ls:left=[]:=by cases left with
   | nil=>rfl
   | cons a r=>rw [h0] at hlen;simp at hlen
  subst Ls;refine⟨none,[],w,?_,aV.refl _ _,⟨rfl,rfl⟩,es,clock,since,seen,h1,h2,h3,h4,h5,h6,h7,fun p hp=>by cases hp⟩;simp only [Instr.next,getObj,Sem.run_bind,Sem.run,h3,h1,Result.andThen,TZ,Bool.false_eq_true,if_false];rw [show(es.filter fun e=>!seen.contains e.born)=leftOf es seen from rfl,hL]
  simp [choose,Sem.run,Question.forced,CC]
 have kV:(leftOf es seen).isEmpty=false:=by simp [Array.isEmpty,h0]
 have pP:∃(j:Nat) (w1:World),j<(leftOf es seen).size∧w1.heap=w.heap∧aV [] w w1∧(choose (Question.mapNext (leftOf es seen).size)).run P w=.ok j w1:=by
  by_cases hf:(leftOf es seen).size≤1
  ·
   exact⟨0,w,by omega,rfl,aV.refl _ _,by simp [choose,Sem.run,Question.forced,hf]⟩
  exact⟨_,w.drew,Nat.mod_lt _ (by omega),rfl,⟨rfl,rfl,rfl,Nat.le_refl _,Nat.le_succ _,fun _ _ _=>rfl⟩,by
   simp only [choose,Sem.run,Question.forced,decide_eq_true_eq,hf,if_false,Question.cut]
   rfl⟩
 obtain⟨j,w1,hj,hh,hc1,kG⟩:=pP;obtain⟨y,hy⟩:∃y,(leftOf es seen)[j]?=some y:=⟨_,Array.getElem?_eq_getElem hj⟩
 have Nb:(leftOf es seen).toList[j]?=some y:=by rw [Array.getElem?_toList];exact hy
 have hye:y∈es.toList:=j4 y (List.mem_of_getElem? Nb);obtain⟨p,hp⟩:∃p,left[j]?=some p:=⟨_,List.getElem?_eq_getElem (by omega)⟩
 have hpe:(y.key,y.val)=(enc p.1,p.2):=by
  have:=congrArg (fun x=>x[j]?) h7
  simp only [List.getElem?_map,Nb,hp,Option.map_some,Option.some.injEq] at this;exact this
 simp only [Prod.mk.injEq] at hpe
 have F5:((leftOf es seen).toList.map (·.born)).Nodup:=by
  unfold leftOf
  rw [Array.toList_filter];exact(List.filter_sublist.map _).nodup h2.2.2.2
 refine⟨some p,left.eraseIdx j,{w1 with heap:=w1.heap.setIfInBounds b (.mapIter (some m) since (seen.push y.born) clock)},?_,?_,⟨j,hp,rfl⟩,es,clock,since,seen.push y.born,?_,h2,?_,h4,h5,h6,?_,?_⟩
 ·
  simp only [Instr.next,getObj,Sem.run_bind,Sem.run,h3,h1,Result.andThen,TZ,Bool.false_eq_true,if_false];rw [show(es.filter fun e=>!seen.contains e.born)=leftOf es seen from rfl,e1,e2];simp only [kV,Bool.false_eq_true,if_false,Array.empty_append,Array.append_empty,Array.size_map,kG,Array.getElem?_map,hy,Option.map_some]
  have yE:(setObj b (.mapIter (some m) since (seen.push y.born) clock)).run P w1=.ok () {w1 with heap:=w1.heap.setIfInBounds b (.mapIter (some m) since (seen.push y.born) clock)}:=by
   simp only [setObj,Sem.run];rw [hh,h3]
  simp only [Sem.run_bind,yE,Result.andThen,CC,hpe.1,hpe.2]
  try rfl
 ·
  have:=kg w1 b (.mapIter (some m) since (seen.push y.born) clock)
  exact aV.trans (aV.mono hc1 (by simp)) this
 ·
  show(w1.heap.setIfInBounds b _)[m]?=_
  rw [hh,Array.getElem?_setIfInBounds_ne h4];exact h1
 ·
  show(w1.heap.setIfInBounds b _)[b]?=_
  rw [hh,Array.getElem?_setIfInBounds_self]
  simp [dZ]
 ·
  rw [Gz,pK _ j y F5 Nb,map_eraseIdx,map_eraseIdx,h7]
 intro q hq;simp only [Option.some.injEq] at hq;subst hq;exact⟨y,hye,Array.back?_push,hpe.1,hpe.2⟩
theorem OX.next(hm:QQ enc w b m l left cur) (hx:ev kv x=some (.pointer (some ⟨b,0,none⟩))) (hd:Nat.blt d n=true)
  (h:∀r wV w',aV [b] w w'→(match r with | none=>left=[]∧wV=[] | some p=>∃j,left[j]?=some p∧wV=left.eraseIdx j)→QQ enc w' b m l wV r→K ((d,.tuple (CC enc r))::kv) w'):OX P ⟨some d,.next x false,ty,pos,af,g⟩ n kv w K:=by
 obtain⟨r,wV,w',h1,h2,h3,h4⟩:=L5 (P:=P) (ty:=ty) hm;refine⟨rfl,hd,by simp [known,opers,hx],?_⟩
 have hr:(execOp (lX kv) ⟨some d,.next x false,ty,pos,af,g⟩).run P w=.ok (.value (.tuple (CC enc r))) w':=by
  simp only [execOp,aK hx,Sem.run_bind,h1,Result.andThen_ok];rfl
 rw [hr];exact h _ _ _ h2 h3 h4
theorem PV.entry{p:κ × Value}(hm:QQ enc w b m l left (some p)) (hx:ev kv x=some (.pointer (some ⟨b,0,none⟩))):PV P (.entry x) ty kv w (.tuple #[enc p.1,p.2]):=by
 obtain⟨es,clock,since,seen,h1,h2,h3,_,_,_,_,h8⟩:=hm;obtain⟨y,hy,hb,hk,hv⟩:=h8 p rfl;refine⟨rfl,by simp [known,opers,hx],fun _ _ _ _=>?_⟩
 have hf:es.find? (·.born == y.born)=some y:=by rw [← Array.find?_toList];exact find_born y es.toList h2.2.2.2 hy
 have:(Instr.entry (.pointer (some ⟨b,0,none⟩))).run P w=.ok (.tuple #[enc p.1,p.2]) w:=by
  simp only [Instr.entry,getObj,Sem.run_bind,Sem.run,h3,h1,hb,Result.andThen,bne_self_eq_false,Bool.false_eq_true,if_false,hf,hk,hv]
  rfl
 simp only [execOp,aK hx,Sem.run_bind,this,Result.andThen_ok]
 rfl
end
end Go.Rc

namespace Go.Rc
open Go
theorem pL{α:Type}:∀{l:List α}{j:Nat}{p q:α},l[j]?=some p→q∈l→q=p∨q∈l.eraseIdx j
 | [],_,_,_,_,h=>by cases h
 | x::r,0,p,q,h,hq=>by grind
 | x::r,j+1,p,q,h,hq=>by
  rcases List.mem_cons.1 hq with rfl | hq
  ·
   exact .inr (by simp)
  rcases pL (l:=r) (by simpa using h) hq with h1 | h1
  ·
   exact .inl h1
  exact .inr (by simp [h1])
section
variable {ab:List aG}{aF:List dy}
theorem pU.bR(hR:aw ab) {i0:Nat}{L:List Nat}{u:Nat→Nat}{am:List (Key × Value)}(h:pU ab L u am) (hn:(am.map (·.1)).Nodup) (hr:eK ab aF i0 L u) (hd:∀j∈L,u j=rv ab aF j) :
  ∀p∈am,p.2=.string (valOf ab aF p.1):=fun p hp=>by
 have hg:bX am p.1=some p.2:=(F2 hn).2 hp
 by_cases hk:∃j∈L,p.1=aL ab (j:Int)
 ·
  obtain⟨j,hj,e⟩:=hk;obtain⟨mK,y8⟩:=hr.ring j hj;rw [e,h.1 j hj] at hg
  grind [jl,jX]
 rw [h.2 p.1 fun j hj e=>hk ⟨j,hj,e⟩] at hg
 cases hg
theorem pU.first{i0:Nat}{L:List Nat}{u:Nat→Nat}{am:List (Key × Value)}(h:pU ab L u am) (hn:(am.map (·.1)).Nodup) (hr:eK ab aF i0 L u):∃p∈am,p.1=aL ab (i0:Int):=
 ⟨(_,_),(F2 hn).1 (h.1 i0 hr.first),rfl⟩
theorem Oz{am left ml:List (Key × Value)}{j:Nat}{p:Key × Value}(hd:∀q∈am,q∈left∨bX ml q.1=some q.2) (he:∀q∈am,q.2=.string (valOf ab aF q.1)) (hj:left[j]?=some p) :
  ∀q∈am,q∈left.eraseIdx j∨bX (dC ml p.1 (.string (valOf ab aF p.1))) q.1=some q.2:=fun q hq=>by
 rw [fy]
 by_cases e:p.1=q.1
 ·
  grind
 rw [if_neg e]
 rcases hd q hq with h | h
 ·
  rcases pL hj h with h1 | h1
  ·
   subst h1;exact absurd rfl e
  exact .inl h1
 exact .inr h
end
end Go.Rc

namespace Go.Rc
open Go
def lI(rev:Int) (l:List dy):Prop:=xQ l∧(∀y∈l,RA rev y)∧∀y∈l,(∃i:Nat,i≤9∧y.key=⟨30,itoa i⟩)∧y.value.size≤1000
theorem lI.nil(rev:Int):lI rev []:=⟨.nil,by simp,by simp⟩
theorem lI.mono{r s:Int}{l:List dy}(h:lI r l) (hrs:r≤s):lI s l:=⟨h.1,fun y hy=>by obtain⟨a,b,c,d,e⟩:=h.2.1 y hy;exact⟨a,b,c,d,by omega⟩,h.2.2⟩
theorem Change.small.key{c:Change}(h:c.small):∃i:Nat,i≤9∧c.key=⟨30,itoa i⟩:=by
 obtain⟨⟨n,h0,h3,hk⟩,_⟩:=h;refine⟨n.toNat,by omega,?_⟩;rw [hk]
 unfold dx
 grind
theorem Change.small.ok{c:Change}(h:c.small):gN c.key=true∧az c.key=true:=by
 obtain⟨⟨n,h0,h3,hk⟩,_⟩:=h;obtain⟨m,rfl⟩:∃m:Nat,n=(m:Int):=⟨n.toNat,by omega⟩;rw [hk];exact⟨gG.valid (ab:=[]) (.cell (by omega)),cO (by omega)⟩
theorem lI.put{rev:Int}{l:List dy}{c:Change}(h:lI rev l) (hc:c.small) (h0:0≤rev):lI rev (ig ⟨c.key,c.value,rev⟩ l false):=by
 refine⟨xQ.put h.1,fun y hy=>?_,fun y hy=>?_⟩
 ·
  rcases zq _ _ _ _ hy with rfl | hy
  ·
   have:=hc.2
   exact⟨hc.ok.1,hc.ok.2,by grind,h0,Int.le_refl _⟩
  exact h.2.1 y hy
 rcases zq _ _ _ _ hy with rfl | hy
 ·
  obtain⟨i,hi,hk⟩:=hc.key;exact⟨⟨i,by omega,hk⟩,Nat.le_trans hc.2 (by decide)⟩
 exact h.2.2 y hy
theorem CD{α:Type} [BEq α] [LawfulBEq α]:∀{l U:List α},l.Nodup→(∀x∈l,x∈U)→l.length≤U.length
 | [],_,_,_=>Nat.zero_le _
 | x::r,U,hn,hs=>by
  have hx:=hs x (by simp);rw [List.nodup_cons] at hn
  have h1:r.length≤(U.erase x).length:=CD hn.2 fun y hy=>by grind
  grind
theorem lI.len{rev:Int}{l:List dy}(h:lI rev l):l.length≤10:=by
 have hn:(l.map fun y=>y.key).Nodup:=by
  unfold List.Nodup
  rw [List.pairwise_map]
  exact h.1.imp fun {a b} h e=>by grind [k9]
 have:=CD (U:=(List.range 10).map fun i:Nat=>(⟨30,itoa i⟩:Key)) hn fun k hk=>by
  obtain⟨y,hy,rfl⟩:=List.mem_map.1 hk;obtain⟨i,hi,he⟩:=(h.2.2 y hy).1
  grind
 simpa using this
theorem lI.k99{rev:Int}{l:List dy}(h:lI rev l):∀y∈l,∃i:Nat,i≤99∧y.key=⟨30,itoa i⟩:=fun y hy=>by
 obtain⟨i,hi,he⟩:=(h.2.2 y hy).1;exact⟨i,by omega,he⟩
theorem GA{n:dy}{k:Key}(h:n.key≠k):∀(l:List dy) (b:Bool),(ig n l b).find? (fun x=>x.key == k)=l.find? fun x=>x.key == k
 | [],b=>by grind [ig]
 | x::xs,b=>by
  have hn:(n.key == k)=false:=by simpa using h
  unfold ig
  rw [List.find?_append,List.find?_append,GA h xs]
  have h1:(if (decide (0≤cv x.key n.key) && !b)=true then [n] else []).find? (fun x=>x.key == k)=none:=by grind
  rw [h1,Option.none_or]
  by_cases e:cv x.key n.key=0
  ·
   rw [if_pos e]
   grind [pd]
  grind
theorem vI{n:dy}{k:Key}(h:n.key≠k) (l:List dy):cZ (ig n l false) k=cZ l k:=by
 unfold cZ
 rw [GA h]
theorem RG{n:dy}{l:List dy}{q:Nat}{b:Bool}(hq:q<l.length) {acc r:List dy}(h:acc++ig n (l.drop q) b=r):acc++(if decide (0≤cv l[q].key n.key) && !b then [n] else [])++(if cv l[q].key n.key=0 then [] else [l[q]])++ig n (l.drop (q+1)) (b || decide (0≤cv l[q].key n.key))=r:=by grind [List.drop_eq_getElem_cons,ig]
theorem RH{n:dy}{l m acc:List dy}{b:Bool}(h:acc++ig n m b=ig n l false):acc.length≤l.length+1:=by
 have h1:=congrArg List.length h
 grind [qz]
end Go.Rc

namespace Go.Rc
open Go
section
variable {ab:List aG}{aF:List dy}{rev:Int}(hR:aw ab)
include hR
end
end Go.Rc

namespace Go.Rc
open Go
def V5(L:List As) (Z:Nat→Prop) (w:World):Prop:=(List.Pairwise (fun(A B:As)=>∀x,A.fp x→¬B.fp x) L)∧∀A∈L,A.ok Z w
def As.many(L:List As):As where
 fp x:=∃A∈L,A.fp x
 ok:=V5 L
 lt h x hx:=by obtain⟨A,hA,hx⟩:=hx;exact A.lt (h.2 A hA) x hx
 mono hZ h:=⟨h.1,fun A hA=>A.mono hZ (h.2 A hA)⟩
 st hs hc h:=⟨h.1,fun A hA=>A.st hs (fun x hx=>hc x (hx.imp (fun hx=>⟨A,hA,hx⟩) id)) (h.2 A hA)⟩
section
variable {w0 w:World}{M Z:Nat→Prop}{A:As}{L l:List As}
theorem St.abx(h:St w0 M Z w l):St w0 M Z w (As.many []::l):=by
 refine⟨h.cW,h.ma,?_,?_,.cons ?_ h.vA,?_⟩
 ·
  intro B hB x hx
  rcases List.mem_cons.1 hB with rfl | hB
  ·
   obtain⟨A,hA,_⟩:=hx;cases hA
  exact h.o5 B hB x hx
 ·
  intro B hB x hx
  rcases List.mem_cons.1 hB with rfl | hB
  ·
   obtain⟨A,hA,_⟩:=hx;cases hA
  exact h.qc B hB x hx
 ·
  intro B _ x hx;obtain⟨A,hA,_⟩:=hx;cases hA
 intro B hB
 rcases List.mem_cons.1 hB with rfl | hB
 ·
  exact⟨.nil,fun A hA=>by cases hA⟩
 exact h.ok B hB
theorem St.V6(h:St w0 M Z w (A::As.many L::l)):St w0 M Z w (As.many (A::L)::l):=by
 obtain⟨d1,d2⟩:=List.pairwise_cons.1 h.vA;obtain⟨d3,d4⟩:=List.pairwise_cons.1 d2;have hm:(As.many L).ok Z w:=h.ok _ (by simp);refine⟨h.cW,h.ma,?_,?_,.cons ?_ d4,?_⟩
 ·
  intro B hB x hx
  rcases List.mem_cons.1 hB with rfl | hB
  ·
   obtain⟨C,hC,hx⟩:=hx
   rcases List.mem_cons.1 hC with rfl | hC
   ·
    exact h.o5 C (by simp) x hx
   exact h.o5 (As.many L) (by simp) x ⟨C,hC,hx⟩
  exact h.o5 B (by simp [hB]) x hx
 ·
  intro B hB x hx
  rcases List.mem_cons.1 hB with rfl | hB
  ·
   obtain⟨C,hC,hx⟩:=hx
   rcases List.mem_cons.1 hC with rfl | hC
   ·
    exact h.qc C (by simp) x hx
   exact h.qc (As.many L) (by simp) x ⟨C,hC,hx⟩
  exact h.qc B (by simp [hB]) x hx
 ·
  intro B hB x hx;obtain⟨C,hC,hx⟩:=hx
  rcases List.mem_cons.1 hC with rfl | hC
  ·
   exact d1 B (by simp [hB]) x hx
  exact d3 B hB x ⟨C,hC,hx⟩
 intro B hB
 rcases List.mem_cons.1 hB with rfl | hB
 ·
  refine⟨.cons (fun C hC x hx sa=>d1 (As.many L) (by simp) x hx ⟨C,hC,sa⟩) hm.1,fun C hC=>?_⟩
  rcases List.mem_cons.1 hC with rfl | hC
  ·
   exact h.ok C (by simp)
  exact hm.2 C hC
 exact h.ok B (by simp [hB])
theorem St.RJ(h:St w0 M Z w (As.many (A::L)::l)):St w0 M Z w (A::As.many L::l):=by
 obtain⟨d1,d2⟩:=List.pairwise_cons.1 h.vA;have hm:(As.many (A::L)).ok Z w:=h.ok _ (by simp);obtain⟨d3,d4⟩:=List.pairwise_cons.1 hm.1;refine⟨h.cW,h.ma,?_,?_,.cons ?_ (.cons ?_ d2),?_⟩
 ·
  intro B hB x hx
  rcases List.mem_cons.1 hB with rfl | hB
  ·
   exact h.o5 _ M0 x ⟨B,.head _,hx⟩
  rcases List.mem_cons.1 hB with rfl | hB
  ·
   obtain⟨C,hC,hx⟩:=hx;exact h.o5 _ M0 x ⟨C,.tail _ hC,hx⟩
  exact h.o5 B (.tail _ hB) x hx
 ·
  intro B hB x hx
  rcases List.mem_cons.1 hB with rfl | hB
  ·
   exact h.qc _ M0 x ⟨B,.head _,hx⟩
  rcases List.mem_cons.1 hB with rfl | hB
  ·
   obtain⟨C,hC,hx⟩:=hx;exact h.qc _ M0 x ⟨C,.tail _ hC,hx⟩
  exact h.qc B (.tail _ hB) x hx
 ·
  intro B hB x hx sa
  rcases List.mem_cons.1 hB with rfl | hB
  ·
   obtain⟨C,hC,sa⟩:=sa;exact d3 C hC x hx sa
  exact d1 B hB x ⟨A,.head _,hx⟩ sa
 ·
  intro B hB x hx;obtain⟨C,hC,hx⟩:=hx;exact d1 B hB x ⟨C,.tail _ hC,hx⟩
 intro B hB
 rcases List.mem_cons.1 hB with rfl | hB
 ·
  exact hm.2 B M0
 rcases List.mem_cons.1 hB with rfl | hB
 ·
  exact⟨d4,fun C hC=>hm.2 C (.tail _ hC)⟩
 exact h.ok B (.tail _ hB)
theorem St.aby{L':List As}(hp:L.Perm L') (h:St w0 M Z w (As.many L::l)):St w0 M Z w (As.many L'::l):=by
 obtain⟨d1,d2⟩:=List.pairwise_cons.1 h.vA;have hm:(As.many L).ok Z w:=h.ok _ (by simp);have fe:∀x,(As.many L').fp x→(As.many L).fp x:=fun x ⟨C,hC,hx⟩=>⟨C,hp.mem_iff.2 hC,hx⟩;refine⟨h.cW,h.ma,?_,?_,.cons (fun B hB x hx=>d1 B hB x (fe x hx)) d2,?_⟩
 ·
  intro B hB x hx
  rcases List.mem_cons.1 hB with rfl | hB
  ·
   exact h.o5 _ M0 x (fe x hx)
  exact h.o5 B (.tail _ hB) x hx
 ·
  intro B hB x hx
  rcases List.mem_cons.1 hB with rfl | hB
  ·
   exact h.qc _ M0 x (fe x hx)
  exact h.qc B (.tail _ hB) x hx
 intro B hB
 rcases List.mem_cons.1 hB with rfl | hB
 ·
  exact⟨hm.1.perm hp (fun h x hx sa=>h x sa hx),fun C hC=>hm.2 C (hp.mem_iff.2 hC)⟩
 exact h.ok B (.tail _ hB)
end
structure RE where
 key:Key
 a:Option Addr
 n:Nat
 c:Nat
 reads:List Key
def RE.as(EK:Nat) (e:RE):As:=As.os RR.key EK 2 e.a e.n e.c e.reads
end Go.Rc

namespace Go.Rc
open Go
section
variable {ab:List aG}{aF:List dy}{val:Key→ByteArray}
theorem pe{f g:Nat}(h:f≤g):∀{l:List Key}{s s':ES},eD ab val f s l=some s'→eD ab val g s l=some s'
 | [],s,s',hu=>hu
 | k::r,s,s',hu=>by
  simp only [eD] at hu ⊢;obtain⟨t,h1,h2⟩:=Option.bind_eq_some_iff.1 hu;rw [rB h h1];exact pe h h2
theorem zs(hR:aw ab):∀(l:List Key) (s:ES),Good ab aF s→(∀k∈l,gG ab k)→∃f s',eD ab val f s l=some s'
 | [],s,_,_=>⟨0,s,rfl⟩
 | k::r,s,hg,hk=>by
  obtain⟨f,t,h1⟩:=Rz (val:=val) hR _ s k hg (hk k (by simp)) (Nat.le_refl _);have h2:=(df (val:=val) hR f).1 _ _ _ h1 hg (hk k (by simp))
  obtain⟨g,s',h3⟩:=zs hR r t h2.1 fun k Nd=>hk k (by simp [Nd])
  refine⟨max f g,s',?_⟩
  grind [eD,rB,pe,Nat.le_max_right]
theorem CE(hR:aw ab) {f:Nat}:∀{l:List Key}{s s':ES},eD ab val f s l=some s'→Good ab aF s→(∀k∈l,gG ab k)→s'.cP.length+iK ab s'≤s.cP.length+iK ab s
 | [],s,s',h,_,_=>by simp only [eD,Option.some.injEq] at h;subst h;exact Nat.le_refl _
 | k::r,s,s',h,hg,hk=>by
  simp only [eD] at h;obtain⟨t,h1,h2⟩:=Option.bind_eq_some_iff.1 h;have h3:=(df (val:=val) hR f).1 _ _ _ h1 hg (hk k (by simp));have h4:=(jY (val:=val) hR f).1 _ _ _ h1 hg (hk k (by simp))
  have h5:=CE hR h2 h3.1 fun k Nd=>hk k (by simp [Nd])
  exact Nat.le_trans h5 h4.2.2
end
theorem L6{ab:List aG}(hR:aw ab) {i:Nat}(hi:i<ab.length):js ab (aL ab (i:Int))=true:=by
 have rS:=hR.len
 unfold js
 rw [gG.valid (ab:=ab) (.gF hi (by omega)),dw hi (by omega)]
 simp
theorem V7:lH ⟨0,[],[]⟩:=⟨fun i y h=>by simp at h,fun i r h=>by simp at h,by decide,by decide,by decide,⟨by decide,fun i x h=>by simp at h⟩⟩
theorem lI.lH{rev:Int}{aF:List dy}(h:lI rev aF) (h0:0≤rev) (h1:rev≤1073741824) (h6:aF.length≤64):lH ⟨rev,aF,[]⟩:=
 ⟨IV.2 ⟨h.1,h.2.1⟩,fun i r h=>by simp at h,h0,h1,h6,⟨Nat.zero_le _,fun i x h=>by simp at h⟩⟩
end Go.Rc

namespace Go.Rc
open Go
def CH(x:Rec):Int:=16+x.key.text.size+x.value.size+8*x.reads.length
def mR(l:List Rec):Int:=(l.map CH).sum
def L7(x:Rec):Prop:=x.key.text.size≤1000∧x.value.size≤1073741824∧x.reads.length≤4000
theorem L7.size{x:Rec}(h:L7 x):0≤CH x∧CH x≤1100000000:=by
 unfold CH
 obtain⟨a,b,c⟩:=h
 omega
theorem GB{l:List Rec}{i:Nat}(hi:i<l.length):mR (l.take (i+1))=mR (l.take i)+CH l[i]:=by grind [mR,List.take_succ_eq_append_getElem]
theorem CI:∀{l:List Rec},(∀x∈l,L7 x)→0≤mR l∧mR l≤1100000000*l.length
 | [],_=>by simp [mR]
 | x::r,h=>by
  have h1:=(h x (by simp)).size
  have h2:=CI (l:=r) fun y hy=>h y (by simp [hy])
  grind [mR]
theorem GC{c s:Int}(hc:0≤c∧c≤1073741824) (hs:0≤s∧s≤1100000000):-9223372036854775808≤c*s∧c*s≤9223372036854775807:=by
 have h1:=Int.mul_nonneg hc.1 hs.1;have h2:=Int.mul_le_mul hc.2 hs.2 hs.1 (by decide:(0:Int)≤1073741824)
 omega
theorem OA{α:Type}{out m:List α}{x:α}(p:Nat) (h:out.Perm m):(([]++out.take p)++[x]++out.drop p).Perm (m++[x]):=by
 have h1:(out.take p++[x]++out.drop p).Perm (out++[x]):=by grind [List.perm_append_comm,List.take_append_drop]
 rw [List.nil_append];exact h1.trans (h.append_right _)
theorem CJ(l:List Rec) (k:Key):(jn l k).Sublist l:=List.filter_sublist
def As.rgo(c:Prop) (b o:Nat) (r:List Value):As where
 fp _:=False
 ok Z w:=c→(As.rg b o r).ok Z w
 lt _ _ hx:=hx.elim
 mono hZ h:=fun h0=>(As.rg b o r).mono hZ (h h0)
 st hs hc h:=fun h0=>(As.rg b o r).st hs hc (h h0)
theorem As.gro{c:Prop}{b o:Nat}{r:List Value}{Z:Nat→Prop}{w:World}(hc:c) (h:(As.rgo c b o r).ok Z w):w.rangeAt b o r:=(h hc).2.2
theorem Rd.opt{α:Type}{R:RR α}{k n c:Nat}{Z:Nat→Prop}{w:World}{a:Option Addr}{xs:List α}(h:Rd R k Z w a n c xs) (hz:∀b,Z b→b<w.heap.size) (p:Nat):∃b o r,(∀hp:p<xs.length,a=some ⟨b,o,none⟩∧r.length=k∧R.r Z w xs[p] r)∧(As.rgo (p<xs.length) b (o+p*k) r).ok Z w:=by
 by_cases hp:p<xs.length
 ·
  obtain⟨b,o,r,h1,h2,h3,h4,h5⟩:=Rd.at h hp;exact⟨b,o,r,fun _=>⟨h1,h2,h3⟩,fun _=>⟨h5,hz b h5,h4⟩⟩
 exact⟨0,0,[],fun hp'=>absurd hp' hp,fun hp'=>absurd hp' hp⟩
theorem et.one(x:et) (a1:Option Addr) (n1 c1:Nat) (a2:Option Addr) (n2 c2:Nat):∀u∈x.row a1 n1 c1 a2 n2 c2,u.oneCell'=true:=by simp [et.row,Value.oneCell']
end Go.Rc

namespace Go.Rc
open Go
structure vJ where
 ab:List aG
 base:dP
 goals:List Key
 stack:List et
 cP:List Key
structure L8 where
 u:Option Addr
 nu:Nat
 cu:Nat
 i:Option Addr
 ni:Nat
 ci:Nat
 r:Option Addr
 nr:Nat
 cr:Nat
 g:Option Addr
 ng:Nat
 cg:Nat
 f:Option Addr
 nf:Nat
 cf:Nat
 p:Option Addr
 np:Nat
 cp:Nat
def vJ.row(t:vJ) (A:L8):List Value:=[.slice A.u A.nu A.cu,.int .i64 t.base.ae,.slice A.i A.ni A.ci,.slice A.r A.nr A.cr,.slice A.g A.ng A.cg,.slice A.f A.nf A.cf,.slice A.p A.np A.cp]
structure vJ.In (t:vJ) (A:L8) (Z:Nat→Prop) (w:World):Prop where
 u:Rd RR.gF 4 Z w A.u A.nu A.cu t.ab
 i:Rd RR.aF 4 Z w A.i A.ni A.ci t.base.ad
 r:Rd RR.fT 8 Z w A.r A.nr A.cr t.base.ak
 g:Rd RR.key 2 Z w A.g A.ng A.cg t.goals
 f:Rd RR.pT 6 Z w A.f A.nf A.cf t.stack
 p:Rd RR.key 2 Z w A.p A.np A.cp t.cP
structure vJ.In5 (t:vJ) (A:L8) (Z:Nat→Prop) (w:World):Prop where
 u:Rd RR.gF 4 Z w A.u A.nu A.cu t.ab
 i:Rd RR.aF 4 Z w A.i A.ni A.ci t.base.ad
 r:Rd RR.fT 8 Z w A.r A.nr A.cr t.base.ak
 g:Rd RR.key 2 Z w A.g A.ng A.cg t.goals
 f:Rd RR.pT 6 Z w A.f A.nf A.cf t.stack
structure vJ.Sz (t:vJ):Prop where
 u:t.ab.length≤1000000
 a:∀x∈t.ab,x.asks.length≤1000
 i:t.base.ad.length≤1000000
 r:t.base.ak.length≤1000000
 f:t.stack.length≤1000000
 g:t.goals.length≤1000000
 p:t.cP.length≤1000000
end Go.Rc

namespace Go.Rc
open Go
structure qB where
 a:Option Addr
 n:Nat
 c:Nat
 a2:Option Addr
 n2:Nat
 c2:Nat
def et.DM(x:et × qB):List Value:=x.1.row x.2.a x.2.n x.2.c x.2.a2 x.2.n2 x.2.c2
def RR.DN:RR (et × qB):=RR.flat et.DM
theorem zt{α:Type}{l:List α}{a:α}(h:l.getLast?=some a):l.dropLast++[a]=l:=by
 rcases List.eq_nil_or_concat l with rfl | ⟨m,b,rfl⟩
 ·
  cases h
 simp at h
 subst h
 simp
def eL(L:List (et × qB)):FZ:=
 ⟨fun Z w=>∀y∈L,Rd RR.key 2 Z w y.2.a y.2.n y.2.c y.1.reads∧Rd RR.str 1 Z w y.2.a2 y.2.n2 y.2.c2 y.1.ah,fun hZ h y hy=>⟨(h y hy).1.mono hZ,(h y hy).2.mono hZ⟩,fun h1 h2 h y hy=>⟨(h y hy).1.st h1 h2,(h y hy).2.st h1 h2⟩⟩
theorem eL.last{L:List (et × qB)}{Z:Nat→Prop}{w:World}{a a2:Option Addr}{n c n2 c2:Nat}{pl:List Key}{ql:List ByteArray}(h:(eL L.dropLast).p Z w) (hl:L=[]∨∃f,L.getLast?=some (f,⟨a,n,c,a2,n2,c2⟩)∧pl=f.reads∧ql=f.ah) (hk:Rd RR.key 2 Z w a n c pl) (hy:Rd RR.str 1 Z w a2 n2 c2 ql):(eL L).p Z w:=fun y hm=>by
 rcases hl with rfl | ⟨f,h1,rfl,rfl⟩
 ·
  cases hm
 have e:=zt h1;rw [← e] at hm
 rcases List.mem_append.1 hm with hm | hm
 ·
  exact h y hm
 grind
theorem eL.nil(Z:Nat→Prop) (w:World):(eL ([]:List (et × qB)).dropLast).p Z w:=fun y hy=>by cases hy
theorem eL.pT{L:List (et × qB)}{E n c:Nat}{a:Option Addr}{Z:Nat→Prop}{w:World}(h:Ow RR.DN E 6 Z w a n c L) (hf:(eL L).p Z w) (h4:∀y∈L,y.1.reads.length≤4000∧y.1.ah.length≤4000):Ow RR.pT E 6 Z w a n c (L.map Prod.fst):=by
 obtain⟨hn,rows,hl,hk,h1,hx⟩:=h;refine⟨by rw [hn,List.length_map],rows,by rw [hl,List.length_map],hk,h1,fun i x r h2 h3=>?_⟩;rw [List.getElem?_map] at h2;obtain⟨y,hy,rfl⟩:=Option.map_eq_some_iff.1 h2;have hm:=List.mem_of_getElem? hy;have hr:r=et.DM y:=hx i y r hy h3;obtain⟨h5,h6⟩:=h4 y hm;obtain⟨h7,h8⟩:=hf y hm;exact⟨_,_,_,_,_,_,hr,h7,h8,h5,h6⟩
end Go.Rc

namespace Go.Rc
open Go
structure BK (ab:List aG) (aF:List dy) (rev:Int) (b:dP):Prop where
 ki:Good ab aF ⟨b,[],[],0⟩
 zw:Cz ⟨b,[],[],0⟩
 rv:b.ae=rev
 CK:DD rev aF
 zx:aF.length≤64
section
variable {ab:List aG}{aF:List dy}{rev:Int}{b:dP}
theorem BK.lH(h:BK ab aF rev b):lH b:=
 ⟨by rw [h.rv,show b.ad=aF from h.ki.aF];exact h.CK,fun i r hr=>(h.zw.v r (List.mem_of_getElem? hr)).2,h.zw.r0,h.zw.r1,by rw [show b.ad=aF from h.ki.aF];exact h.zx,h.zw.st.qp h.ki.len fun r hr=>(h.zw.v r hr).1⟩
theorem BK.KF(h:BK ab aF rev b) (g:List Key):BK ab aF rev (dQ b g false):=⟨h.ki.mark g false,h.zw.KF g,h.rv,h.CK,h.zx⟩
theorem BK.KG(h:BK ab aF rev b) {g:List Key}(hc:∀x∈g,aA x=true):BK ab aF rev (dQ b g true):=⟨h.ki.mark g true,h.zw.KG hc,h.rv,h.CK,h.zx⟩
theorem BK.put(h:BK ab aF rev b) {r:Rec}(hk:gG ab r.key) (hr:r.reads.length≤4000∧∀a∈r.reads,gG ab a) (h4:(!(aB b.ak r.key).isSome && decide (4000≤b.ak.length))=false) (hv:fI r=true) (V8:r.ax≤b.ae):BK ab aF rev {b with ak:=fP b.ak r}:=
 ⟨h.ki.put (cP:=[]) hk hr h4,h.zw.put (cP:=[]) hv V8,h.rv,h.CK,h.zx⟩
theorem BK.sub(h:BK ab aF rev b) {rs:List Rec}(hs:rs.Sublist b.ak):BK ab aF rev {b with ak:=rs}:=
 ⟨⟨h.ki.aF,Nat.le_trans hs.length_le h.ki.len,fun r hr=>h.ki.key r (hs.subset hr),fun r hr=>h.ki.H5 r (hs.subset hr),.nil,fun k=>.inl rfl⟩,⟨h.zw.st.sublist hs,fun r hr=>h.zw.v r (hs.subset hr),h.zw.r0,h.zw.r1⟩,h.rv,h.CK,h.zx⟩
theorem BK.small(h:BK ab aF rev b):∀r∈b.ak,L7 r∧0≤r.cost∧r.cost≤1073741824:=fun r hr=>by
 obtain⟨i,hi,ht,_⟩:=(h.ki.key r hr).shape;have h1:=(gH _).1 (h.zw.v r hr).1;obtain⟨_,_,_,apZ,hl,_,_,_,ahA,abz,_⟩:=h1;have h2:=vG (n:=i) (by omega);refine⟨⟨by rw [ht];omega,by omega,by omega⟩,by omega,abz⟩
end
structure kj (ab:List aG) (f:et):Prop where
 key:gG ab f.key
 aF:az f.key=false
 H5:∀a∈f.reads,gG ab a
 len:f.reads.length=f.ah.length
 jE:jq ab f.key f.ah.length
 at0:0≤f.at_
theorem kj.new{ab:List aG}{k:Key}(hk:gG ab k) (hi:az k=false):kj ab ⟨k,false,0,[],[]⟩:=⟨hk,hi,fun a h=>(by cases h),rfl,hk.jE hi,Int.le_refl _⟩
structure TK (ab:List aG) (aF:List dy) (rev:Int) (t:vJ):Prop where
 T3:t.ab=ab
 base:BK ab aF rev t.base
 goals:∀k∈t.goals,gG ab k
 stack:∀f∈t.stack,kj ab f
 cP:∀k∈t.cP,gG ab k
theorem PV.cast{P:Program}{op:Op}{ty:TypeId}{kv:KV}{w:World}{v v':Value}(h:PV P op ty kv w v) (e:v=v'):PV P op ty kv w v':=e ▸ h
theorem fM{α:Type}(L:List α) (x:α):(L++[x])[L.length]?=some x:=by simp
theorem eL.snoc{L:List (et × qB)}{f:et}{A:qB}{Z:Nat→Prop}{w:World}(h:(eL L).p Z w) (hk:Rd RR.key 2 Z w A.a A.n A.c f.reads) (hy:Rd RR.str 1 Z w A.a2 A.n2 A.c2 f.ah):(eL (L++[(f,A)])).p Z w:=fun y hm=>by
 rcases List.mem_append.1 hm with hm | hm
 ·
  exact h y hm
 grind
theorem eL.whole{L:List (et × qB)}{f:et}{A:qB}{l:List et}{E n c:Nat}{a:Option Addr}{Z:Nat→Prop}{w:World}(h:Ow RR.DN E 6 Z w a n c (L++[(f,A)])) (hf:(eL (L++[(f,A)])).p Z w) (h4:∀y∈L,y.1.reads.length≤4000∧y.1.ah.length≤4000) (Bf:f.reads.length≤4000∧f.ah.length≤4000) (hl:L.map Prod.fst++[f]=l):Ow RR.pT E 6 Z w a n c l:=by
 have h1:=eL.pT h hf fun y hm=>by grind
 grind
theorem GD{L:List (et × qB)}{f:et}{A:qB}{l:List et}{E EK ES n c:Nat}{a:Option Addr}{Z:Nat→Prop}{w:World}(H4:Ow RR.DN E 6 Z w a n c (L++[(f,A)])) (hk:Ow RR.key EK 2 Z w A.a A.n A.c f.reads) (hy:Ow RR.str ES 1 Z w A.a2 A.n2 A.c2 f.ah) (hfa:(eL L).p Z w) (h4:∀y∈L,y.1.reads.length≤4000∧y.1.ah.length≤4000) (Bf:f.reads.length≤4000∧f.ah.length≤4000) (hl:L.map Prod.fst++[f]=l) (hll:l.length≤1000000):∃Zb:Nat→Prop,(∀x,Z x→Zb x)∧Rd RR.pT 6 Zb w a n c l:=by
 have h1:=hk.rd (by omega);have h2:=hy.rd (by omega)
 let Zb:Nat→Prop:=fun x=>Z x∨x∈aI A.a∨x∈aI A.a2
 have hz:∀x,Z x→Zb x:=fun x h=>.inl h;have h3:(eL (L++[(f,A)])).p Zb w:=eL.snoc ((eL L).mono hz hfa) (h1.mono fun x h=>h.imp id .inl) (h2.mono fun x h=>h.imp id .inr);have h5:Ow RR.DN E 6 Zb w a n c (L++[(f,A)]):=(As.os RR.DN E 6 a n c (L++[(f,A)])).mono hz H4;have h6:=eL.whole h5 h3 h4 Bf hl;exact⟨_,fun x h=>.inl (hz x h),h6.rd (by omega)⟩
theorem zy{x:dP}{l others:List et}{k:Key}(h:dH x l others k=1):az k=false:=by grind [gu,dH]
theorem eL.push{L:List (et × qB)}{f g:et}{A:qB}{l:List et}{E n c:Nat}{a:Option Addr}{Z:Nat→Prop}{w:World}(h:Ow RR.DN E 6 Z w a n c (L++[(f,A)]++[(g,⟨none,0,0,none,0,0⟩)])) (hf:(eL (L++[(f,A)])).p Z w) (h4:∀y∈L,y.1.reads.length≤4000∧y.1.ah.length≤4000) (Bf:f.reads.length≤4000∧f.ah.length≤4000) (pW:g.reads=[]) (FB:g.ah=[]) (hl:L.map Prod.fst++[f]=l):Ow RR.pT E 6 Z w a n c (l++[g]):=by
 have h1:=eL.pT h (eL.snoc (f:=g) (A:=⟨none,0,0,none,0,0⟩) hf (by rw [pW];exact Rd.nil _ _ _ _) (by rw [FB];exact Rd.nil _ _ _ _)) fun y hm=>by grind
 grind
section
variable {w0 w:World}{M Z:Nat→Prop}{l:List As}{A0 A1 A2 A3 A4 A5 A6 A7 A8 A9 oQ rO xL Fw Ng ZW A16 A17:As}
end
end Go.Rc

namespace Go.Rc
open Go
section
variable {α:Type}{R:RR α}{P:Program}{E k n c b:Nat}{a:Option Addr}{L:List α}{u:α}{Z:Nat→Prop}{w:World}
variable {N:Nat}{kv:KV}{K:KV→World→Prop}{ty:TypeId}{pos:String}{af:Array Edge}{g:Option (Nat × Bool)}{T:TypeId}
theorem OX.RM{x y:Operand}{f:Nat}{v:Value}(hT:(P.info? T).map (·.size)=some 1) (h:Ow R E k Z w a n c (L++[u])) (ha:a=some ⟨b,0,none⟩) (hf:f<k) (hx:ev kv x=some (.pointer (some ⟨b,0+L.length*k+f,none⟩))) (hy:ev kv y=some v)
  (h1:v.oneCell'=true) (u':α) (hR:∀r,R.r Z w u r→R.r Z w u' (r.set f v)) (hK:∀w',aV (aI a) w w'→OR 0 w' E k (R.r Z w) a n c (L++[u'])→K kv w'):OX P ⟨none,.store T x y,ty,pos,af,g⟩ N kv w K:=
 OX.VG hT h ha (fM L u) hf hx hy h1 u' (fun r _ h=>hR r h) fun w' c o=>hK w' c (by grind)
end
section
variable {ab:List aG}{f:et}
theorem kj.read(h:kj ab f) {k:Key}{a:ByteArray}(hk:gG ab k) (ha:jq ab f.key (f.ah.length+1)):kj ab {f with reads:=f.reads++[k],ah:=f.ah++[a]}:=
 ⟨h.key,h.aF,fun b hb=>by
  rcases List.mem_append.1 hb with hb | hb
  ·
   exact h.H5 b hb
  grind,by simp [h.len],by simpa using ha,h.at0⟩
theorem kj.runs(h:kj ab f):kj ab {f with running:=true,at_:=0}:=⟨h.key,h.aF,h.H5,h.len,h.jE,Int.le_refl _⟩
theorem kj.step(h:kj ab f):kj ab {f with at_:=f.at_+1}:=⟨h.key,h.aF,h.H5,h.len,h.jE,by have:=h.at0;show 0≤f.at_+1;omega⟩
theorem kj.snoc{L:List (et × qB)}(hL:∀y∈L,kj ab y.1) (h:kj ab f):∀g∈L.map Prod.fst++[f],kj ab g:=fun g hg=>by grind
end
structure TR (ab:List aG) (aF:List dy) (rev:Int) (n:Nat) (t:vJ):Prop where
 ok:TK ab aF rev t
 ns:t.stack.length≤n
 nr:t.cP.length≤n
 ng:t.goals.length≤32
section
variable {ab:List aG}{aF:List dy}{rev:Int}{n:Nat}{t:vJ}
theorem TR.mono(h:TR ab aF rev n t) {m:Nat}(hm:n≤m):TR ab aF rev m t:=⟨h.ok,Nat.le_trans h.ns hm,Nat.le_trans h.nr hm,h.ng⟩
theorem TR.sz(h:TR ab aF rev n t) (hR:aw ab) (hn:n≤100000):t.Sz:=by
 have h1:=h.ok.base;have h2:=h1.zx;have h3:t.base.ad=aF:=h1.ki.aF;have h4:t.base.ak.length≤4000:=h1.ki.len;have h5:=h.ns;have h6:=h.nr;have h7:=h.ng;have h8:=hR.len;have h9:=h.ok.T3;refine⟨by rw [h9];omega,fun x hx=>?_,by rw [h3];omega,by omega,by omega,by omega,by omega⟩;rw [h9] at hx;obtain⟨i,hi,rfl⟩:=List.mem_iff_getElem.1 hx
 have:=(hR.2 i _ (List.getElem?_eq_getElem hi)).1
 omega
theorem TR.abA(h:TR ab aF rev n t):TR ab aF rev n {t with goals:=t.goals.drop 1}:=
 ⟨⟨h.ok.T3,h.ok.base,fun k hk=>h.ok.goals k (List.mem_of_mem_drop hk),h.ok.stack,h.ok.cP⟩,h.ns,h.nr,by have:=h.ng;simp;omega⟩
theorem TR.begin(h:TR ab aF rev n t) {k:Key}(hk:gG ab k) (hi:az k=false) (hn:1≤n):TR ab aF rev n {t with goals:=t.goals.drop 1,stack:=[⟨k,false,0,[],[]⟩]}:=
 ⟨⟨h.ok.T3,h.ok.base,fun k hk=>h.ok.goals k (List.mem_of_mem_drop hk),fun f hf=>by grind [kj.new],h.ok.cP⟩,hn,h.nr,by have:=h.ng;simp;omega⟩
theorem TR.next(h:TR ab aF rev n t) {b:dP}{l:List et}{rk:List Key}(hb:BK ab aF rev b) (hl:∀f∈l,kj ab f) (hk:∀k∈rk,gG ab k) (h1:rk.length≤1) (h2:l.length≤t.stack.length+1):TR ab aF rev (n+1) {t with base:=b,stack:=l,cP:=t.cP++rk}:=
 ⟨⟨h.ok.T3,hb,h.ok.goals,hl,fun k hm=>by rcases List.mem_append.1 hm with hm | hm;exact h.ok.cP k hm;exact hk k hm⟩,by have:=h.ns;show l.length≤_;omega,by have:=h.nr;grind,h.ng⟩
theorem DO{x:dP}{l:List et}{k:Key}(h:gu x l k=true):az k=false:=by grind [gu]
end
end Go.Rc

