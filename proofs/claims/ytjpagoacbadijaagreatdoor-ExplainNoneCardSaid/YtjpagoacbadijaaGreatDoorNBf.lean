/- Base of the proof: frames, memory, ownership, and the plain meaning of rule systems. Conditions: as each lemma says. -/
import Derived.Test.YtjpagoacbadijaaGreatDoorNBe
import Derived.Test.YtjpagoacbadijaaGreatDoorNBd
import Derived.Test.YtjpagoacbadijaaGreatDoorNBc
import Derived.Laws.IdiomRangeMap
set_option linter.all false
namespace Go.Rc
open Go
/-! ### counting -/
def IU(p:Nat→Bool):Nat→Nat
 | 0=>0
 | n+1=>IU p n+(p n).toNat
theorem zq{p q:Nat→Bool}:∀{n:Nat},(∀i,i<n→p i=true→q i=true)→IU p n≤IU q n
 | 0,_=>Nat.le_refl _
 | n+1,h=>by
  have h1:=zq (n:=n) fun i hi=>h i (by omega)
  have h2:=h n (by omega);simp only [IU]
  cases hp:p n with
  | false=>simp;omega
  | true=>rw [h2 hp];omega
theorem zs{p q:Nat→Bool}{j:Nat}:∀{n:Nat},(∀i,i<n→p i=true→q i=true)→j<n→q j=true→p j=false→IU p n+1≤IU q n
 | 0,_,hj,_,_=>by omega
 | n+1,h,hj,h1,h2=>by
  simp only [IU]
  rcases Nat.lt_or_ge j n with ee | qk
  ·
   have h3:=zs (n:=n) (fun i hi=>h i (by omega)) ee h1 h2;have h4:=h n (by omega)
   cases hp:p n with
   | false=>simp;omega
   | true=>rw [h4 hp];omega
  have e:j=n:=by omega
  subst e
  have h3:=zq (n:=j) (p:=p) (q:=q) fun i hi=>h i (by omega)
  rw [h1,h2];simp;omega
theorem KG{p q:Nat→Bool}{j:Nat}:∀{n:Nat},(∀i,i<n→i≠j→p i=true→q i=true)→IU p n≤IU q n+1
 | 0,_=>by simp [IU]
 | n+1,h=>by
  simp only [IU]
  by_cases e:n=j
  ·
   subst e
   have h3:=zq (n:=n) (p:=p) (q:=q) fun i hi=>h i (by omega) (by omega)
   cases p n <;> cases q n <;> simp <;> omega
  have h1:=KG (n:=n) fun i hi=>h i (by omega)
  have h2:=h n (by omega) e
  cases hp:p n with
  | false=>simp;omega
  | true=>rw [h2 hp];simp;omega
theorem Ui(p:Nat→Bool):∀n,IU p n≤n
 | 0=>Nat.le_refl _
 | n+1=>by have:=Ui p n;simp only [IU];cases p n <;> simp <;> omega
/-! ### what is found in what was put -/
theorem KH:∀(a b:List UInt8),Lib.compareBytes a b=0→a=b
 | [],[],_=>rfl
 | [],_::_,h=>by simp [Lib.compareBytes] at h
 | _::_,[],h=>by simp [Lib.compareBytes] at h
 | x::a,y::b,h=>by
  simp only [Lib.compareBytes] at h
  split at h
  ·
   cases h
  split at h
  ·
   cases h
  rename_i h1 h2
  have e:x=y:=by grind
  rw [e,KH a b h]
theorem ph{a b:Key}(h:cw a b=0):a=b:=by
 unfold cw at h
 split at h
 ·
  cases h
 split at h
 ·
  cases h
 rename_i h1 h2
 have h3:=KH _ _ h;obtain⟨ka,ta⟩:=a;obtain⟨kb,tb⟩:=b;simp only at h1 h2 h3
 congr 1
 ·
  omega
 cases ta;simp_all
theorem GD(r:Rec) (k:Key):∀(l:List Rec) (b:Bool),aC (gg r l b) k=if k=r.key then (if b then none else some r) else aC l k:=by
 intro l
 induction l with
 | nil=>
  intro b
  unfold gg aC
  grind
 | cons x xs ih=>
  intro b;have h1:=ih (b || decide (0≤cw x.key r.key))
  unfold gg
  unfold aC at h1 ⊢
  rw [List.find?_append,List.find?_append,h1]
  by_cases h:k=r.key
  ·
   subst h;simp only [if_true]
   by_cases hc:cw x.key r.key=0
   ·
    grind
   have kW:x.key≠r.key:=fun e=>hc (by rw [e];exact lh _)
   grind
  simp only [if_neg h]
  have hr:(r.key == k)=false:=by simp;exact fun e=>h e.symm
  have h2:(List.find? (fun y=>y.key == k) (if (decide (0≤cw x.key r.key) && !b)=true then [r] else []))=none:=by split <;> simp [hr]
  rw [h2]
  by_cases hc:cw x.key r.key=0
  ·
   have e:x.key=r.key:=ph hc
   grind
  grind
theorem gk(l:List Rec) (r:Rec) (k:Key):aC (fR l r) k=if k=r.key then some r else aC l k:=by grind [fR,GD]
theorem vI(f:Rec→Rec) (hf:∀r,(f r).key=r.key) (k:Key) (l:List Rec):aC (l.map f) k=(aC l k).map f:=by
 unfold aC
 rw [List.find?_map,show((fun x:Rec=>x.key == k)∘f)=(fun x:Rec=>x.key == k) from funext fun x=>by simp [hf]]
/-! ### what goes on being so -/
theorem cL{x:dQ}{k:Key}:aK x k=true↔∃r,aC x.ak k=some r∧r.ax=x.ad:=by
 unfold aK aH
 cases hf:aC x.ak k with
 | none=>simp
 | some r=>simp
theorem IV{x:dQ}{g:List Key}{d:Bool}{k:Key}(h:aK x k=true):aK (dT x g d) k=true:=by
 obtain⟨r,h1,h2⟩:=cL.1 h;refine cL.2 ⟨cO x.ad g d r,?_,?_⟩
 ·
  show aC (x.ak.map (cO x.ad g d)) k=_
  grind [vI,dP]
 show _=x.ad
 unfold cO
 grind
theorem uz{x:dQ}{g:List Key}{k:Key}(h:(aC x.ak k).isSome=true) (hk:k∈g):aK (dT x g false) k=true:=by
 obtain⟨r,h1⟩:=Option.isSome_iff_exists.1 h;have h3:=List.find?_some h1
 simp at h3
 refine cL.2 ⟨cO x.ad g false r,?_,?_⟩
 ·
  show aC (x.ak.map (cO x.ad g false)) k=_
  grind [vI,dP]
 show _=x.ad
 grind [cO]
theorem LY{x:dQ}{r:Rec}{k:Key}(hr:r.ax=x.ad) (h:aK x k=true):aK {x with ak:=fR x.ak r} k=true:=by
 obtain⟨q,h1,h2⟩:=cL.1 h
 by_cases e:k=r.key
 ·
  exact cL.2 ⟨r,by show aC (fR x.ak r) k=_;rw [gk,if_pos e],hr⟩
 exact cL.2 ⟨q,by show aC (fR x.ak r) k=_;rw [gk,if_neg e,h1],h2⟩
theorem tk{x:dQ}{r:Rec}(hr:r.ax=x.ad):aK {x with ak:=fR x.ak r} r.key=true:=
 cL.2 ⟨r,by show aC (fR x.ak r) r.key=_;rw [gk,if_pos rfl],hr⟩
theorem IW(l:List Rec) (rev:Int) (k:Key):k∈aB l rev k:=by grind [aB,vH]
structure kc (s s':ES):Prop where
 on:∀k,s'.on k=s.on k
 up:∀k,aK s.b k=true→aK s'.b k=true
theorem kc.refl(s:ES):kc s s:=⟨fun _=>rfl,fun _ h=>h⟩
theorem kc.trans{s t u:ES}(h:kc s t) (h':kc t u):kc s u:=⟨fun k=>(h'.on k).trans (h.on k),fun k hk=>h'.up k (h.up k hk)⟩
theorem kc.there{s s':ES}(h:kc s s') {k:Key}(ht:fB s k=true):fB s' k=true:=by
 unfold fB at ht ⊢
 rw [h.on k];simp only [Bool.or_eq_true] at ht ⊢
 rcases ht with h1 | h1 | h1
 ·
  exact .inl h1
 ·
  exact .inr (.inl h1)
 exact .inr (.inr (h.up k h1))
def iE(ab:List aG) (s:ES):Nat:=IU (fun i=>!aK s.b (aN ab (i:Int)) && !s.on (aN ab (i:Int))) ab.length
def off(ab:List aG) (s:ES):Nat:=IU (fun i=>!s.on (aN ab (i:Int))) ab.length
theorem kc.iE{ab:List aG}{s s':ES}(h:kc s s'):iE ab s'≤iE ab s:=zq fun i _ hp=>by
 simp only [Bool.and_eq_true,Bool.not_eq_true'] at hp ⊢;rw [h.on] at hp;refine⟨?_,hp.2⟩
 cases hu:aK s.b (aN ab (i:Int)) with
 | false=>rfl
 | true=>rw [h.up _ hu] at hp;exact absurd hp.1 (by simp)
theorem kc.off{ab:List aG}{s s':ES}(h:kc s s'):Go.Rc.off ab s'=Go.Rc.off ab s:=by
 unfold Go.Rc.off
 congr 1
 funext i
 rw [h.on]
section
variable {ab:List aG}{val:Key→ByteArray}{aF:List dB}
theorem qy(s:ES) (k k':Key):ES.on {s with busy:=dF s.busy k (.bool true)} k'=(decide (k=k') || s.on k'):=by
 unfold ES.on
 simp only [fy]
 by_cases h:k=k' <;> simp [h]
theorem IX{s:ES}(hn:(s.busy.map (·.1)).Nodup) (k k':Key):ES.on {s with busy:=jP s.busy k} k'=(!decide (k=k') && s.on k'):=by
 unfold ES.on
 simp only [Ga hn]
 by_cases h:k=k' <;> simp [h]
def UpK(ab:List aG) (val:Key→ByteArray) (aF:List dB) (f:Nat):Prop:=∀s k s',mc ab val f s k=some s'→Good ab aF s→gA ab k→kc s s'∧(s'.e=0→s.e=0∧(az k=true∨fB s' k=true))∧s'.cU.length+iE ab s'≤s.cU.length+iE ab s
def ChK(ab:List aG) (val:Key→ByteArray) (aF:List dB) (f:Nat):Prop:=∀s k n s' b,dI ab val f s k n=some (s',b)→Good ab aF s→kc s s'∧(s'.e=0→s.e=0∧(b=false→aK s'.b k=true))∧s'.cU.length+iE ab s'≤s.cU.length+iE ab s
def RuK(ab:List aG) (val:Key→ByteArray) (aF:List dB) (f:Nat):Prop:=∀s k reads ah s',ib ab val f s k reads ah=some s'→Good ab aF s→jr ab k ah.length→kc s s'∧(s'.e=0→s.e=0∧aK s'.b k=true)∧(s'.cU.length+iE ab s'≤s.cU.length+iE ab s∨(aK s'.b k=true∧s'.cU.length+iE ab s'≤s.cU.length+iE ab s+1))
theorem kc.err(s:ES) (e:Int):kc s {s with e:=e}:=⟨fun _=>rfl,fun _ h=>h⟩
theorem kc.mark(s:ES) (g:List Key) (d:Bool):kc s {s with b:=dT s.b g d}:=⟨fun _=>rfl,fun _ h=>IV h⟩
theorem j5(hR:aw ab):∀f,UpK ab val aF f∧ChK ab val aF f∧RuK ab val aF f:=by
 intro f
 induction f with
 | zero=>exact⟨fun s k s' h=>by simp [mc] at h,fun s k n s' b h=>by simp [dI] at h,fun s k r a s' h=>by simp [ib] at h⟩
 | succ f ih=>
  obtain⟨LX,FM,Ie⟩:=ih;have gd:=dm (val:=val) (aF:=aF) hR f;refine⟨?_,?_,?_⟩
  ·
   intro s k s' h hg hk
   unfold mc at h
   split at h
   ·
    rename_i he
    cases h
    refine⟨.refl _,fun h0=>⟨h0,?_⟩,Nat.le_refl _⟩
    grind
   rename_i he
   have he0:s.e=0:=by simp at he;exact he.1
   have qv:az k=false:=by simp at he;exact he.2
   split at h
   ·
    rename_i hu
    cases h
    exact⟨.refl _,fun h0=>⟨h0,.inr (by unfold fB;rw [hu];simp)⟩,Nat.le_refl _⟩
   rename_i hu
   split at h
   ·
    rename_i ho
    split at h
    ·
     rename_i hc
     cases h
     exact⟨.refl _,fun h0=>⟨h0,.inr (by unfold fB;rw [ho,hc];simp)⟩,Nat.le_refl _⟩
    cases h
    exact⟨.err _ _,fun h0=>by simp at h0,Nat.le_refl _⟩
   rename_i ho
   have hu':aK s.b k=false:=by simpa using hu
   have H9:s.on k=false:=by simpa using ho
   obtain⟨⟨s2,b2⟩,hp,h⟩:=Option.bind_eq_some_iff.1 h;obtain⟨s3,ht,h⟩:=Option.bind_eq_some_iff.1 h;simp only [Option.some.injEq] at h;subst h;obtain⟨i,hi,sT,_⟩:=hk.jI qv;obtain⟨CK,_⟩:=gd.2.1 _ _ _ _ _ hp (hg.on k);obtain⟨nj,QM,LZ⟩:=FM _ _ _ _ _ hp (hg.on k)
   -- the state before, with k under way
   have h1:iE ab {s with busy:=dF s.busy k (.bool true)}+1≤iE ab s:=by
    refine zs (j:=i) (fun j _ hj=>?_) hi ?_ ?_
    ·
     simp only [qy,Bool.and_eq_true,Bool.not_eq_true',Bool.or_eq_false_iff] at hj ⊢;exact⟨hj.1,hj.2.2⟩
    ·
     grind
    grind [qy]
   have h3:Good ab aF s3∧kc s2 s3∧(s3.e=0→s2.e=0∧aK s3.b k=true)∧(s3.cU.length+iE ab s3≤s2.cU.length+iE ab s2∨(aK s3.b k=true∧s3.cU.length+iE ab s3≤s2.cU.length+iE ab s2+1)):=by
    split at ht
    ·
     obtain⟨a,b,c⟩:=Ie _ _ _ _ _ ht CK (hk.jI qv);exact⟨(gd.2.2 _ _ _ _ _ ht CK (hk.jI qv) rfl (fun a ha=>by cases ha)).1,a,b,c⟩
    rename_i hb
    simp only [Option.some.injEq] at ht;subst ht;exact⟨CK,.refl _,fun h0=>⟨h0,(QM h0).2 (by simpa using hb)⟩,.inl (Nat.le_refl _)⟩
   obtain⟨hg3,xa,he3,ht3⟩:=h3
   have IY:∀k',s3.on k'=(decide (k=k') || s.on k'):=fun k'=>by rw [xa.on,nj.on,qy]
   have QU:kc s {s3 with busy:=jP s3.busy k}:=⟨fun k'=>by
    rw [IX hg3.mF,IY]
    grind,fun k' h=>xa.up _ (nj.up _ h)⟩
   refine⟨QU,fun h0=>⟨he0,.inr ?_⟩,?_⟩
   ·
    have:=(he3 h0).2
    show fB {s3 with busy:=jP s3.busy k} k=true
    unfold fB
    grind
   show s3.cU.length+iE ab {s3 with busy:=jP s3.busy k}≤_
   have apW:s2.cU.length+iE ab s2≤s.cU.length+iE ab {s with busy:=dF s.busy k (.bool true)}:=LZ
   by_cases hu3:aK s3.b k=true
   ·
    have:iE ab {s3 with busy:=jP s3.busy k}≤iE ab s3:=zq fun j _ hj=>by
     simp only [IX hg3.mF,Bool.and_eq_true,Bool.not_eq_true',Bool.and_eq_false_iff] at hj ⊢
     grind
    omega
   have h5:iE ab {s3 with busy:=jP s3.busy k}≤iE ab s3+1:=KG (j:=i) fun j hj kW hp=>by
    simp only [IX hg3.mF,Bool.and_eq_true,Bool.not_eq_true',Bool.and_eq_false_iff] at hp ⊢
    grind [fq]
   grind
  ·
   intro s k n s' b h hg
   unfold dI at h
   split at h
   ·
    rename_i he
    cases h;exact⟨.refl _,fun h0=>absurd h0 he,Nat.le_refl _⟩
   split at h
   ·
    cases h;exact⟨.refl _,fun h0=>⟨h0,fun hb=>by cases hb⟩,Nat.le_refl _⟩
   rename_i hf
   have hf1:(aC s.b.ak k).isSome=true:=by grind
   split at h
   ·
    rename_i hv
    cases h;exact⟨.refl _,fun h0=>⟨h0,fun _=>by unfold aK;rw [hf1,hv];simp⟩,Nat.le_refl _⟩
   split at h
   ·
    cases h
    have QU:kc s {s with b:=dT s.b (aB s.b.ak s.b.ad k) false}:=.mark _ _ _;exact⟨QU,fun h0=>⟨h0,fun _=>uz hf1 (IW _ _ _)⟩,Nat.add_le_add_left QU.iE _⟩
   rename_i c hc
   split at h
   ·
    obtain⟨t,ht,h⟩:=Option.bind_eq_some_iff.1 h;obtain⟨h1,h2,h3⟩:=LX _ _ _ ht hg (iF hg hc);obtain⟨h4,h5,h6⟩:=FM _ _ _ _ _ h (gd.1 _ _ _ ht hg (iF hg hc)).1;exact⟨h1.trans h4,fun h0=>⟨(h2 (h5 h0).1).1,(h5 h0).2⟩,Nat.le_trans h6 h3⟩
   split at h
   ·
    split at h <;> cases h
    ·
     have QU:kc s {s with b:=dT s.b (aB s.b.ak s.b.ad k) true}:=.mark _ _ _;exact⟨QU,fun h0=>⟨h0,fun hb=>by cases hb⟩,Nat.add_le_add_left QU.iE _⟩
    exact⟨.refl _,fun h0=>⟨h0,fun hb=>by cases hb⟩,Nat.le_refl _⟩
   exact FM _ _ _ _ _ h hg
  intro s k reads ah s' h hg ha
  unfold ib at h
  split at h
  ·
   rename_i he
   cases h;exact⟨.refl _,fun h0=>absurd h0 he,.inl (Nat.le_refl _)⟩
  rename_i he
  split at h
  ·
   split at h
   ·
    cases h;exact⟨.err _ _,fun h0=>by simp at h0,.inl (Nat.le_refl _)⟩
   cases h
   have QU:kc s {s with b:={s.b with ak:=fR s.b.ak (dK s.b k (aM ab k ah).value reads)},cU:=s.cU++[k]}:=⟨fun _=>rfl,fun _ h=>LY rfl h⟩;have hu:aK ({s.b with ak:=fR s.b.ak (dK s.b k (aM ab k ah).value reads)}:dQ) k=true:=tk (r:=dK s.b k (aM ab k ah).value reads) rfl;refine⟨QU,fun h0=>⟨h0,hu⟩,.inr ⟨hu,?_⟩⟩
   have:=QU.iE (ab:=ab)
   grind
  rename_i hd
  obtain⟨t,ht,h⟩:=Option.bind_eq_some_iff.1 h;have hn:=ha.next hR (by simpa using hd);obtain⟨h1,h2,h3⟩:=LX _ _ _ ht hg hn.2;have pj:=(gd.1 _ _ _ ht hg hn.2).1
  have h7:kc t s'∧(s'.e=0→t.e=0∧aK s'.b k=true)∧(s'.cU.length+iE ab s'≤t.cU.length+iE ab t∨(aK s'.b k=true∧s'.cU.length+iE ab s'≤t.cU.length+iE ab t+1)):=by
   split at h
   ·
    exact Ie _ _ _ _ _ h pj (by simpa using hn.1)
   exact Ie _ _ _ _ _ h pj ha
  obtain⟨h4,h5,h6⟩:=h7;refine⟨h1.trans h4,fun h0=>⟨(h2 (h5 h0).1).1,(h5 h0).2⟩,?_⟩
  grind
/-! ### more fuel does no harm -/
theorem qz:∀f,(∀s k s',mc ab val f s k=some s'→mc ab val (f+1) s k=some s')∧(∀s k n p,dI ab val f s k n=some p→dI ab val (f+1) s k n=some p)∧(∀s k r a s',ib ab val f s k r a=some s'→ib ab val (f+1) s k r a=some s'):=by
 intro f
 induction f with
 | zero=>grind [mc,dI,ib]
 | succ f ih=>
  obtain⟨LX,FM,Ie⟩:=ih;refine⟨?_,?_,?_⟩
  ·
   intro s k s' h
   unfold mc at h ⊢
   split at h
   ·
    grind
   rename_i h1;rw [if_neg h1]
   split at h
   ·
    grind
   rename_i h2;rw [if_neg h2]
   split at h
   ·
    grind
   rename_i h3;rw [if_neg h3]
   obtain⟨p,hp,h⟩:=Option.bind_eq_some_iff.1 h;obtain⟨s3,ht,h⟩:=Option.bind_eq_some_iff.1 h
   grind
  ·
   intro s k n p h
   unfold dI at h ⊢
   split at h
   ·
    grind
   rename_i h1;rw [if_neg h1]
   split at h
   ·
    grind
   rename_i h2;rw [if_neg h2]
   split at h
   ·
    grind
   rename_i h3;rw [if_neg h3]
   split at h
   ·
    exact h
   rename_i c hc
   split at h
   ·
    rename_i h4;rw [if_pos h4]
    grind [Option.bind_eq_some_iff]
   grind
  intro s k r a s' h
  unfold ib at h ⊢
  split at h
  ·
   grind
  rename_i h1;rw [if_neg h1]
  split at h
  ·
   grind
  rename_i h2;rw [if_neg h2]
  obtain⟨t,ht,h⟩:=Option.bind_eq_some_iff.1 h
  grind
theorem rC{f g:Nat}(h:f≤g) {s:ES}{k:Key}{s':ES}(hu:mc ab val f s k=some s'):mc ab val g s k=some s':=by
 induction h with
 | refl=>exact hu
 | step _ ih=>exact(qz _).1 _ _ _ ih
theorem tm{f g:Nat}(h:f≤g) {s:ES}{k:Key}{n:Nat}{p:ES × Bool}(hu:dI ab val f s k n=some p):dI ab val g s k n=some p:=by
 induction h with
 | refl=>exact hu
 | step _ ih=>exact(qz _).2.1 _ _ _ _ ih
theorem zt{f g:Nat}(h:f≤g) {s:ES}{k:Key}{r:List Key}{a:List ByteArray}{s':ES}(hu:ib ab val f s k r a=some s'):ib ab val g s k r a=some s':=by
 induction h with
 | refl=>exact hu
 | step _ ih=>exact(qz _).2.2 _ _ _ _ _ ih
/-! ### there is fuel enough -/
theorem IZ(hR:aw ab) {d:Nat}(mB:∀s k,Good ab aF s→gA ab k→off ab s≤d→∃f s',mc ab val f s k=some s') (k:Key) :
  ∀(m:Nat) (s:ES) (n:Nat),iE ab s*200000000+(200000000 - n)≤m→n≤100000000→Good ab aF s→off ab s≤d→∃f p,dI ab val f s k n=some p:=by
 intro m
 induction m using Nat.strongRecOn with
 | _ m ih=>
  intro s n hm hn hg hd
  by_cases h1:s.e≠0
  ·
   exact⟨1,(s,false),by unfold dI;rw [if_pos h1]⟩
  by_cases h2:(!(aC s.b.ak k).isSome || (aH s.b.ak k).bU)=true
  ·
   exact⟨1,(s,true),by unfold dI;rw [if_neg h1,if_pos h2]⟩
  by_cases h3:(aH s.b.ak k).ax=s.b.ad
  ·
   exact⟨1,(s,false),by unfold dI;grind⟩
  have Ns:(aB s.b.ak s.b.ad k).length≤4001:=by grind [mS,Good.len]
  have vt:=DT hg Ns
  cases hc:(bP s.b.ak (aB s.b.ak s.b.ad k))[n]? with
  | none=>exact⟨1,_,by unfold dI;rw [if_neg h1,if_neg h2,if_neg h3,hc]⟩
  | some c=>
   have l4:n<(bP s.b.ak (aB s.b.ak s.b.ad k)).length:=(List.getElem?_eq_some_iff.1 hc).1
   by_cases h4:fB s c.read=false
   ·
    obtain⟨f,t,ht⟩:=mB s c.read hg (iF hg hc) hd;obtain⟨sn,he1,_⟩:=(j5 (val:=val) hR f).1 _ _ _ ht hg (iF hg hc);have Ig:=((dm (val:=val) hR f).1 _ _ _ ht hg (iF hg hc)).1
    have qv:az c.read=false:=by grind [fB]
    by_cases h5:t.e=0
    ·
     obtain⟨i,hi,sT,_⟩:=(iF hg hc).jI qv
     have Kl:fB t c.read=true:=by grind
     have ee:iE ab t+1≤iE ab s:=by
      have hu0:aK s.b c.read=false:=by grind [fB]
      have hoc:(s.on c.read && aA c.read)=false:=by grind [fB]
      have QV:aK t.b c.read=true:=by grind [fB,kc.on]
      have IY:s.on c.read=false:=by
       cases ho:s.on c.read with
       | false=>rfl
       | true=>
        exfalso
        cases f with
        | zero=>simp [mc] at ht
        | succ f=>
         unfold mc at ht
         grind
      refine zs (j:=i) (fun j _ hj=>?_) hi ?_ ?_
      ·
       simp only [Bool.and_eq_true,Bool.not_eq_true'] at hj ⊢;rw [sn.on] at hj;refine⟨?_,hj.2⟩
       cases hx:aK s.b (aN ab (j:Int)) with
       | false=>rfl
       | true=>rw [sn.up _ hx] at hj;exact absurd hj.1 (by simp)
      ·
       rw [← sT,hu0,IY];rfl
      rw [← sT,QV];rfl
     obtain⟨f2,p,hp⟩:=ih (iE ab t*200000000+(200000000 - n)) (by omega) t n (Nat.le_refl _) hn Ig (by rw [sn.off];exact hd);refine⟨max f f2+1,p,?_⟩
     unfold dI
     rw [if_neg h1,if_neg h2,if_neg h3,hc]
     simp only
     rw [if_pos h4,rC (Nat.le_max_left _ _) ht]
     grind [tm,Nat.le_max_right]
    refine⟨max f 1+1,(t,false),?_⟩
    unfold dI
    rw [if_neg h1,if_neg h2,if_neg h3,hc]
    simp only
    rw [if_pos h4,rC (Nat.le_max_left _ _) ht];refine tm (f:=1) (Nat.le_max_right _ _) ?_
    unfold dI
    rw [if_pos h5]
   by_cases h6:(aH s.b.ak c.eR).ax<bp val s.b c.read
   ·
    exact⟨1,_,by unfold dI;rw [if_neg h1,if_neg h2,if_neg h3,hc];simp only;rw [if_neg h4,if_pos h6]⟩
   obtain⟨f2,p,hp⟩:=ih (iE ab s*200000000+(200000000 - (n+1))) (by omega) s (n+1) (Nat.le_refl _) (by omega) hg hd;refine⟨f2+1,p,?_⟩
   unfold dI
   grind
theorem Oz(hR:aw ab) {d:Nat}(mB:∀s k,Good ab aF s→gA ab k→off ab s≤d→∃f s',mc ab val f s k=some s') (k:Key) :
  ∀(m:Nat) (s:ES) (reads:List Key) (ah:List ByteArray),7 - ah.length≤m→Good ab aF s→jr ab k ah.length→off ab s≤d→∃f s',ib ab val f s k reads ah=some s':=by
 intro m
 induction m with
 | zero=>intro s r a hm _ ha _;have:=ha.le hR;omega
 | succ m ih=>
  intro s reads ah hm hg ha hd
  by_cases h1:s.e≠0
  ·
   exact⟨1,s,by unfold ib;rw [if_pos h1]⟩
  by_cases h2:(aM ab k ah).done=true
  ·
   by_cases h3:(!(aC s.b.ak k).isSome && decide (4000≤s.b.ak.length))=true
   ·
    exact⟨1,_,by unfold ib;rw [if_neg h1,if_pos h2,if_pos h3]⟩
   exact⟨1,_,by unfold ib;rw [if_neg h1,if_pos h2,if_neg h3]⟩
  have hn:=ha.next hR (by simpa using h2);obtain⟨f,t,ht⟩:=mB s _ hg hn.2 hd;obtain⟨sn,_,_⟩:=(j5 (val:=val) hR f).1 _ _ _ ht hg hn.2;have Ig:=((dm (val:=val) hR f).1 _ _ _ ht hg hn.2).1
  by_cases h5:t.e=0
  ·
   obtain⟨f2,s',QP⟩:=ih t (reads++[(aM ab k ah).ask]) (ah++[dC val t.b (aM ab k ah).ask]) (by simp;omega) Ig (by simpa using hn.1) (by rw [sn.off];exact hd);refine⟨max f f2+1,s',?_⟩
   unfold ib
   rw [if_neg h1,if_neg h2,rC (Nat.le_max_left _ _) ht];simp only [Option.bind_some];rw [if_pos h5]
   grind [zt,Nat.le_max_right]
  refine⟨max f 1+1,t,?_⟩
  unfold ib
  rw [if_neg h1,if_neg h2,rC (Nat.le_max_left _ _) ht];simp only [Option.bind_some];rw [if_neg h5];refine zt (f:=1) (Nat.le_max_right _ _) ?_
  unfold ib
  rw [if_pos h5]
theorem RJ(hR:aw ab):∀(d:Nat) (s:ES) (k:Key),Good ab aF s→gA ab k→off ab s≤d→∃f s',mc ab val f s k=some s':=by
 intro d
 induction d with
 | zero=>
  intro s k hg hk hd
  by_cases h1:s.e≠0∨az k=true
  ·
   exact⟨1,s,by unfold mc;rw [if_pos h1]⟩
  by_cases h2:aK s.b k=true
  ·
   exact⟨1,s,by unfold mc;rw [if_neg h1,if_pos h2]⟩
  by_cases h3:s.on k=true
  ·
   by_cases h4:aA k=true
   ·
    exact⟨1,s,by unfold mc;grind⟩
   exact⟨1,_,by unfold mc;rw [if_neg h1,if_neg h2,if_pos h3,if_neg h4]⟩
  exfalso
  obtain⟨i,hi,sT,_⟩:=hk.jI (by simp at h1;exact h1.2)
  have:off ab {s with busy:=dF s.busy k (.bool true)}+1≤off ab s:=by
   refine zs (j:=i) (fun j _ hj=>?_) hi ?_ ?_
   ·
    grind [qy]
   ·
    rw [← sT];simpa using h3
   grind [qy]
  omega
 | succ d ih=>
  intro s k hg hk hd
  by_cases h1:s.e≠0∨az k=true
  ·
   exact⟨1,s,by unfold mc;rw [if_pos h1]⟩
  by_cases h2:aK s.b k=true
  ·
   exact⟨1,s,by unfold mc;rw [if_neg h1,if_pos h2]⟩
  by_cases h3:s.on k=true
  ·
   by_cases h4:aA k=true
   ·
    exact⟨1,s,by unfold mc;grind⟩
   exact⟨1,_,by unfold mc;rw [if_neg h1,if_neg h2,if_pos h3,if_neg h4]⟩
  have qv:az k=false:=by simp at h1;exact h1.2
  obtain⟨i,hi,sT,_⟩:=hk.jI qv
  have apY:off ab {s with busy:=dF s.busy k (.bool true)}+1≤off ab s:=by
   refine zs (j:=i) (fun j _ hj=>?_) hi ?_ ?_
   ·
    grind [qy]
   ·
    rw [← sT];simpa using h3
   grind [qy]
  obtain⟨f,⟨s2,b2⟩,hp⟩:=IZ (val:=val) hR ih k _ {s with busy:=dF s.busy k (.bool true)} 0 (Nat.le_refl _) (by omega) (hg.on k) (by omega);have CK:=((dm (val:=val) hR f).2.1 _ _ _ _ _ hp (hg.on k)).1;have nj:=((j5 (val:=val) hR f).2.1 _ _ _ _ _ hp (hg.on k)).1
  cases b2 with
  | false=>
   refine⟨f+1,{s2 with busy:=jP s2.busy k},?_⟩
   unfold mc
   grind
  | true=>
   obtain⟨f2,s3,vJ⟩:=Oz (val:=val) hR ih k _ s2 [] [] (Nat.le_refl _) CK (hk.jI qv) (by rw [nj.off];omega);refine⟨max f f2+1,{s3 with busy:=jP s3.busy k},?_⟩
   unfold mc
   rw [if_neg h1,if_neg h2,if_neg h3,tm (Nat.le_max_left _ _) hp];simp only [Option.bind_some,if_true]
   grind [zt,Nat.le_max_right]
end
end Go.Rc

namespace Go.Rc
open Go
noncomputable def eD(ab:List aG) (val:Key→ByteArray) (f:Nat):ES→List Key→Option ES
 | s,[]=>some s
 | s,k::r=>(mc ab val f s k).bind fun t=>eD ab val f t r
def ES.base(s:ES) (x:dQ):dQ:=if s.e=0 then s.b else x
noncomputable def ES.list(s:ES):List Key:=if s.e=0 then mb s.cU else []
theorem tn{ab:List aG}{aF:List dB}{val:Key→ByteArray}(hR:aw ab) {f:Nat}:∀{l:List Key}{s s':ES},eD ab val f s l=some s'→Good ab aF s→(∀k∈l,gA ab k)→Good ab aF s'∧KF s s'
 | [],s,s',h,hg,_=>by simp only [eD,Option.some.injEq] at h;subst h;exact⟨hg,.refl _⟩
 | k::r,s,s',h,hg,hk=>by
  simp only [eD] at h;obtain⟨t,h1,h2⟩:=Option.bind_eq_some_iff.1 h;have h3:=(dm (val:=val) hR f).1 _ _ _ h1 hg (hk k (by simp))
  have h4:=tn hR h2 h3.1 fun k Ni=>hk k (by simp [Ni])
  exact⟨h4.1,h3.2.trans h4.2⟩
theorem St.abC{κ:Type}{enc:κ→Value}{w0 w:World}{M Z:Nat→Prop}{l:List As}{s m T:Nat}{cs:List Value}{q:List (κ × Value)}(h:St w0 M Z w (As.blk s T cs::As.map enc m q::l)):s≠m:=fun e=>by
 have h1:=(List.pairwise_cons.1 h.vD).1 (As.map enc m q) (by simp) s rfl;exact h1 e
end Go.Rc

namespace Go.Rc
open Go
/-! ### the order of keys -/
theorem CL:∀a b:List UInt8,Lib.compareBytes b a = - Lib.compareBytes a b
 | [],[]=>rfl
 | [],_::_=>rfl
 | _::_,[]=>rfl
 | x::a,y::b=>by
  simp only [Lib.compareBytes]
  by_cases h1:x<y
  ·
   grind
  by_cases h2:y<x
  ·
   grind
  rw [if_neg h2,if_neg h1,if_neg h1,if_neg h2,CL a b]
theorem zw:∀a b c:List UInt8,Lib.compareBytes a b<0→Lib.compareBytes b c<0→Lib.compareBytes a c<0
 | _,[],[],_,h=>by simp [Lib.compareBytes] at h
 | [],[],_::_,h,_=>by simp [Lib.compareBytes] at h
 | _::_,[],_::_,h,_=>by simp [Lib.compareBytes] at h
 | _,_::_,[],_,h=>by simp [Lib.compareBytes] at h
 | [],_::_,_::_,_,_=>by simp [Lib.compareBytes]
 | x::a,y::b,z::c,h1,h2=>by
  simp only [Lib.compareBytes] at h1 h2 ⊢
  by_cases e1:x<y
  ·
   grind
  rw [if_neg e1] at h1
  by_cases e3:y<x
  ·
   rw [if_pos e3] at h1;simp at h1
  rw [if_neg e3] at h1
  by_cases e2:y<z
  ·
   grind
  rw [if_neg e2] at h2
  by_cases e4:z<y
  ·
   rw [if_pos e4] at h2;simp at h2
  rw [if_neg e4] at h2;rw [if_neg (by grind),if_neg (by grind)];exact zw a b c h1 h2
theorem lj(a b:Key):cw b a = - cw a b:=by
 unfold cw
 by_cases h1:a.kind<b.kind
 ·
  grind
 by_cases h2:b.kind<a.kind
 ·
  grind
 rw [if_neg h2,if_neg h1,if_neg h1,if_neg h2,CL]
theorem jU{a b c:Key}(h1:cw a b<0) (h2:cw b c<0):cw a c<0:=by
 unfold cw at h1 h2 ⊢
 by_cases e1:a.kind<b.kind
 ·
  grind
 rw [if_neg e1] at h1
 by_cases e4:b.kind<a.kind
 ·
  rw [if_pos e4] at h1;simp at h1
 rw [if_neg e4] at h1
 by_cases e2:b.kind<c.kind
 ·
  rw [if_pos (by omega)];decide
 rw [if_neg e2] at h2
 by_cases e3:c.kind<b.kind
 ·
  rw [if_pos e3] at h2;simp at h2
 rw [if_neg e3] at h2;rw [if_neg (by omega),if_neg (by omega)];exact zw _ _ _ h1 h2
def vK(l:List Rec):Prop:=l.Pairwise fun a b=>cw a.key b.key<0
theorem zx(r:Rec):∀l:List Rec,gg r l true=l.filter fun x=>!decide (cw x.key r.key=0)
 | []=>rfl
 | x::xs=>by
  simp only [gg,Bool.not_true,Bool.and_false,Bool.false_eq_true,if_false,Bool.true_or,List.nil_append,zx r xs,List.filter_cons]
  grind
theorem vK.put{r:Rec}:∀{l:List Rec},vK l→vK (fR l r)
 | [],_=>by simp [vK,fR,gg]
 | x::xs,h=>by
  obtain⟨h1,h2⟩:=List.pairwise_cons.1 h;have ih:vK (fR xs r):=vK.put h2;have hf:vK (xs.filter fun y=>!decide (cw y.key r.key=0)):=List.Pairwise.filter _ h2
  show vK (gg r (x::xs) false)
  simp only [gg,Bool.not_false,Bool.and_true,Bool.false_or]
  by_cases c1:cw x.key r.key<0
  ·
   rw [decide_eq_false (show ¬0≤cw x.key r.key by omega),if_neg (show ¬cw x.key r.key=0 by omega)];simp only [Bool.false_eq_true,if_false,List.nil_append,List.singleton_append];refine List.pairwise_cons.2 ⟨fun y hy=>?_,ih⟩
   grind [iM]
  rw [decide_eq_true (show 0≤cw x.key r.key by omega),zx];simp only [if_true]
  by_cases c2:cw x.key r.key=0
  ·
   rw [if_pos c2];simp only [List.append_nil,List.singleton_append];refine List.pairwise_cons.2 ⟨fun y hy=>?_,hf⟩
   grind [ph]
  rw [if_neg c2];simp only [List.singleton_append,List.cons_append]
  have c3:cw r.key x.key<0:=by rw [lj x.key r.key];omega
  refine List.pairwise_cons.2 ⟨fun y hy=>?_,List.pairwise_cons.2 ⟨fun y hy=>h1 y (List.mem_filter.1 hy).1,hf⟩⟩
  grind [jU]
theorem vK.qt{l:List Rec}(h:vK l) (hn:l.length≤4000) (hv:∀r∈l,fK r=true):qt l:=by
 refine⟨hn,fun i x hx=>⟨hv x (List.mem_of_getElem? hx),fun hi=>?_⟩⟩;obtain⟨hl,rfl⟩:=List.getElem?_eq_some_iff.1 hx;rw [getElem!_pos l (i - 1) (by omega)];exact List.pairwise_iff_getElem.1 h (i - 1) i (by omega) hl (by omega)
/-! ### values are short -/
section
variable {ab:List aG}{aF:List dB}
theorem vL{n:Nat}(h:n≤65535):(itoa (n:Int)).size≤6:=by
 have e:Lib.itoa (n:Int)=Lib.decDigits n:=by unfold Lib.itoa;rw [if_neg (by omega)];rfl
 grind [itoa,Lib.decDigits,ByteArray.size]
theorem I0(hR:aw ab) {i:Nat}(hi:i<ab.length):∃n:Nat,n≤65535∧valOf ab aF (aN ab (i:Int))=itoa (n:Int):=by
 have h1:=jd (aF:=aF) hR hi;rw [jc hR hi (iD _ _ _).2] at h1;have hc:=aw.hb hR _ (List.getElem_mem hi);refine⟨_,rz (kind:=ab[i].final) (c:=ab[i].c.toNat) (l:=(gh (dw ab (aN ab (i:Int))) (valOf ab aF) (dV ab i)).2.map dH) (by omega) (fun x hx=>?_),?_⟩
 ·
  grind [nG]
 grind
theorem OA(hR:aw ab) {i:Nat}(hi:ab.length≤i):xY ab aF i=⟨#[]⟩:=by
 have hk:aN ab (i:Int)=da:=by unfold aN;rw [if_pos (by omega)]
 unfold xY ux
 rw [if_neg (by rw [o5 hi];simp),hk]
 unfold dw
 rw [if_pos (.inl (by unfold number da;simp))]
theorem I1(hR:aw ab) (hi:∀x∈aF,x.value.size≤1000) (k:Key):(valOf ab aF k).size≤1000:=by
 by_cases hk:az k=true
 ·
  unfold valOf cellOf
  rw [if_pos hk]
  unfold db
  cases hf:aF.find? fun x=>x.key == k with
  | none=>simp [ByteArray.size]
  | some x=>grind
 have e:valOf ab aF k=xY ab aF (number k).toNat:=by unfold valOf;rw [if_neg hk]
 rw [e]
 rcases Nat.lt_or_ge (number k).toNat ab.length with h | h
 ·
  rw [← jn hR h];obtain⟨n,hn,h2⟩:=I0 (aF:=aF) hR h
  grind [vL]
 grind [OA,ByteArray.size]
theorem zy(ab:List aG) (aF:List dB) (i:Nat):(eb ab aF i).length=dV ab i:=(iD _ _ _).1
theorem tp(hR:aw ab) {i:Nat}(hi:i<ab.length):∀a∈eb ab aF i,gi ab i a:=by
 have key:∀n,n≤dV ab i→∀a∈(gh (dw ab (aN ab (i:Int))) (valOf ab aF) n).1,gi ab i a:=by
  intro n
  induction n with
  | zero=>intro _ a ha;simp [gh] at ha
  | succ n ih=>grind [gh,fA,iD]
 exact key _ (Nat.le_refl _)
theorem gA.valid{k:Key}(h:gA ab k):gO k=true:=by
 cases h with
 | cell h=>
  rename_i n
  have hc:du (n:Int)=⟨30,itoa (n:Int)⟩:=by unfold du;rw [if_neg (by omega)]
  rw [hc]
  unfold gO number
  simp only [];rw [if_pos (by omega)]
  grind [mi]
 | gQ h lC=>
  rename_i i
  have h1:=dy h lC;have h2:=fM h lC
  unfold gO
  grind
end
section
variable {ab:List aG}{aF:List dB}{s t:ES}{k:Key}
theorem aX{l:List Rec}{r:Rec}(h:aC l k=some r):r∈l∧r.key=k:=by grind [aC]
def qA(ab:List aG) (j:Nat):Nat:=if aD ab j then cj ab j else j
def Lw(ab:List aG) (i b:Nat):Prop:=if aD ab i then cj ab i≤b else i<b
def ahG(ab:List aG) (s:ES) (i:Nat):Prop:=∀j:Nat,j<ab.length→s.on (aN ab (j:Int))=true→Lw ab i (qA ab j)
def OnR(ab:List aG) (s:ES) (i:Nat):Prop:=∀j:Nat,j<ab.length→s.on (aN ab (j:Int))=true→j=i∨Lw ab i (qA ab j)
theorem KI(hR:aw ab) {i:Nat}(hi:i<ab.length) {ah:List ByteArray}(hn:ah.length<dV ab i) :
  ∃a,dw ab (aN ab (i:Int)) ah=⟨false,⟨#[]⟩,a⟩∧gi ab i a∧∀m:Nat,m<ab.length→a=aN ab (m:Int)→Lw ab m (qA ab i)∧∀b,Lw ab i b→Lw ab m b:=by
 have rT:=hR.len;obtain⟨a,h1,h2,h3⟩:=fA hR hi hn;refine⟨a,h1,h2,fun m hm We=>?_⟩;have hb:=iv ab m
 cases hr:aD ab i with
 | false=>
  have QQ:m<i:=by
   rcases h2 with⟨n,h4,rfl⟩ | ⟨m',h4,rfl,_,h5,_⟩
   ·
    grind [cE,eG]
   grind [fq]
  unfold Lw qA
  grind
 | true=>
  unfold Lw qA
  rw [hr];simp only [if_true]
  cases hrm:aD ab m with
  | false=>
   have jH:m<cj ab i:=by
    rcases h2 with⟨n,h4,rfl⟩ | ⟨m',h4,rfl,_,_,_,h5⟩
    ·
     grind [cE,eG]
    grind [fq]
   grind
  | true=>
   obtain⟨x,hx,hax⟩:=h3 hr;have kL:=List.mem_of_getElem? hx
   have gH:outside ab x=false:=by grind [k7,ck]
   obtain⟨kk,KC,pN,ny⟩:=jR hR hi hr kL gH
   have:=fq hR ny hm (pN.symm.trans (hax.symm.trans We))
   subst this;have Ib:=mP hR (dU.step dU.refl KC)
   grind
end
end Go.Rc

namespace Go.Rc
open Go
theorem gI(x:Rec):fK x=true↔(∀a∈x.reads,gO a=true)∧gO x.key=true∧az x.key=false∧(x.value.size:Int)≤1073741824∧(x.reads.length:Int)≤4000∧0≤x.changed∧x.changed≤x.ax∧x.ax≤1073741824∧1≤x.cost∧x.cost≤1073741824∧(x.bU=false∨aA x.key=true):=by
 unfold fK iu
 grind
structure CN (s:ES):Prop where
 st:vK s.b.ak
 v:∀r∈s.b.ak,fK r=true∧r.ax≤s.b.ad
 r0:0≤s.b.ad
 r1:s.b.ad≤1073741824
section
variable {ab:List aG}{aF:List dB}{val:Key→ByteArray}{s t:ES}{k:Key}
theorem vK.map{l:List Rec}(h:vK l) {f:Rec→Rec}(hf:∀r,(f r).key=r.key):vK (l.map f):=by grind [vK]
theorem CN.KJ(h:CN s) (g:List Key):CN {s with b:=dT s.b g false}:=by
 refine⟨h.st.map fun r=>(dP _ _ _ r).1,fun r hr=>?_,h.r0,h.r1⟩;obtain⟨q,hq,rfl⟩:=List.mem_map.1 hr;obtain⟨h1,h2⟩:=h.v q hq;have h0:=h.r0;have h3:=h.r1
 unfold cO
 by_cases hk:q.key∈g
 ·
  rw [if_pos hk];simp only [Bool.false_eq_true,if_false];rw [gI] at h1 ⊢;obtain⟨a,b,c,d,e,f,g,i,j,k,l⟩:=h1;exact⟨⟨a,b,c,d,e,f,by grind,h3,j,k,l⟩,Int.le_refl _⟩
 rw [if_neg hk];exact⟨h1,h2⟩
theorem CN.KL(h:CN s) {g:List Key}(hc:∀x∈g,aA x=true):CN {s with b:=dT s.b g true}:=by
 refine⟨h.st.map fun r=>(dP _ _ _ r).1,fun r hr=>?_,h.r0,h.r1⟩;obtain⟨q,hq,rfl⟩:=List.mem_map.1 hr;obtain⟨h1,h2⟩:=h.v q hq
 unfold cO
 by_cases hk:q.key∈g
 ·
  rw [if_pos hk];simp only [if_true];rw [gI] at h1 ⊢;obtain⟨a,b,c,d,e,f,g,i,j,k,l⟩:=h1;exact⟨⟨a,b,c,d,e,f,g,i,j,k,.inr (hc _ hk)⟩,h2⟩
 rw [if_neg hk];exact⟨h1,h2⟩
theorem zz{l:List Rec}{rev:Int}(hk:aA k=true):∀x∈aB l rev k,aA x=true:=fun x hx=>by
 unfold aB at hx
 split at hx
 ·
  rw [vH,List.mem_cons] at hx
  rcases hx with rfl | hx
  ·
   exact hk
  obtain⟨r,hr,rfl⟩:=List.mem_map.1 hx
  have:=(List.mem_filter.1 hr).2
  unfold GB at this
  simp only [Bool.and_eq_true] at this;have ho:=(mR.1 this.2.1).iE
  unfold cI at ho
  grind
 grind
theorem CN.put(h:CN s) {r:Rec}{cU:List Key}(hv:fK r=true) (hr:r.ax≤s.b.ad):CN {s with b:={s.b with ak:=fR s.b.ak r},cU:=cU}:=
 ⟨h.st.put,fun q hq=>by rcases iM _ _ _ _ hq with rfl | hq;exact⟨hv,hr⟩;exact h.v q hq,h.r0,h.r1⟩
theorem L0(hR:aw ab) {ah:List ByteArray}(h:jr ab k ah.length) (hd:(aM ab k ah).done=true):(aM ab k ah).value.size≤6:=by
 obtain⟨i,hi,rfl,hn⟩:=h;have rT:=hR.len;rw [gR hi (by omega)] at hd ⊢
 rcases Nat.lt_or_ge ah.length (dV ab i) with ee | qk
 ·
  grind [fA]
 rw [jc hR hi (by omega)];have hc:=aw.hb hR _ (List.getElem_mem hi);exact vL (rz (by omega) fun x hx=>by grind [nG])
theorem zA(hR:aw ab) (h:CN s) {ah:List ByteArray}{reads:List Key}(ha:jr ab k ah.length) (hd:(aM ab k ah).done=true) (hl:reads.length=ah.length) (hr:∀a∈reads,gA ab a) :
  fK (dK s.b k (aM ab k ah).value reads)=true:=by
 have h6:=ha.le hR;have hs:=L0 hR ha hd;have h0:=h.r0;have h1:=h.r1;rw [gI]
 unfold dK
 have pU:∀c:Int,(c=if (aC s.b.ak k).isSome && decide ((aH s.b.ak k).value=(aM ab k ah).value) then (aH s.b.ak k).changed else s.b.ad)→0≤c∧c≤s.b.ad:=fun c hc=>by
  split at hc
  ·
   rename_i hf
   simp only [Bool.and_eq_true] at hf;obtain⟨r,hf1⟩:=Option.isSome_iff_exists.1 hf.1;have hm:=(aX hf1).1;obtain⟨h2,h3⟩:=h.v r hm
   grind [gI,aH]
  omega
 obtain⟨h2,h3⟩:=pU _ rfl;exact⟨fun a hm=>(hr a hm).valid,(ha.QR hR).valid,(ha.not hR).2,by grind,by grind,h2,h3,h1,by grind,by grind,.inl rfl⟩
def UpO(ab:List aG) (val:Key→ByteArray) (aF:List dB) (f:Nat):Prop:=∀s k s',mc ab val f s k=some s'→Good ab aF s→CN s→gA ab k→CN s'
def ChO(ab:List aG) (val:Key→ByteArray) (aF:List dB) (f:Nat):Prop:=∀s k n s' b,dI ab val f s k n=some (s',b)→Good ab aF s→CN s→CN s'
def RuO(ab:List aG) (val:Key→ByteArray) (aF:List dB) (f:Nat):Prop:=∀s k reads ah s',ib ab val f s k reads ah=some s'→Good ab aF s→CN s→jr ab k ah.length→reads.length=ah.length→(∀a∈reads,gA ab a)→CN s'
theorem L4(hR:aw ab):∀f,UpO ab val aF f∧ChO ab val aF f∧RuO ab val aF f:=by
 intro f
 induction f with
 | zero=>exact⟨fun s k s' h=>by simp [mc] at h,fun s k n s' b h=>by simp [dI] at h,fun s k r a s' h=>by simp [ib] at h⟩
 | succ f ih=>
  obtain⟨LX,FM,Ie⟩:=ih;have gd:=dm (val:=val) (aF:=aF) hR f;refine⟨?_,?_,?_⟩
  ·
   intro s k s' h hg ho hk
   unfold mc at h
   split at h
   ·
    cases h;exact ho
   rename_i he
   split at h
   ·
    cases h;exact ho
   split at h
   ·
    split at h <;> cases h
    ·
     exact ho
    exact⟨ho.st,ho.v,ho.r0,ho.r1⟩
   obtain⟨p,hp,h⟩:=Option.bind_eq_some_iff.1 h;obtain⟨t,ht,h⟩:=Option.bind_eq_some_iff.1 h
   cases h
   have h1:=FM _ _ _ p.1 p.2 (by rw [hp]) (hg.on k) ⟨ho.st,ho.v,ho.r0,ho.r1⟩;have pj:=(gd.2.1 _ _ _ p.1 p.2 (by rw [hp]) (hg.on k)).1
   have h3:CN t:=by
    split at ht
    ·
     exact Ie _ _ _ _ _ ht pj h1 (hk.jI (by simp at he;exact he.2)) rfl (fun a ha=>by cases ha)
    cases ht;exact h1
   exact⟨h3.st,h3.v,h3.r0,h3.r1⟩
  ·
   intro s k n s' b h hg ho
   unfold dI at h
   split at h
   ·
    cases h;exact ho
   split at h
   ·
    cases h;exact ho
   split at h
   ·
    cases h;exact ho
   split at h
   ·
    cases h;exact ho.KJ _
   rename_i c hc
   split at h
   ·
    obtain⟨t,ht,h⟩:=Option.bind_eq_some_iff.1 h;have h1:=LX _ _ _ ht hg ho (iF hg hc);exact FM _ _ _ _ _ h (gd.1 _ _ _ ht hg (iF hg hc)).1 h1
   split at h
   ·
    split at h
    ·
     rename_i tq
     cases h
     exact ho.KL (zz tq)
    cases h;exact ho
   exact FM _ _ _ _ _ h hg ho
  intro s k reads ah s' h hg ho ha hl hr
  unfold ib at h
  split at h
  ·
   cases h;exact ho
  split at h
  ·
   rename_i hd
   split at h
   ·
    cases h;exact⟨ho.st,ho.v,ho.r0,ho.r1⟩
   cases h
   exact ho.put (zA hR ho ha hd hl hr) (Int.le_refl _)
  rename_i hd
  obtain⟨t,ht,h⟩:=Option.bind_eq_some_iff.1 h;have hn:=ha.next hR (by simpa using hd);have h1:=LX _ _ _ ht hg ho hn.2;have pj:=(gd.1 _ _ _ ht hg hn.2).1
  split at h
  ·
   exact Ie _ _ _ _ _ h pj h1 (by simpa using hn.1) (by simp [hl]) (fun a ha=>by grind)
  exact Ie _ _ _ _ _ h pj h1 ha hl hr
theorem GF(hR:aw ab) {f:Nat}:∀{l:List Key}{s s':ES},eD ab val f s l=some s'→Good ab aF s→CN s→(∀k∈l,gA ab k)→CN s'
 | [],s,s',h,_,ho,_=>by grind [eD]
 | k::r,s,s',h,hg,ho,hk=>by
  simp only [eD] at h;obtain⟨t,h1,h2⟩:=Option.bind_eq_some_iff.1 h
  exact GF hR h2 ((dm (val:=val) hR f).1 _ _ _ h1 hg (hk k (by simp))).1 ((L4 hR f).1 _ _ _ h1 hg ho (hk k (by simp))) fun k Ni=>hk k (by simp [Ni])
end
end Go.Rc

namespace Go.Rc
open Go
theorem I2{α:Type}{R:α→α→Prop}(ht:∀a b c,R a b→R b c→R a c) {l:List α}(h:∀(i:Nat) (hi:i+1<l.length),R (l[i]'(by omega)) l[i+1]):l.Pairwise R:=by
 refine List.pairwise_iff_getElem.2 fun i j hi hj hij=>?_;obtain⟨d,rfl⟩:∃d,j=i+1+d:=⟨j - (i+1),by omega⟩
 induction d with
 | zero=>exact h i hj
 | succ d ih=>grind
def xZ(l:List dB):Prop:=l.Pairwise fun a b=>cw a.key b.key<0
def RM(rev:Int) (x:dB):Prop:=gO x.key=true∧az x.key=true∧(x.value.size:Int)≤1073741824∧0≤x.changed∧x.changed≤rev
theorem I3{rev:Int}{l:List dB}:DL rev l↔xZ l∧∀x∈l,RM rev x:=by
 constructor
 ·
  intro h
  have h1:∀(i:Nat) (hi:i<l.length),RM rev l[i]∧(0<i→cw (l[i - 1]!).key l[i].key<0):=fun i hi=>by
   have h2:=h i _ (ao hi)
   unfold jQ at h2
   simp only [getElem!_pos l i hi,Bool.or_eq_false_iff,Bool.not_eq_false',Bool.and_eq_false_iff,decide_eq_false_iff_not] at h2;obtain⟨a,b,c,d,e,f⟩:=h2;exact⟨⟨a,b,by omega,by omega,by omega⟩,fun h0=>by rcases c with c | c <;> omega⟩
  refine⟨I2 (R:=fun a b:dB=>cw a.key b.key<0) (fun a b c h k=>jU h k) fun i hi=>?_,fun x hx=>?_⟩
  ·
   grind
  grind [List.mem_iff_getElem]
 rintro⟨h1,h2⟩ i y hy;obtain⟨hi,rfl⟩:=List.getElem?_eq_some_iff.1 hy;obtain⟨a,b,c,d,e⟩:=h2 _ (List.getElem_mem hi)
 unfold jQ
 simp only [getElem!_pos l i hi,Bool.or_eq_false_iff,Bool.not_eq_false',Bool.and_eq_false_iff,decide_eq_false_iff_not];refine⟨a,b,?_,by omega,by omega,by omega⟩
 by_cases h0:0<i
 ·
  right
  rw [getElem!_pos l (i - 1) (by omega)]
  have:=List.pairwise_iff_getElem.1 h1 (i - 1) i (by omega) hi (by omega)
  omega
 left
 omega
def ij(n:dB):List dB→Bool→List dB
 | [],put=>if put then [] else [n]
 | x::xs,put=>(if decide (0≤cw x.key n.key) && !put then [n] else [])++(if cw x.key n.key=0 then [] else [x])++ij n xs (put || decide (0≤cw x.key n.key))
theorem zB(n:dB):∀(l:List dB) (b:Bool) (x:dB),x∈ij n l b→x=n∨x∈l:=by
 intro l
 induction l with
 | nil=>grind [ij]
 | cons y ys ih=>grind [ij]
theorem vM(n:dB):∀l:List dB,ij n l true=l.filter fun x=>!decide (cw x.key n.key=0)
 | []=>rfl
 | x::xs=>by
  simp only [ij,Bool.not_true,Bool.and_false,Bool.false_eq_true,if_false,Bool.true_or,List.nil_append,vM n xs,List.filter_cons]
  grind
theorem qB(n:dB):∀(l:List dB) (b:Bool),(ij n l b).length≤l.length+1
 | [],b=>by cases b <;> simp [ij]
 | x::xs,b=>by
  by_cases h:(decide (0≤cw x.key n.key) && !b)=true
  ·
   have hb:(b || decide (0≤cw x.key n.key))=true:=by simp at h;simp [h.1]
   simp only [ij,List.length_append,List.length_cons];rw [if_pos h,hb,vM]
   grind
  have ih:=qB n xs (b || decide (0≤cw x.key n.key));simp only [ij,List.length_append,List.length_cons]
  grind
theorem xZ.put{n:dB}:∀{l:List dB},xZ l→xZ (ij n l false)
 | [],_=>by simp [xZ,ij]
 | x::xs,h=>by
  obtain⟨h1,h2⟩:=List.pairwise_cons.1 h;have ih:xZ (ij n xs false):=xZ.put h2;have hf:xZ (xs.filter fun y=>!decide (cw y.key n.key=0)):=List.Pairwise.filter _ h2
  show xZ (ij n (x::xs) false)
  simp only [ij,Bool.not_false,Bool.and_true,Bool.false_or]
  by_cases c1:cw x.key n.key<0
  ·
   rw [decide_eq_false (show ¬0≤cw x.key n.key by omega),if_neg (show ¬cw x.key n.key=0 by omega)];simp only [Bool.false_eq_true,if_false,List.nil_append,List.singleton_append];refine List.pairwise_cons.2 ⟨fun y hy=>?_,ih⟩
   grind [zB]
  rw [decide_eq_true (show 0≤cw x.key n.key by omega),vM];simp only [if_true]
  by_cases c2:cw x.key n.key=0
  ·
   rw [if_pos c2];simp only [List.append_nil,List.singleton_append];refine List.pairwise_cons.2 ⟨fun y hy=>?_,hf⟩
   grind [ph]
  rw [if_neg c2];simp only [List.singleton_append,List.cons_append]
  have c3:cw n.key x.key<0:=by rw [lj x.key n.key];omega
  refine List.pairwise_cons.2 ⟨fun y hy=>?_,List.pairwise_cons.2 ⟨fun y hy=>h1 y (List.mem_filter.1 hy).1,hf⟩⟩
  grind [jU]
end Go.Rc

namespace Go.Rc
open Go
def RN(r:aG):Prop:=r.ring=false∧r.asks=[]∧r.final=1∧0≤r.c∧r.c≤99
theorem RN.key{ab:List aG}{i:Nat}(hi:i<ab.length) (lC:i≤99) (h:RN ab[i]):aN ab (i:Int)=⟨31,itoa i⟩:=by
 unfold aN
 rw [if_neg (by omega)]
 simp [cQ hi,h.1]
end Go.Rc
namespace Go.Rc
open Go
def Wf(i:Nat) (v:ByteArray):Rec:=⟨⟨31,itoa i⟩,v,[],0,0,1,false⟩
def CO{α:Type}(l:List α) (p:α→Bool) (j:Int):Prop:=(∃i:Nat,∃x,l[i]?=some x∧p x=true∧(∀j x,j<i→l[j]?=some x→p x=false)∧j=i)∨((∀x∈l,p x=false)∧j = -1)
end Go.Rc
namespace Go.Rc
open Go
structure WD where
 (ar a1 a2:Option Addr) (r cr n1 c1 n2 c2 m v:Nat)
end Go.Rc

namespace Go.Rc
open Go
def BC(a b:Int):Int:=if a<b then -1 else if b<a then 1 else 0
def Wg(l:List Int):Int:=(l.find? fun x=>decide (x≠0)).getD 0
theorem Wh{l:List Int}{i:Nat}(hi:i<l.length) (gV:∀j x,j<i→l[j]?=some x→x=0) (h:l[i]≠0):Wg l=l[i]:=by grind [Wg,lG]
theorem RO{l:List Int}(h:∀x∈l,x=0):Wg l=0:=by grind [Wg,List.find?_eq_none]
theorem RP{a b:Key}:Wg [BC a.kind b.kind,Lib.compareBytes a.text.data.toList b.text.data.toList]=cw a b:=by
 unfold Wg BC cw
 grind
theorem GG{α:Type}{R:α→List Value→Prop}{x y:α}{r s:List Value}(h1:R x r) (h2:R y s):∀(i:Nat) (z:α) (t:List Value),[x,y][i]?=some z→[r,s][i]?=some t→R z t:=fun i z t hz ht=>by grind
theorem gA.shape{ab:List aG}{k:Key}(h:gA ab k):∃i:Nat,i≤99∧k.text=itoa i∧(30≤k.kind∧k.kind≤32):=by
 cases h with
 | cell h=>rename_i n;exact⟨n,h,by unfold du;rw [if_neg (by omega)],by unfold du;rw [if_neg (by omega)];simp⟩
 | gQ h lC=>rename_i i;exact⟨i,lC,by unfold aN;rw [if_neg (by omega)],by grind [fM]⟩
theorem gA.gY{ab:List aG}{k:Key}(h:gA ab k):gY k:=by
 obtain⟨_,_,_,h1⟩:=h.shape;exact .inr (by omega)
theorem uA{ab:List aG}{k:Key}(h:gA ab k) (hc:aA k=true):k.kind=32:=by
 cases h with
 | cell h=>grind [mO]
 | gQ h lC=>grind [ck,fM]
theorem CO.any{α:Type}{l:List α}{p:α→Bool}{j:Int}(h:CO l p j):decide (0≤j)=l.any p:=by
 rcases h with⟨i,x,h1,h2,_,rfl⟩ | ⟨h1,rfl⟩
 ·
  grind
 grind
def OB(ab:List aG) (x:Rec):Prop:=gA ab x.key∧az x.key=false∧(∀a∈x.reads,gA ab a)∧fK x=true
def qC(ab:List aG) (x:dQ):Prop:=0≤x.ad∧x.ad≤1073741824∧(xZ x.ae∧∀y∈x.ae,RM x.ad y)∧(∀y∈x.ae,∃i:Nat,i≤99∧y.key=⟨30,itoa i⟩)∧x.ae.length≤64∧(∀r∈x.ak,OB ab r)∧vK x.ak∧x.ak.length≤4000∧∀r∈x.ak,r.ax≤x.ad
end Go.Rc

namespace Go.Rc
open Go
section
variable {l l':List aG}
def dh(l l':List aG):Prop:=l.map (·.ring)=l'.map (·.ring)
theorem dh.len(h:dh l l'):l.length=l'.length:=by simpa using congrArg List.length h
theorem dh.rg(h:dh l l') (i:Nat):aD l i=aD l' i:=by
 have h2:=congrArg (fun x=>x[i]?) h
 grind [aD]
theorem dh.lo(h:dh l l'):∀k,cj l k=cj l' k
 | 0=>rfl
 | k+1=>by unfold cj;rw [h.rg k,h.lo k]
theorem pO:∀{l l':List aG},dh l l'→(l.takeWhile (·.ring)).length=(l'.takeWhile (·.ring)).length
 | [],[],_=>rfl
 | [],_::_,h=>by simp [dh] at h
 | _::_,[],h=>by simp [dh] at h
 | x::r,y::s,h=>by
  simp only [dh,List.map_cons,List.cons.injEq] at h;have ih:=pO (l:=r) (l':=s) h.2
  grind [List.takeWhile_cons]
theorem dh.hi(h:dh l l') (m:Nat):eY l m=eY l' m:=by grind [eY,pO,dh,List.map_drop]
theorem dh.block(h:dh l l') (n:Int):block l n=block l' n:=by
 unfold Go.Rc.block
 rw [h.len,h.rg,h.lo,h.hi]
theorem dh.may(h:dh l l') (i:Nat) (c:Bool) (n:Int):iC l i c n=iC l' i c n:=by grind [iC,gP,rg,block]
theorem dh.ask(h:dh l l') (i:Nat) (g:Bool) (k:Nat) (x:Ask):gG l i g k x=gG l' i g k x:=by
 unfold gG
 rw [h.may,h.may]
theorem dh.gQ(h:dh l l') (i:Nat) (r:aG):o7 l i r↔o7 l' i r:=by
 unfold o7
 simp only [h.ask]
theorem dh.set{i:Nat}(hi:i<l.length) {r:aG}(hr:r.ring=aD l i):dh (l.set i r) l:=by
 unfold dh
 rw [List.map_set,hr,cQ hi];refine List.ext_getElem? fun j=>?_
 grind
def nY(l:List aG) (i:Nat):Prop:=l.length≤8∧∀(j:Nat) (r:aG),l[j]?=some r→j<i→o7 l j r
theorem nY.start(h:l.length≤8):nY l 0:=⟨h,fun _ _ _ h=>by omega⟩
theorem nY.set{i:Nat}(h:nY l i) (hi:i<l.length) {r:aG}(hr:r.ring=aD l i) (ho:o7 l i r):nY (l.set i r) (i+1):=by
 have hs:=dh.set hi hr;refine⟨by rw [List.length_set];exact h.1,fun j x hx hj=>?_⟩;rw [hs.gQ];rw [List.getElem?_set] at hx
 split at hx
 ·
  grind
 exact h.2 j x hx (by omega)
theorem nY.ok(h:nY l l.length):aw l:=⟨by have:=h.1;omega,fun i r hr=>h.2 i r hr (List.getElem?_eq_some_iff.1 hr).1⟩
theorem Wi{i k:Nat}{g:Bool}{x:Ask}{most:Int}(hm:most=if x.cell then 4 else gP l i) (h0:0≤x.n) (h1:x.n<most) (hp:x.pick=true→g=false∧k≠0∧0≤x.Ix∧x.Ix<most) (he:x.pick=false→x.Ix=0):gG l i g k x=true:=by grind [iC,gG]
end
end Go.Rc

namespace Go.Rc
open Go
def As.ju(E d:Nat):As where
 fp x:=x=d
 ok Z w:=ID Z w E d
 lt h x hx:=by subst hx;exact h.lt
 mono hZ h:=by
  obtain⟨l,a,n,c,t,h1,h2,h3⟩:=h;exact⟨l,a,n,c,t,h1,SR.mono h2 (fun b hb _=>hZ b hb) (fun _ _ h=>h),h3⟩
 st hs hc h:=by
  obtain⟨l,a,n,c,t,h1,h2,h3⟩:=h;exact⟨l,a,n,c,t,(As.blk d E _).st (Z:=fun _=>False) hs (fun x hx=>hc x (hx.imp id False.elim)) h1,SR.st hs (fun x hx=>hc x (.inr hx)) (fun _ _ h=>h) h2,h3⟩
theorem As.gd{E d:Nat}{Z:Nat→Prop}{w:World}(h:(As.ju E d).ok Z w):ID Z w E d:=h
def RR.cT:RR Change:=RR.flat Change.cells
def begun(g:Bool):aG:=⟨g,[],0,0⟩
theorem Ow.flat{α:Type}{f:α→List Value}{b T k n:Nat}{Z:Nat→Prop}{w:World}{xs:List α}{l:List Value}(h:cW w b T l) (hl:l=(xs.map f).flatten) (hk:∀x∈xs,(f x).length=k) (h1:∀u∈l,u.oneCell'=true) (hn:n=xs.length) (hm:xs.length≤140737488355328) :
  Ow (RR.flat f) T k Z w (some ⟨b,0,none⟩) n n xs:=by
 subst hn hl
 have hlen:∀(ys:List α),(∀x∈ys,(f x).length=k)→(ys.map f).flatten.length=ys.length*k:=by
  intro ys
  induction ys with
  | nil=>simp
  | cons y ys ih=>grind
 refine⟨rfl,xs.map f,by simp,by simpa using hk,by simpa using OL.blk (k:=k) h (Nat.zero_le _) (m:=xs.length) (hlen xs hk) h1 hm,fun i x r hx hr=>?_⟩;rw [List.getElem?_map,hx] at hr
 simp at hr
 exact hr.symm
def As.ahH{ι:Type}(b T:Nat) (F:ι→List Value):As where
 fp x:=x=b
 ok _ w:=∃i,cW w b T (F i)
 lt h x hx:=by obtain⟨i,h⟩:=h;subst hx;exact h.lt
 mono _ h:=h
 st hs hc h:=by obtain⟨i,h⟩:=h;exact⟨i,(As.blk b T _).st (Z:=fun _=>False) hs (fun x hx=>hc x (hx.imp id False.elim)) h⟩
theorem Ow.ring{E n c i b:Nat}{Z:Nat→Prop}{w:World}{a:Option Addr}{l:List aG}(h:Ow RR.gQ E 4 Z w a n c l) (ha:a=some ⟨b,0,none⟩) (hle:l.length≤140737488355328) (hi:i<l.length):w.rangeAt b (0+i*4) [.bool l[i].ring]:=by
 obtain⟨b',r,h1,_,h3,h4⟩:=Ow.at h hle (ao hi);rw [ha] at h1;simp only [Option.some.injEq,Addr.mk.injEq,and_true] at h1;subst h1;obtain⟨a',n',c',rfl,_⟩:=h3;intro j v hv
 cases j with
 | zero=>exact h4 0 v hv
 | succ j=>simp at hv
theorem DU(l:List aG) (m:Nat) (hm:m≤l.length):eY l m≤l.length:=by grind [eY,List.takeWhile_sublist]
theorem BD{l:List aG}{i:Nat}(hi:i<l.length):0≤gP l i∧gP l i≤l.length:=by
 have h1:=DU l (i+1) (by omega)
 have hb:block l (i:Int)=if aD l i then ((cj l i:Int),(eY l (i+1):Int)) else ((i:Int),(i:Int)+1):=by
  unfold block;grind
 grind [gP]
theorem L5{l:List aG}{i:Nat}{g:Bool}{xs:List Ask}{x:Ask}(h:∀(k:Nat) y,xs[k]?=some y→gG l i g k y=true) (hx:gG l i g xs.length x=true):∀(k:Nat) y,(xs++[x])[k]?=some y→gG l i g k y=true:=fun k y hy=>by grind
end Go.Rc

namespace Go.Rc
open Go
theorem vK.ne{l:List Rec}(h:vK l) {i:Nat}(hi:i<l.length):∀y∈l.take i,y.key≠l[i].key:=fun y hy e=>by
 obtain⟨j,hj,rfl⟩:=List.mem_iff_getElem.1 hy
 have kR:j<i:=by simp at hj;omega
 have h1:cw l[j].key l[i].key<0:=List.pairwise_iff_getElem.1 h j i (by omega) hi kR
 grind [lj]
end Go.Rc

namespace Go.Rc
open Go
section
variable {κ:Type}{enc:κ→Value}
def QW(enc:κ→Value) (w:World) (b m:Nat) (l left:List (κ × Value)) (cur:Option (κ × Value)):Prop:=
 ∃es clock since seen,w.heap[m]?=some (.map es clock)∧(es.toList.map (fun e=>(e.key,e.val))=l.map (fun p=>(enc p.1,p.2))∧(l.map (·.1)).Nodup∧(∀e∈es.toList,e.born<clock)∧(es.toList.map (·.born)).Nodup)∧
  w.heap[b]?=some (.mapIter (some m) since seen clock)∧b≠m∧since≤clock∧(∀e∈es.toList,e.born<since)∧
  (leftOf es seen).toList.map (fun e=>(e.key,e.val))=left.map (fun p=>(enc p.1,p.2))∧
  ∀p,cur=some p→∃e∈es.toList,seen.back?=some e.born∧e.key=enc p.1∧e.val=p.2
variable {w w':World}{b m:Nat}{l left:List (κ × Value)}{cur:Option (κ × Value)}
theorem QW.lt(h:QW enc w b m l left cur):b<w.heap.size∧m<w.heap.size:=by
 obtain⟨es,clock,since,seen,h1,_,h3,_⟩:=h;exact⟨(Array.getElem?_eq_some_iff.1 h3).1,(Array.getElem?_eq_some_iff.1 h1).1⟩
def As.mit(enc:κ→Value) (b m:Nat) (l left:List (κ × Value)) (cur:Option (κ × Value)):As where
 fp x:=x=b∨x=m
 ok _ w:=QW enc w b m l left cur
 lt h x hx:=by rcases hx with rfl | rfl;exact h.lt.1;exact h.lt.2
 mono _ h:=h
 st hs hc h:=by
  have hl:=h.lt;obtain⟨es,clock,since,seen,h1,h2,h3,h4⟩:=h;exact⟨es,clock,since,seen,by rw [hc m (.inl (.inr rfl)) hl.2];exact h1,h2,by rw [hc b (.inl (.inl rfl)) hl.1];exact h3,h4⟩
theorem As.abE{Z:Nat→Prop}(h:(As.mit enc b m l left cur).ok Z w):QW enc w b m l left cur:=h
def CP(enc:κ→Value):Option (κ × Value)→Array Value
 | none=>#[.bool false]
 | some p=>#[.bool true,enc p.1,p.2]
theorem RQ(r:Option (κ × Value)):(CP enc r)[0]?=some (.bool r.isSome):=by cases r <;> rfl
theorem pP:∀(L:List MapEntry) (j:Nat) (e:MapEntry),(L.map (·.born)).Nodup→L[j]?=some e→L.filter (fun x=>!(x.born == e.born))=L.eraseIdx j
 | [],_,_,_,h=>by simp at h
 | x::r,0,e,hn,h=>by
  simp at h
  subst h;simp only [List.map_cons,List.nodup_cons] at hn;rw [List.filter_cons];simp only [beq_self_eq_true,Bool.not_true,Bool.false_eq_true,if_false,List.eraseIdx_zero,List.tail_cons];refine List.filter_eq_self.2 fun y hy=>?_
  have:y.born≠x.born:=fun e=>hn.1 (e ▸ List.mem_map.2 ⟨y,hy,rfl⟩)
  simpa using this
 | x::r,j+1,e,hn,h=>by
  simp only [List.map_cons,List.nodup_cons] at hn;simp only [List.getElem?_cons_succ] at h;have hx:x.born≠e.born:=fun h2=>hn.1 (h2 ▸ List.mem_map.2 ⟨e,List.mem_of_getElem? h,rfl⟩);rw [List.filter_cons,if_pos (by simpa using hx),pP r j e hn.2 h,List.eraseIdx_cons_succ]
theorem GH(es:Array MapEntry) (seen:Array Nat) (b:Nat):(leftOf es (seen.push b)).toList=(leftOf es seen).toList.filter fun x=>!(x.born == b):=by
 unfold leftOf
 rw [Array.toList_filter,Array.toList_filter,List.filter_filter]
 congr 1
 funext x
 rw [Array.contains_push,Bool.not_or,Bool.and_comm]
theorem map_eraseIdx{α β:Type}(f:α→β):∀(l:List α) (j:Nat),(l.eraseIdx j).map f=(l.map f).eraseIdx j
 | [],_=>by simp
 | _::_,0=>by simp
 | x::r,j+1=>by simp [map_eraseIdx f r j]
variable {P:Program}{kv:KV}{n:Nat}{K:KV→World→Prop}{d:Tmp}{ty:TypeId}{pos:String}{af:Array Edge}{g:Option (Nat × Bool)}{T kt e:TypeId}{x:Operand}
theorem OX.range(hT:P.underlying T=some (.map kt e)) (hm:KM enc w m l) (hx:ev kv x=some (.map (some m))) (hd:Nat.blt d n=true)
  (h:∀b w',aV [] w w'→w.heap.size≤b→QW enc w' b m l l none→K ((d,.pointer (some ⟨b,0,none⟩))::kv) w'):OX P ⟨some d,.range T x,ty,pos,af,g⟩ n kv w K:=by
 obtain⟨es,clock,h1,h2⟩:=hm;have ee:m<w.heap.size:=(Array.getElem?_eq_some_iff.1 h1).1;refine⟨rfl,hd,by simp [known,opers,hx],?_⟩
 have hr:(execOp (lX kv) ⟨some d,.range T x,ty,pos,af,g⟩).run P w=.ok (.value (.pointer (some ⟨w.heap.size,0,none⟩))) (w.alloc (.mapIter (some m) clock #[] clock)):=by
  simp only [execOp,aJ hx,Sem.run_bind,run_range_map w T kt e m es clock hT h1,Result.andThen_ok];rfl
 rw [hr];refine h _ _ (mx _ _) (Nat.le_refl _) ⟨es,clock,clock,#[],by rw [heap_alloc_old w _ (h:=ee)];exact h1,h2,heap_alloc_new _ _,by omega,Nat.le_refl _,h2.2.2.1,?_,fun p hp=>by cases hp⟩
 have:leftOf es #[]=es:=by unfold leftOf;simp
 rw [this];exact h2.1
theorem L6(hm:QW enc w b m l left cur):∃(r:Option (κ × Value)) (xd:List (κ × Value)) (w':World),(Instr.next (.pointer (some ⟨b,0,none⟩)) false ty).run P w=.ok (.tuple (CP enc r)) w'∧aV [b] w w'∧
  (match r with | none=>left=[]∧xd=[] | some p=>∃j,left[j]?=some p∧xd=left.eraseIdx j)∧QW enc w' b m l xd r:=by
 obtain⟨es,clock,since,seen,h1,h2,h3,h4,h5,h6,h7,h8⟩:=hm;have ee:b<w.heap.size:=(Array.getElem?_eq_some_iff.1 h3).1
 have j9:∀y∈(leftOf es seen).toList,y∈es.toList:=fun y hy=>by
  unfold leftOf at hy
  rw [Array.toList_filter] at hy;exact(List.mem_filter.1 hy).1
 have Uj:=next_test_false seen es since clock h6 h5
 have e1:(leftOf es seen).filter (fun x=>decide (x.born<since))=leftOf es seen:=Array.filter_eq_self.2 fun y hy=>by
  have:=h6 y (j9 y (by simpa using hy))
  simpa using this
 have e2:(leftOf es seen).filter (fun x=>decide (x.born≥since))=#[]:=by
  rw [Array.filter_eq_empty_iff];intro y hy
  have:=h6 y (j9 y (by simpa using hy))
  simp
  omega
 have hlen:(leftOf es seen).size=left.length:=by simpa using congrArg List.length h7
 by_cases h0:(leftOf es seen).size=0
 ·
  have hL:leftOf es seen=#[]:=Array.eq_empty_of_size_eq_zero h0
  have Lt:left=[]:=by cases left with
   | nil=>rfl
   | cons a r=>rw [h0] at hlen;simp at hlen
  subst Lt;refine⟨none,[],w,?_,aV.refl _ _,⟨rfl,rfl⟩,es,clock,since,seen,h1,h2,h3,h4,h5,h6,h7,fun p hp=>by cases hp⟩;simp only [Instr.next,getObj,Sem.run_bind,Sem.run,h3,h1,Result.andThen,Uj,Bool.false_eq_true,if_false];rw [show(es.filter fun e=>!seen.contains e.born)=leftOf es seen from rfl,hL]
  simp [choose,Sem.run,Question.forced,CP]
 have kW:(leftOf es seen).isEmpty=false:=by simp [Array.isEmpty,h0]
 have pU:∃(j:Nat) (w1:World),j<(leftOf es seen).size∧w1.heap=w.heap∧aV [] w w1∧(choose (Question.mapNext (leftOf es seen).size)).run P w=.ok j w1:=by
  by_cases hf:(leftOf es seen).size≤1
  ·
   exact⟨0,w,by omega,rfl,aV.refl _ _,by simp [choose,Sem.run,Question.forced,hf]⟩
  exact⟨_,w.drew,Nat.mod_lt _ (by omega),rfl,⟨rfl,rfl,rfl,Nat.le_refl _,Nat.le_succ _,fun _ _ _=>rfl⟩,by
   simp only [choose,Sem.run,Question.forced,decide_eq_true_eq,hf,if_false,Question.cut]
   rfl⟩
 obtain⟨j,w1,hj,hh,hc1,lF⟩:=pU;obtain⟨y,hy⟩:∃y,(leftOf es seen)[j]?=some y:=⟨_,Array.getElem?_eq_getElem hj⟩
 have Ng:(leftOf es seen).toList[j]?=some y:=by rw [Array.getElem?_toList];exact hy
 have hye:y∈es.toList:=j9 y (List.mem_of_getElem? Ng);obtain⟨p,hp⟩:∃p,left[j]?=some p:=⟨_,List.getElem?_eq_getElem (by omega)⟩
 have hpe:(y.key,y.val)=(enc p.1,p.2):=by
  have:=congrArg (fun x=>x[j]?) h7
  simp only [List.getElem?_map,Ng,hp,Option.map_some,Option.some.injEq] at this;exact this
 simp only [Prod.mk.injEq] at hpe
 have Gc:((leftOf es seen).toList.map (·.born)).Nodup:=by
  unfold leftOf
  rw [Array.toList_filter];exact(List.filter_sublist.map _).nodup h2.2.2.2
 refine⟨some p,left.eraseIdx j,{w1 with heap:=w1.heap.setIfInBounds b (.mapIter (some m) since (seen.push y.born) clock)},?_,?_,⟨j,hp,rfl⟩,es,clock,since,seen.push y.born,?_,h2,?_,h4,h5,h6,?_,?_⟩
 ·
  simp only [Instr.next,getObj,Sem.run_bind,Sem.run,h3,h1,Result.andThen,Uj,Bool.false_eq_true,if_false];rw [show(es.filter fun e=>!seen.contains e.born)=leftOf es seen from rfl,e1,e2];simp only [kW,Bool.false_eq_true,if_false,Array.empty_append,Array.append_empty,Array.size_map,lF,Array.getElem?_map,hy,Option.map_some]
  have yN:(setObj b (.mapIter (some m) since (seen.push y.born) clock)).run P w1=.ok () {w1 with heap:=w1.heap.setIfInBounds b (.mapIter (some m) since (seen.push y.born) clock)}:=by
   simp only [setObj,Sem.run];rw [hh,h3]
  simp only [Sem.run_bind,yN,Result.andThen,CP,hpe.1,hpe.2]
  try rfl
 ·
  have:=kn w1 b (.mapIter (some m) since (seen.push y.born) clock)
  exact aV.trans (aV.mono hc1 (by simp)) this
 ·
  show(w1.heap.setIfInBounds b _)[m]?=_
  rw [hh,Array.getElem?_setIfInBounds_ne h4];exact h1
 ·
  show(w1.heap.setIfInBounds b _)[b]?=_
  rw [hh,Array.getElem?_setIfInBounds_self]
  simp [ee]
 ·
  rw [GH,pP _ j y Gc Ng,map_eraseIdx,map_eraseIdx,h7]
 intro q hq;simp only [Option.some.injEq] at hq;subst hq;exact⟨y,hye,Array.back?_push,hpe.1,hpe.2⟩
theorem OX.next(hm:QW enc w b m l left cur) (hx:ev kv x=some (.pointer (some ⟨b,0,none⟩))) (hd:Nat.blt d n=true)
  (h:∀r xd w',aV [b] w w'→(match r with | none=>left=[]∧xd=[] | some p=>∃j,left[j]?=some p∧xd=left.eraseIdx j)→QW enc w' b m l xd r→K ((d,.tuple (CP enc r))::kv) w'):OX P ⟨some d,.next x false,ty,pos,af,g⟩ n kv w K:=by
 obtain⟨r,xd,w',h1,h2,h3,h4⟩:=L6 (P:=P) (ty:=ty) hm;refine⟨rfl,hd,by simp [known,opers,hx],?_⟩
 have hr:(execOp (lX kv) ⟨some d,.next x false,ty,pos,af,g⟩).run P w=.ok (.value (.tuple (CP enc r))) w':=by
  simp only [execOp,aJ hx,Sem.run_bind,h1,Result.andThen_ok];rfl
 rw [hr];exact h _ _ _ h2 h3 h4
theorem PV.entry{p:κ × Value}(hm:QW enc w b m l left (some p)) (hx:ev kv x=some (.pointer (some ⟨b,0,none⟩))):PV P (.entry x) ty kv w (.tuple #[enc p.1,p.2]):=by
 obtain⟨es,clock,since,seen,h1,h2,h3,_,_,_,_,h8⟩:=hm;obtain⟨y,hy,hb,hk,hv⟩:=h8 p rfl;refine⟨rfl,by simp [known,opers,hx],fun _ _ _ _=>?_⟩
 have hf:es.find? (·.born == y.born)=some y:=by rw [← Array.find?_toList];exact find_born y es.toList h2.2.2.2 hy
 have:(Instr.entry (.pointer (some ⟨b,0,none⟩))).run P w=.ok (.tuple #[enc p.1,p.2]) w:=by
  simp only [Instr.entry,getObj,Sem.run_bind,Sem.run,h3,h1,hb,Result.andThen,bne_self_eq_false,Bool.false_eq_true,if_false,hf,hk,hv]
  rfl
 simp only [execOp,aJ hx,Sem.run_bind,this,Result.andThen_ok]
 rfl
end
end Go.Rc

namespace Go.Rc
open Go
theorem pQ{α:Type}:∀{l:List α}{j:Nat}{p q:α},l[j]?=some p→q∈l→q=p∨q∈l.eraseIdx j
 | [],_,_,_,_,h=>by cases h
 | x::r,0,p,q,h,hq=>by grind
 | x::r,j+1,p,q,h,hq=>by
  rcases List.mem_cons.1 hq with rfl | hq
  ·
   exact .inr (by simp)
  rcases pQ (l:=r) (by simpa using h) hq with h1 | h1
  ·
   exact .inl h1
  exact .inr (by simp [h1])
section
variable {ab:List aG}{aF:List dB}
theorem pY.bS(hR:aw ab) {i0:Nat}{L:List Nat}{u:Nat→Nat}{am:List (Key × Value)}(h:pY ab L u am) (hn:(am.map (·.1)).Nodup) (hr:eL ab aF i0 L u) (hd:∀j∈L,u j=rv ab aF j) :
  ∀p∈am,p.2=.string (valOf ab aF p.1):=fun p hp=>by
 have hg:bZ am p.1=some p.2:=(F9 hn).2 hp
 by_cases hk:∃j∈L,p.1=aN ab (j:Int)
 ·
  obtain⟨j,hj,e⟩:=hk;obtain⟨mL,zl⟩:=hr.ring j hj;rw [e,h.1 j hj] at hg
  grind [jn,j4]
 rw [h.2 p.1 fun j hj e=>hk ⟨j,hj,e⟩] at hg
 cases hg
theorem pY.first{i0:Nat}{L:List Nat}{u:Nat→Nat}{am:List (Key × Value)}(h:pY ab L u am) (hn:(am.map (·.1)).Nodup) (hr:eL ab aF i0 L u):∃p∈am,p.1=aN ab (i0:Int):=
 ⟨(_,_),(F9 hn).1 (h.1 i0 hr.first),rfl⟩
theorem OC{am left ml:List (Key × Value)}{j:Nat}{p:Key × Value}(hd:∀q∈am,q∈left∨bZ ml q.1=some q.2) (he:∀q∈am,q.2=.string (valOf ab aF q.1)) (hj:left[j]?=some p) :
  ∀q∈am,q∈left.eraseIdx j∨bZ (dF ml p.1 (.string (valOf ab aF p.1))) q.1=some q.2:=fun q hq=>by
 rw [fy]
 by_cases e:p.1=q.1
 ·
  grind
 rw [if_neg e]
 rcases hd q hq with h | h
 ·
  rcases pQ hj h with h1 | h1
  ·
   subst h1;exact absurd rfl e
  exact .inl h1
 exact .inr h
end
end Go.Rc

namespace Go.Rc
open Go
def lK(rev:Int) (l:List dB):Prop:=xZ l∧(∀y∈l,RM rev y)∧∀y∈l,(∃i:Nat,i≤9∧y.key=⟨30,itoa i⟩)∧y.value.size≤1000
theorem lK.nil(rev:Int):lK rev []:=⟨.nil,by simp,by simp⟩
theorem lK.mono{r s:Int}{l:List dB}(h:lK r l) (hrs:r≤s):lK s l:=⟨h.1,fun y hy=>by obtain⟨a,b,c,d,e⟩:=h.2.1 y hy;exact⟨a,b,c,d,by omega⟩,h.2.2⟩
theorem Change.small.key{c:Change}(h:c.small):∃i:Nat,i≤9∧c.key=⟨30,itoa i⟩:=by
 obtain⟨⟨n,h0,h3,hk⟩,_⟩:=h;refine⟨n.toNat,by omega,?_⟩;rw [hk]
 unfold du
 grind
theorem Change.small.ok{c:Change}(h:c.small):gO c.key=true∧az c.key=true:=by
 obtain⟨⟨n,h0,h3,hk⟩,_⟩:=h;obtain⟨m,rfl⟩:∃m:Nat,n=(m:Int):=⟨n.toNat,by omega⟩;rw [hk];exact⟨gA.valid (ab:=[]) (.cell (by omega)),cE (by omega)⟩
theorem lK.put{rev:Int}{l:List dB}{c:Change}(h:lK rev l) (hc:c.small) (h0:0≤rev):lK rev (ij ⟨c.key,c.value,rev⟩ l false):=by
 refine⟨xZ.put h.1,fun y hy=>?_,fun y hy=>?_⟩
 ·
  rcases zB _ _ _ _ hy with rfl | hy
  ·
   have:=hc.2
   exact⟨hc.ok.1,hc.ok.2,by grind,h0,Int.le_refl _⟩
  exact h.2.1 y hy
 rcases zB _ _ _ _ hy with rfl | hy
 ·
  obtain⟨i,hi,hk⟩:=hc.key;exact⟨⟨i,by omega,hk⟩,Nat.le_trans hc.2 (by decide)⟩
 exact h.2.2 y hy
theorem CQ{α:Type} [BEq α] [LawfulBEq α]:∀{l U:List α},l.Nodup→(∀x∈l,x∈U)→l.length≤U.length
 | [],_,_,_=>Nat.zero_le _
 | x::r,U,hn,hs=>by
  have hx:=hs x (by simp);rw [List.nodup_cons] at hn
  have h1:r.length≤(U.erase x).length:=CQ hn.2 fun y hy=>by grind
  grind
theorem lK.len{rev:Int}{l:List dB}(h:lK rev l):l.length≤10:=by
 have hn:(l.map fun y=>y.key).Nodup:=by
  unfold List.Nodup
  rw [List.pairwise_map]
  exact h.1.imp fun {a b} h e=>by grind [lj]
 have:=CQ (U:=(List.range 10).map fun i:Nat=>(⟨30,itoa i⟩:Key)) hn fun k hk=>by
  obtain⟨y,hy,rfl⟩:=List.mem_map.1 hk;obtain⟨i,hi,he⟩:=(h.2.2 y hy).1
  grind
 simpa using this
theorem lK.k99{rev:Int}{l:List dB}(h:lK rev l):∀y∈l,∃i:Nat,i≤99∧y.key=⟨30,itoa i⟩:=fun y hy=>by
 obtain⟨i,hi,he⟩:=(h.2.2 y hy).1;exact⟨i,by omega,he⟩
theorem GI{n:dB}{k:Key}(h:n.key≠k):∀(l:List dB) (b:Bool),(ij n l b).find? (fun x=>x.key == k)=l.find? fun x=>x.key == k
 | [],b=>by grind [ij]
 | x::xs,b=>by
  have hn:(n.key == k)=false:=by simpa using h
  unfold ij
  rw [List.find?_append,List.find?_append,GI h xs]
  have h1:(if (decide (0≤cw x.key n.key) && !b)=true then [n] else []).find? (fun x=>x.key == k)=none:=by grind
  rw [h1,Option.none_or]
  by_cases e:cw x.key n.key=0
  ·
   rw [if_pos e]
   grind [ph]
  grind
theorem vN{n:dB}{k:Key}(h:n.key≠k) (l:List dB):db (ij n l false) k=db l k:=by
 unfold db
 rw [GI h]
theorem RU{n:dB}{l:List dB}{q:Nat}{b:Bool}(hq:q<l.length) {acc r:List dB}(h:acc++ij n (l.drop q) b=r):acc++(if decide (0≤cw l[q].key n.key) && !b then [n] else [])++(if cw l[q].key n.key=0 then [] else [l[q]])++ij n (l.drop (q+1)) (b || decide (0≤cw l[q].key n.key))=r:=by grind [List.drop_eq_getElem_cons,ij]
theorem RV{n:dB}{l m acc:List dB}{b:Bool}(h:acc++ij n m b=ij n l false):acc.length≤l.length+1:=by
 have h1:=congrArg List.length h
 grind [qB]
end Go.Rc

namespace Go.Rc
open Go
section
variable {ab:List aG}{aF:List dB}{rev:Int}(hR:aw ab)
include hR
end
end Go.Rc

namespace Go.Rc
open Go
def Wj(L:List As) (Z:Nat→Prop) (w:World):Prop:=(List.Pairwise (fun(A B:As)=>∀x,A.fp x→¬B.fp x) L)∧∀A∈L,A.ok Z w
def As.many(L:List As):As where
 fp x:=∃A∈L,A.fp x
 ok:=Wj L
 lt h x hx:=by obtain⟨A,hA,hx⟩:=hx;exact A.lt (h.2 A hA) x hx
 mono hZ h:=⟨h.1,fun A hA=>A.mono hZ (h.2 A hA)⟩
 st hs hc h:=⟨h.1,fun A hA=>A.st hs (fun x hx=>hc x (hx.imp (fun hx=>⟨A,hA,hx⟩) id)) (h.2 A hA)⟩
section
variable {w0 w:World}{M Z:Nat→Prop}{A:As}{L l:List As}
theorem St.abH(h:St w0 M Z w l):St w0 M Z w (As.many []::l):=by
 refine⟨h.cT,h.ma,?_,?_,.cons ?_ h.vD,?_⟩
 ·
  intro B hB x hx
  rcases List.mem_cons.1 hB with rfl | hB
  ·
   obtain⟨A,hA,_⟩:=hx;cases hA
  exact h.o9 B hB x hx
 ·
  intro B hB x hx
  rcases List.mem_cons.1 hB with rfl | hB
  ·
   obtain⟨A,hA,_⟩:=hx;cases hA
  exact h.qh B hB x hx
 ·
  intro B _ x hx;obtain⟨A,hA,_⟩:=hx;cases hA
 intro B hB
 rcases List.mem_cons.1 hB with rfl | hB
 ·
  exact⟨.nil,fun A hA=>by cases hA⟩
 exact h.ok B hB
theorem St.Wk(h:St w0 M Z w (A::As.many L::l)):St w0 M Z w (As.many (A::L)::l):=by
 obtain⟨d1,d2⟩:=List.pairwise_cons.1 h.vD;obtain⟨d3,d4⟩:=List.pairwise_cons.1 d2;have hm:(As.many L).ok Z w:=h.ok _ (by simp);refine⟨h.cT,h.ma,?_,?_,.cons ?_ d4,?_⟩
 ·
  intro B hB x hx
  rcases List.mem_cons.1 hB with rfl | hB
  ·
   obtain⟨C,hC,hx⟩:=hx
   rcases List.mem_cons.1 hC with rfl | hC
   ·
    exact h.o9 C (by simp) x hx
   exact h.o9 (As.many L) (by simp) x ⟨C,hC,hx⟩
  exact h.o9 B (by simp [hB]) x hx
 ·
  intro B hB x hx
  rcases List.mem_cons.1 hB with rfl | hB
  ·
   obtain⟨C,hC,hx⟩:=hx
   rcases List.mem_cons.1 hC with rfl | hC
   ·
    exact h.qh C (by simp) x hx
   exact h.qh (As.many L) (by simp) x ⟨C,hC,hx⟩
  exact h.qh B (by simp [hB]) x hx
 ·
  intro B hB x hx;obtain⟨C,hC,hx⟩:=hx
  rcases List.mem_cons.1 hC with rfl | hC
  ·
   exact d1 B (by simp [hB]) x hx
  exact d3 B hB x ⟨C,hC,hx⟩
 intro B hB
 rcases List.mem_cons.1 hB with rfl | hB
 ·
  refine⟨.cons (fun C hC x hx sc=>d1 (As.many L) (by simp) x hx ⟨C,hC,sc⟩) hm.1,fun C hC=>?_⟩
  rcases List.mem_cons.1 hC with rfl | hC
  ·
   exact h.ok C (by simp)
  exact hm.2 C hC
 exact h.ok B (by simp [hB])
theorem St.RW(h:St w0 M Z w (As.many (A::L)::l)):St w0 M Z w (A::As.many L::l):=by
 obtain⟨d1,d2⟩:=List.pairwise_cons.1 h.vD;have hm:(As.many (A::L)).ok Z w:=h.ok _ (by simp);obtain⟨d3,d4⟩:=List.pairwise_cons.1 hm.1;refine⟨h.cT,h.ma,?_,?_,.cons ?_ (.cons ?_ d2),?_⟩
 ·
  intro B hB x hx
  rcases List.mem_cons.1 hB with rfl | hB
  ·
   exact h.o9 _ M0 x ⟨B,.head _,hx⟩
  rcases List.mem_cons.1 hB with rfl | hB
  ·
   obtain⟨C,hC,hx⟩:=hx;exact h.o9 _ M0 x ⟨C,.tail _ hC,hx⟩
  exact h.o9 B (.tail _ hB) x hx
 ·
  intro B hB x hx
  rcases List.mem_cons.1 hB with rfl | hB
  ·
   exact h.qh _ M0 x ⟨B,.head _,hx⟩
  rcases List.mem_cons.1 hB with rfl | hB
  ·
   obtain⟨C,hC,hx⟩:=hx;exact h.qh _ M0 x ⟨C,.tail _ hC,hx⟩
  exact h.qh B (.tail _ hB) x hx
 ·
  intro B hB x hx sc
  rcases List.mem_cons.1 hB with rfl | hB
  ·
   obtain⟨C,hC,sc⟩:=sc;exact d3 C hC x hx sc
  exact d1 B hB x ⟨A,.head _,hx⟩ sc
 ·
  intro B hB x hx;obtain⟨C,hC,hx⟩:=hx;exact d1 B hB x ⟨C,.tail _ hC,hx⟩
 intro B hB
 rcases List.mem_cons.1 hB with rfl | hB
 ·
  exact hm.2 B M0
 rcases List.mem_cons.1 hB with rfl | hB
 ·
  exact⟨d4,fun C hC=>hm.2 C (.tail _ hC)⟩
 exact h.ok B (.tail _ hB)
theorem St.abI{L':List As}(hp:L.Perm L') (h:St w0 M Z w (As.many L::l)):St w0 M Z w (As.many L'::l):=by
 obtain⟨d1,d2⟩:=List.pairwise_cons.1 h.vD;have hm:(As.many L).ok Z w:=h.ok _ (by simp);have fe:∀x,(As.many L').fp x→(As.many L).fp x:=fun x ⟨C,hC,hx⟩=>⟨C,hp.mem_iff.2 hC,hx⟩;refine⟨h.cT,h.ma,?_,?_,.cons (fun B hB x hx=>d1 B hB x (fe x hx)) d2,?_⟩
 ·
  intro B hB x hx
  rcases List.mem_cons.1 hB with rfl | hB
  ·
   exact h.o9 _ M0 x (fe x hx)
  exact h.o9 B (.tail _ hB) x hx
 ·
  intro B hB x hx
  rcases List.mem_cons.1 hB with rfl | hB
  ·
   exact h.qh _ M0 x (fe x hx)
  exact h.qh B (.tail _ hB) x hx
 intro B hB
 rcases List.mem_cons.1 hB with rfl | hB
 ·
  exact⟨hm.1.perm hp (fun h x hx sc=>h x sc hx),fun C hC=>hm.2 C (hp.mem_iff.2 hC)⟩
 exact h.ok B (.tail _ hB)
end
structure RE where
 key:Key
 a:Option Addr
 n:Nat
 c:Nat
 reads:List Key
def RE.as(EK:Nat) (e:RE):As:=As.os RR.key EK 2 e.a e.n e.c e.reads
end Go.Rc

namespace Go.Rc
open Go
section
variable {ab:List aG}{aF:List dB}{val:Key→ByteArray}
theorem pn{f g:Nat}(h:f≤g):∀{l:List Key}{s s':ES},eD ab val f s l=some s'→eD ab val g s l=some s'
 | [],s,s',hu=>hu
 | k::r,s,s',hu=>by
  simp only [eD] at hu ⊢;obtain⟨t,h1,h2⟩:=Option.bind_eq_some_iff.1 hu;rw [rC h h1];exact pn h h2
theorem zC(hR:aw ab):∀(l:List Key) (s:ES),Good ab aF s→(∀k∈l,gA ab k)→∃f s',eD ab val f s l=some s'
 | [],s,_,_=>⟨0,s,rfl⟩
 | k::r,s,hg,hk=>by
  obtain⟨f,t,h1⟩:=RJ (val:=val) hR _ s k hg (hk k (by simp)) (Nat.le_refl _);have h2:=(dm (val:=val) hR f).1 _ _ _ h1 hg (hk k (by simp))
  obtain⟨g,s',h3⟩:=zC hR r t h2.1 fun k Ni=>hk k (by simp [Ni])
  refine⟨max f g,s',?_⟩
  grind [eD,rC,pn,Nat.le_max_right]
theorem CS(hR:aw ab) {f:Nat}:∀{l:List Key}{s s':ES},eD ab val f s l=some s'→Good ab aF s→(∀k∈l,gA ab k)→s'.cU.length+iE ab s'≤s.cU.length+iE ab s
 | [],s,s',h,_,_=>by simp only [eD,Option.some.injEq] at h;subst h;exact Nat.le_refl _
 | k::r,s,s',h,hg,hk=>by
  simp only [eD] at h;obtain⟨t,h1,h2⟩:=Option.bind_eq_some_iff.1 h;have h3:=(dm (val:=val) hR f).1 _ _ _ h1 hg (hk k (by simp));have h4:=(j5 (val:=val) hR f).1 _ _ _ h1 hg (hk k (by simp))
  have h5:=CS hR h2 h3.1 fun k Ni=>hk k (by simp [Ni])
  exact Nat.le_trans h5 h4.2.2
end
theorem L7{ab:List aG}(hR:aw ab) {i:Nat}(hi:i<ab.length):jt ab (aN ab (i:Int))=true:=by
 have rT:=hR.len
 unfold jt
 rw [gA.valid (ab:=ab) (.gQ hi (by omega)),dy hi (by omega)]
 simp
theorem Wl:lJ ⟨0,[],[]⟩:=⟨fun i y h=>by simp at h,fun i r h=>by simp at h,by decide,by decide,by decide,⟨by decide,fun i x h=>by simp at h⟩⟩
theorem lK.lJ{rev:Int}{aF:List dB}(h:lK rev aF) (h0:0≤rev) (h1:rev≤1073741824) (h6:aF.length≤64):lJ ⟨rev,aF,[]⟩:=
 ⟨I3.2 ⟨h.1,h.2.1⟩,fun i r h=>by simp at h,h0,h1,h6,⟨Nat.zero_le _,fun i x h=>by simp at h⟩⟩
end Go.Rc

namespace Go.Rc
open Go
def CT(x:Rec):Int:=16+x.key.text.size+x.value.size+8*x.reads.length
def mT(l:List Rec):Int:=(l.map CT).sum
def L8(x:Rec):Prop:=x.key.text.size≤1000∧x.value.size≤1073741824∧x.reads.length≤4000
theorem L8.size{x:Rec}(h:L8 x):0≤CT x∧CT x≤1100000000:=by
 unfold CT
 obtain⟨a,b,c⟩:=h
 omega
theorem GJ{l:List Rec}{i:Nat}(hi:i<l.length):mT (l.take (i+1))=mT (l.take i)+CT l[i]:=by grind [mT,List.take_succ_eq_append_getElem]
theorem CU:∀{l:List Rec},(∀x∈l,L8 x)→0≤mT l∧mT l≤1100000000*l.length
 | [],_=>by simp [mT]
 | x::r,h=>by
  have h1:=(h x (by simp)).size
  have h2:=CU (l:=r) fun y hy=>h y (by simp [hy])
  grind [mT]
theorem GK{c s:Int}(hc:0≤c∧c≤1073741824) (hs:0≤s∧s≤1100000000):-9223372036854775808≤c*s∧c*s≤9223372036854775807:=by
 have h1:=Int.mul_nonneg hc.1 hs.1;have h2:=Int.mul_le_mul hc.2 hs.2 hs.1 (by decide:(0:Int)≤1073741824)
 omega
theorem OD{α:Type}{out m:List α}{x:α}(p:Nat) (h:out.Perm m):(([]++out.take p)++[x]++out.drop p).Perm (m++[x]):=by
 have h1:(out.take p++[x]++out.drop p).Perm (out++[x]):=by grind [List.perm_append_comm,List.take_append_drop]
 rw [List.nil_append];exact h1.trans (h.append_right _)
theorem CV(l:List Rec) (k:Key):(jq l k).Sublist l:=List.filter_sublist
def As.rgo(c:Prop) (b o:Nat) (r:List Value):As where
 fp _:=False
 ok Z w:=c→(As.rg b o r).ok Z w
 lt _ _ hx:=hx.elim
 mono hZ h:=fun h0=>(As.rg b o r).mono hZ (h h0)
 st hs hc h:=fun h0=>(As.rg b o r).st hs hc (h h0)
theorem As.gro{c:Prop}{b o:Nat}{r:List Value}{Z:Nat→Prop}{w:World}(hc:c) (h:(As.rgo c b o r).ok Z w):w.rangeAt b o r:=(h hc).2.2
theorem Rd.opt{α:Type}{R:RR α}{k n c:Nat}{Z:Nat→Prop}{w:World}{a:Option Addr}{xs:List α}(h:Rd R k Z w a n c xs) (hz:∀b,Z b→b<w.heap.size) (p:Nat):∃b o r,(∀hp:p<xs.length,a=some ⟨b,o,none⟩∧r.length=k∧R.r Z w xs[p] r)∧(As.rgo (p<xs.length) b (o+p*k) r).ok Z w:=by
 by_cases hp:p<xs.length
 ·
  obtain⟨b,o,r,h1,h2,h3,h4,h5⟩:=Rd.at h hp;exact⟨b,o,r,fun _=>⟨h1,h2,h3⟩,fun _=>⟨h5,hz b h5,h4⟩⟩
 exact⟨0,0,[],fun hp'=>absurd hp' hp,fun hp'=>absurd hp' hp⟩
theorem et.one(x:et) (a1:Option Addr) (n1 c1:Nat) (a2:Option Addr) (n2 c2:Nat):∀u∈x.row a1 n1 c1 a2 n2 c2,u.oneCell'=true:=by simp [et.row,Value.oneCell']
end Go.Rc

namespace Go.Rc
open Go
structure vO where
 ab:List aG
 base:dQ
 goals:List Key
 stack:List et
 cU:List Key
structure Ma where
 u:Option Addr
 nu:Nat
 cu:Nat
 i:Option Addr
 ni:Nat
 ci:Nat
 r:Option Addr
 nr:Nat
 cr:Nat
 g:Option Addr
 ng:Nat
 cg:Nat
 f:Option Addr
 nf:Nat
 cf:Nat
 p:Option Addr
 np:Nat
 cp:Nat
def vO.row(t:vO) (A:Ma):List Value:=[.slice A.u A.nu A.cu,.int .i64 t.base.ad,.slice A.i A.ni A.ci,.slice A.r A.nr A.cr,.slice A.g A.ng A.cg,.slice A.f A.nf A.cf,.slice A.p A.np A.cp]
structure vO.In (t:vO) (A:Ma) (Z:Nat→Prop) (w:World):Prop where
 u:Rd RR.gQ 4 Z w A.u A.nu A.cu t.ab
 i:Rd RR.aF 4 Z w A.i A.ni A.ci t.base.ae
 r:Rd RR.fV 8 Z w A.r A.nr A.cr t.base.ak
 g:Rd RR.key 2 Z w A.g A.ng A.cg t.goals
 f:Rd RR.pX 6 Z w A.f A.nf A.cf t.stack
 p:Rd RR.key 2 Z w A.p A.np A.cp t.cU
structure vO.In5 (t:vO) (A:Ma) (Z:Nat→Prop) (w:World):Prop where
 u:Rd RR.gQ 4 Z w A.u A.nu A.cu t.ab
 i:Rd RR.aF 4 Z w A.i A.ni A.ci t.base.ae
 r:Rd RR.fV 8 Z w A.r A.nr A.cr t.base.ak
 g:Rd RR.key 2 Z w A.g A.ng A.cg t.goals
 f:Rd RR.pX 6 Z w A.f A.nf A.cf t.stack
structure vO.Sz (t:vO):Prop where
 u:t.ab.length≤1000000
 a:∀x∈t.ab,x.asks.length≤1000
 i:t.base.ae.length≤1000000
 r:t.base.ak.length≤1000000
 f:t.stack.length≤1000000
 g:t.goals.length≤1000000
 p:t.cU.length≤1000000
end Go.Rc

namespace Go.Rc
open Go
structure qD where
 a:Option Addr
 n:Nat
 c:Nat
 a2:Option Addr
 n2:Nat
 c2:Nat
def et.DV(x:et × qD):List Value:=x.1.row x.2.a x.2.n x.2.c x.2.a2 x.2.n2 x.2.c2
def RR.DX:RR (et × qD):=RR.flat et.DV
theorem zD{α:Type}{l:List α}{a:α}(h:l.getLast?=some a):l.dropLast++[a]=l:=by
 rcases List.eq_nil_or_concat l with rfl | ⟨m,b,rfl⟩
 ·
  cases h
 simp at h
 subst h
 simp
def eM(L:List (et × qD)):FZ:=
 ⟨fun Z w=>∀y∈L,Rd RR.key 2 Z w y.2.a y.2.n y.2.c y.1.reads∧Rd RR.str 1 Z w y.2.a2 y.2.n2 y.2.c2 y.1.ah,fun hZ h y hy=>⟨(h y hy).1.mono hZ,(h y hy).2.mono hZ⟩,fun h1 h2 h y hy=>⟨(h y hy).1.st h1 h2,(h y hy).2.st h1 h2⟩⟩
theorem eM.last{L:List (et × qD)}{Z:Nat→Prop}{w:World}{a a2:Option Addr}{n c n2 c2:Nat}{pl:List Key}{ql:List ByteArray}(h:(eM L.dropLast).p Z w) (hl:L=[]∨∃f,L.getLast?=some (f,⟨a,n,c,a2,n2,c2⟩)∧pl=f.reads∧ql=f.ah) (hk:Rd RR.key 2 Z w a n c pl) (hy:Rd RR.str 1 Z w a2 n2 c2 ql):(eM L).p Z w:=fun y hm=>by
 rcases hl with rfl | ⟨f,h1,rfl,rfl⟩
 ·
  cases hm
 have e:=zD h1;rw [← e] at hm
 rcases List.mem_append.1 hm with hm | hm
 ·
  exact h y hm
 grind
theorem eM.nil(Z:Nat→Prop) (w:World):(eM ([]:List (et × qD)).dropLast).p Z w:=fun y hy=>by cases hy
theorem eM.pX{L:List (et × qD)}{E n c:Nat}{a:Option Addr}{Z:Nat→Prop}{w:World}(h:Ow RR.DX E 6 Z w a n c L) (hf:(eM L).p Z w) (h4:∀y∈L,y.1.reads.length≤4000∧y.1.ah.length≤4000):Ow RR.pX E 6 Z w a n c (L.map Prod.fst):=by
 obtain⟨hn,rows,hl,hk,h1,hx⟩:=h;refine⟨by rw [hn,List.length_map],rows,by rw [hl,List.length_map],hk,h1,fun i x r h2 h3=>?_⟩;rw [List.getElem?_map] at h2;obtain⟨y,hy,rfl⟩:=Option.map_eq_some_iff.1 h2;have hm:=List.mem_of_getElem? hy;have hr:r=et.DV y:=hx i y r hy h3;obtain⟨h5,h6⟩:=h4 y hm;obtain⟨h7,h8⟩:=hf y hm;exact⟨_,_,_,_,_,_,hr,h7,h8,h5,h6⟩
end Go.Rc

namespace Go.Rc
open Go
structure BK (ab:List aG) (aF:List dB) (rev:Int) (b:dQ):Prop where
 ke:Good ab aF ⟨b,[],[],0⟩
 zF:CN ⟨b,[],[],0⟩
 rv:b.ad=rev
 CW:DL rev aF
 zG:aF.length≤64
section
variable {ab:List aG}{aF:List dB}{rev:Int}{b:dQ}
theorem BK.lJ(h:BK ab aF rev b):lJ b:=
 ⟨by rw [h.rv,show b.ae=aF from h.ke.aF];exact h.CW,fun i r hr=>(h.zF.v r (List.mem_of_getElem? hr)).2,h.zF.r0,h.zF.r1,by rw [show b.ae=aF from h.ke.aF];exact h.zG,h.zF.st.qt h.ke.len fun r hr=>(h.zF.v r hr).1⟩
theorem BK.KJ(h:BK ab aF rev b) (g:List Key):BK ab aF rev (dT b g false):=⟨h.ke.mark g false,h.zF.KJ g,h.rv,h.CW,h.zG⟩
theorem BK.KL(h:BK ab aF rev b) {g:List Key}(hc:∀x∈g,aA x=true):BK ab aF rev (dT b g true):=⟨h.ke.mark g true,h.zF.KL hc,h.rv,h.CW,h.zG⟩
theorem BK.put(h:BK ab aF rev b) {r:Rec}(hk:gA ab r.key) (hr:r.reads.length≤4000∧∀a∈r.reads,gA ab a) (h4:(!(aC b.ak r.key).isSome && decide (4000≤b.ak.length))=false) (hv:fK r=true) (Wm:r.ax≤b.ad):BK ab aF rev {b with ak:=fR b.ak r}:=
 ⟨h.ke.put (cU:=[]) hk hr h4,h.zF.put (cU:=[]) hv Wm,h.rv,h.CW,h.zG⟩
theorem BK.sub(h:BK ab aF rev b) {rs:List Rec}(hs:rs.Sublist b.ak):BK ab aF rev {b with ak:=rs}:=
 ⟨⟨h.ke.aF,Nat.le_trans hs.length_le h.ke.len,fun r hr=>h.ke.key r (hs.subset hr),fun r hr=>h.ke.Ic r (hs.subset hr),.nil,fun k=>.inl rfl⟩,⟨h.zF.st.sublist hs,fun r hr=>h.zF.v r (hs.subset hr),h.zF.r0,h.zF.r1⟩,h.rv,h.CW,h.zG⟩
theorem BK.small(h:BK ab aF rev b):∀r∈b.ak,L8 r∧0≤r.cost∧r.cost≤1073741824:=fun r hr=>by
 obtain⟨i,hi,ht,_⟩:=(h.ke.key r hr).shape;have h1:=(gI _).1 (h.zF.v r hr).1;obtain⟨_,_,_,ap5,hl,_,_,_,ahK,abJ,_⟩:=h1;have h2:=vL (n:=i) (by omega);refine⟨⟨by rw [ht];omega,by omega,by omega⟩,by omega,abJ⟩
end
structure ko (ab:List aG) (f:et):Prop where
 key:gA ab f.key
 aF:az f.key=false
 Ic:∀a∈f.reads,gA ab a
 len:f.reads.length=f.ah.length
 jI:jr ab f.key f.ah.length
 at0:0≤f.at_
theorem ko.new{ab:List aG}{k:Key}(hk:gA ab k) (hi:az k=false):ko ab ⟨k,false,0,[],[]⟩:=⟨hk,hi,fun a h=>(by cases h),rfl,hk.jI hi,Int.le_refl _⟩
structure TK (ab:List aG) (aF:List dB) (rev:Int) (t:vO):Prop where
 Uk:t.ab=ab
 base:BK ab aF rev t.base
 goals:∀k∈t.goals,gA ab k
 stack:∀f∈t.stack,ko ab f
 cU:∀k∈t.cU,gA ab k
theorem PV.cast{P:Program}{op:Op}{ty:TypeId}{kv:KV}{w:World}{v v':Value}(h:PV P op ty kv w v) (e:v=v'):PV P op ty kv w v':=e ▸ h
theorem fO{α:Type}(L:List α) (x:α):(L++[x])[L.length]?=some x:=by simp
theorem eM.snoc{L:List (et × qD)}{f:et}{A:qD}{Z:Nat→Prop}{w:World}(h:(eM L).p Z w) (hk:Rd RR.key 2 Z w A.a A.n A.c f.reads) (hy:Rd RR.str 1 Z w A.a2 A.n2 A.c2 f.ah):(eM (L++[(f,A)])).p Z w:=fun y hm=>by
 rcases List.mem_append.1 hm with hm | hm
 ·
  exact h y hm
 grind
theorem eM.whole{L:List (et × qD)}{f:et}{A:qD}{l:List et}{E n c:Nat}{a:Option Addr}{Z:Nat→Prop}{w:World}(h:Ow RR.DX E 6 Z w a n c (L++[(f,A)])) (hf:(eM (L++[(f,A)])).p Z w) (h4:∀y∈L,y.1.reads.length≤4000∧y.1.ah.length≤4000) (Br:f.reads.length≤4000∧f.ah.length≤4000) (hl:L.map Prod.fst++[f]=l):Ow RR.pX E 6 Z w a n c l:=by
 have h1:=eM.pX h hf fun y hm=>by grind
 grind
theorem GL{L:List (et × qD)}{f:et}{A:qD}{l:List et}{E EK ES n c:Nat}{a:Option Addr}{Z:Nat→Prop}{w:World}(Ib:Ow RR.DX E 6 Z w a n c (L++[(f,A)])) (hk:Ow RR.key EK 2 Z w A.a A.n A.c f.reads) (hy:Ow RR.str ES 1 Z w A.a2 A.n2 A.c2 f.ah) (hfa:(eM L).p Z w) (h4:∀y∈L,y.1.reads.length≤4000∧y.1.ah.length≤4000) (Br:f.reads.length≤4000∧f.ah.length≤4000) (hl:L.map Prod.fst++[f]=l) (hll:l.length≤1000000):∃Zb:Nat→Prop,(∀x,Z x→Zb x)∧Rd RR.pX 6 Zb w a n c l:=by
 have h1:=hk.rd (by omega);have h2:=hy.rd (by omega)
 let Zb:Nat→Prop:=fun x=>Z x∨x∈aI A.a∨x∈aI A.a2
 have hz:∀x,Z x→Zb x:=fun x h=>.inl h;have h3:(eM (L++[(f,A)])).p Zb w:=eM.snoc ((eM L).mono hz hfa) (h1.mono fun x h=>h.imp id .inl) (h2.mono fun x h=>h.imp id .inr);have h5:Ow RR.DX E 6 Zb w a n c (L++[(f,A)]):=(As.os RR.DX E 6 a n c (L++[(f,A)])).mono hz Ib;have h6:=eM.whole h5 h3 h4 Br hl;exact⟨_,fun x h=>.inl (hz x h),h6.rd (by omega)⟩
theorem zH{x:dQ}{l others:List et}{k:Key}(h:dJ x l others k=1):az k=false:=by grind [gw,dJ]
theorem eM.push{L:List (et × qD)}{f g:et}{A:qD}{l:List et}{E n c:Nat}{a:Option Addr}{Z:Nat→Prop}{w:World}(h:Ow RR.DX E 6 Z w a n c (L++[(f,A)]++[(g,⟨none,0,0,none,0,0⟩)])) (hf:(eM (L++[(f,A)])).p Z w) (h4:∀y∈L,y.1.reads.length≤4000∧y.1.ah.length≤4000) (Br:f.reads.length≤4000∧f.ah.length≤4000) (pj:g.reads=[]) (CK:g.ah=[]) (hl:L.map Prod.fst++[f]=l):Ow RR.pX E 6 Z w a n c (l++[g]):=by
 have h1:=eM.pX h (eM.snoc (f:=g) (A:=⟨none,0,0,none,0,0⟩) hf (by rw [pj];exact Rd.nil _ _ _ _) (by rw [CK];exact Rd.nil _ _ _ _)) fun y hm=>by grind
 grind
section
variable {w0 w:World}{M Z:Nat→Prop}{l:List As}{A0 A1 A2 A3 A4 A5 A6 A7 A8 A9 oV rP xU FJ Nl A15 A16 A17:As}
end
end Go.Rc

namespace Go.Rc
open Go
section
variable {α:Type}{R:RR α}{P:Program}{E k n c b:Nat}{a:Option Addr}{L:List α}{u:α}{Z:Nat→Prop}{w:World}
variable {N:Nat}{kv:KV}{K:KV→World→Prop}{ty:TypeId}{pos:String}{af:Array Edge}{g:Option (Nat × Bool)}{T:TypeId}
theorem OX.RX{x y:Operand}{f:Nat}{v:Value}(hT:(P.info? T).map (·.size)=some 1) (h:Ow R E k Z w a n c (L++[u])) (ha:a=some ⟨b,0,none⟩) (hf:f<k) (hx:ev kv x=some (.pointer (some ⟨b,0+L.length*k+f,none⟩))) (hy:ev kv y=some v)
  (h1:v.oneCell'=true) (u':α) (hR:∀r,R.r Z w u r→R.r Z w u' (r.set f v)) (hK:∀w',aV (aI a) w w'→OR 0 w' E k (R.r Z w) a n c (L++[u'])→K kv w'):OX P ⟨none,.store T x y,ty,pos,af,g⟩ N kv w K:=
 OX.VU hT h ha (fO L u) hf hx hy h1 u' (fun r _ h=>hR r h) fun w' c o=>hK w' c (by grind)
end
section
variable {ab:List aG}{f:et}
theorem ko.read(h:ko ab f) {k:Key}{a:ByteArray}(hk:gA ab k) (ha:jr ab f.key (f.ah.length+1)):ko ab {f with reads:=f.reads++[k],ah:=f.ah++[a]}:=
 ⟨h.key,h.aF,fun b hb=>by
  rcases List.mem_append.1 hb with hb | hb
  ·
   exact h.Ic b hb
  grind,by simp [h.len],by simpa using ha,h.at0⟩
theorem ko.runs(h:ko ab f):ko ab {f with running:=true,at_:=0}:=⟨h.key,h.aF,h.Ic,h.len,h.jI,Int.le_refl _⟩
theorem ko.step(h:ko ab f):ko ab {f with at_:=f.at_+1}:=⟨h.key,h.aF,h.Ic,h.len,h.jI,by have:=h.at0;show 0≤f.at_+1;omega⟩
theorem ko.snoc{L:List (et × qD)}(hL:∀y∈L,ko ab y.1) (h:ko ab f):∀g∈L.map Prod.fst++[f],ko ab g:=fun g hg=>by grind
end
structure TR (ab:List aG) (aF:List dB) (rev:Int) (n:Nat) (t:vO):Prop where
 ok:TK ab aF rev t
 ns:t.stack.length≤n
 nr:t.cU.length≤n
 ng:t.goals.length≤32
section
variable {ab:List aG}{aF:List dB}{rev:Int}{n:Nat}{t:vO}
theorem TR.mono(h:TR ab aF rev n t) {m:Nat}(hm:n≤m):TR ab aF rev m t:=⟨h.ok,Nat.le_trans h.ns hm,Nat.le_trans h.nr hm,h.ng⟩
theorem TR.sz(h:TR ab aF rev n t) (hR:aw ab) (hn:n≤100000):t.Sz:=by
 have h1:=h.ok.base;have h2:=h1.zG;have h3:t.base.ae=aF:=h1.ke.aF;have h4:t.base.ak.length≤4000:=h1.ke.len;have h5:=h.ns;have h6:=h.nr;have h7:=h.ng;have h8:=hR.len;have h9:=h.ok.Uk;refine⟨by rw [h9];omega,fun x hx=>?_,by rw [h3];omega,by omega,by omega,by omega,by omega⟩;rw [h9] at hx;obtain⟨i,hi,rfl⟩:=List.mem_iff_getElem.1 hx
 have:=(hR.2 i _ (List.getElem?_eq_getElem hi)).1
 omega
theorem TR.abK(h:TR ab aF rev n t):TR ab aF rev n {t with goals:=t.goals.drop 1}:=
 ⟨⟨h.ok.Uk,h.ok.base,fun k hk=>h.ok.goals k (List.mem_of_mem_drop hk),h.ok.stack,h.ok.cU⟩,h.ns,h.nr,by have:=h.ng;simp;omega⟩
theorem TR.begin(h:TR ab aF rev n t) {k:Key}(hk:gA ab k) (hi:az k=false) (hn:1≤n):TR ab aF rev n {t with goals:=t.goals.drop 1,stack:=[⟨k,false,0,[],[]⟩]}:=
 ⟨⟨h.ok.Uk,h.ok.base,fun k hk=>h.ok.goals k (List.mem_of_mem_drop hk),fun f hf=>by grind [ko.new],h.ok.cU⟩,hn,h.nr,by have:=h.ng;simp;omega⟩
theorem TR.next(h:TR ab aF rev n t) {b:dQ}{l:List et}{rk:List Key}(hb:BK ab aF rev b) (hl:∀f∈l,ko ab f) (hk:∀k∈rk,gA ab k) (h1:rk.length≤1) (h2:l.length≤t.stack.length+1):TR ab aF rev (n+1) {t with base:=b,stack:=l,cU:=t.cU++rk}:=
 ⟨⟨h.ok.Uk,hb,h.ok.goals,hl,fun k hm=>by rcases List.mem_append.1 hm with hm | hm;exact h.ok.cU k hm;exact hk k hm⟩,by have:=h.ns;show l.length≤_;omega,by have:=h.nr;grind,h.ng⟩
theorem DY{x:dQ}{l:List et}{k:Key}(h:gw x l k=true):az k=false:=by grind [gw]
end
end Go.Rc

