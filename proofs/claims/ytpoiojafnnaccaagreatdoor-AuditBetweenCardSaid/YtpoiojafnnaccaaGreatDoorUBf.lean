/- Base of the proof: frames, memory, ownership, and the plain meaning of rule systems. Conditions: as each lemma says. -/
import Derived.Test.YtpoiojafnnaccaaGreatDoorUBe
import Derived.Test.YtpoiojafnnaccaaGreatDoorUBd
import Derived.Test.YtpoiojafnnaccaaGreatDoorUBc
import Derived.Laws.IdiomRangeMap
set_option linter.all false
namespace Go.Rc
open Go
/-! ### counting -/
def JV(p:Nat→Bool):Nat→Nat
 | 0=>0
 | n+1=>JV p n+(p n).toNat
theorem Al{p q:Nat→Bool}:∀{n:Nat},(∀i,i<n→p i=true→q i=true)→JV p n≤JV q n
 | 0,_=>Nat.le_refl _
 | n+1,h=>by
  have h1:=Al (n:=n) fun i hi=>h i (by omega)
  have h2:=h n (by omega);simp only [JV]
  cases hp:p n with
  | false=>simp;omega
  | true=>rw [h2 hp];omega
theorem Am{p q:Nat→Bool}{j:Nat}:∀{n:Nat},(∀i,i<n→p i=true→q i=true)→j<n→q j=true→p j=false→JV p n+1≤JV q n
 | 0,_,hj,_,_=>by omega
 | n+1,h,hj,h1,h2=>by
  simp only [JV]
  rcases Nat.lt_or_ge j n with ed | rp
  ·
   have h3:=Am (n:=n) (fun i hi=>h i (by omega)) ed h1 h2;have h4:=h n (by omega)
   cases hp:p n with
   | false=>simp;omega
   | true=>rw [h4 hp];omega
  have e:j=n:=by omega
  subst e
  have h3:=Al (n:=j) (p:=p) (q:=q) fun i hi=>h i (by omega)
  rw [h1,h2];simp;omega
theorem LP{p q:Nat→Bool}{j:Nat}:∀{n:Nat},(∀i,i<n→i≠j→p i=true→q i=true)→JV p n≤JV q n+1
 | 0,_=>by simp [JV]
 | n+1,h=>by
  simp only [JV]
  by_cases e:n=j
  ·
   subst e
   have h3:=Al (n:=n) (p:=p) (q:=q) fun i hi=>h i (by omega) (by omega)
   cases p n <;> cases q n <;> simp <;> omega
  have h1:=LP (n:=n) fun i hi=>h i (by omega)
  have h2:=h n (by omega) e
  cases hp:p n with
  | false=>simp;omega
  | true=>rw [h2 hp];simp;omega
theorem U3(p:Nat→Bool):∀n,JV p n≤n
 | 0=>Nat.le_refl _
 | n+1=>by have:=U3 p n;simp only [JV];cases p n <;> simp <;> omega
/-! ### what is found in what was put -/
theorem LQ:∀(a b:List UInt8),Lib.compareBytes a b=0→a=b
 | [],[],_=>rfl
 | [],_::_,h=>by simp [Lib.compareBytes] at h
 | _::_,[],h=>by simp [Lib.compareBytes] at h
 | x::a,y::b,h=>by
  simp only [Lib.compareBytes] at h
  split at h
  ·
   cases h
  split at h
  ·
   cases h
  rename_i h1 h2
  have e:x=y:=by grind
  rw [e,LQ a b h]
theorem qb{a b:Key}(h:cE a b=0):a=b:=by
 unfold cE at h
 split at h
 ·
  cases h
 split at h
 ·
  cases h
 rename_i h1 h2
 have h3:=LQ _ _ h;obtain⟨ka,ta⟩:=a;obtain⟨kb,tb⟩:=b;simp only at h1 h2 h3
 congr 1
 ·
  omega
 cases ta;simp_all
theorem Hw(r:Rec) (k:Key):∀(l:List Rec) (b:Bool),aD (gL r l b) k=if k=r.key then (if b then none else some r) else aD l k:=by
 intro l
 induction l with
 | nil=>
  intro b
  unfold gL aD
  grind
 | cons x xs ih=>
  intro b;have h1:=ih (b || decide (0≤cE x.key r.key))
  unfold gL
  unfold aD at h1 ⊢
  rw [List.find?_append,List.find?_append,h1]
  by_cases h:k=r.key
  ·
   subst h;simp only [if_true]
   by_cases hc:cE x.key r.key=0
   ·
    grind
   have kh:x.key≠r.key:=fun e=>hc (by rw [e];exact jF _)
   grind
  simp only [if_neg h]
  have hr:(r.key == k)=false:=by simp;exact fun e=>h e.symm
  have h2:(List.find? (fun y=>y.key == k) (if (decide (0≤cE x.key r.key) && !b)=true then [r] else []))=none:=by split <;> simp [hr]
  rw [h2]
  by_cases hc:cE x.key r.key=0
  ·
   have e:x.key=r.key:=qb hc
   grind
  grind
theorem gz(l:List Rec) (r:Rec) (k:Key):aD (gW l r) k=if k=r.key then some r else aD l k:=by grind [gW,Hw]
theorem pn(f:Rec→Rec) (hf:∀r,(f r).key=r.key) (k:Key) (l:List Rec):aD (l.map f) k=(aD l k).map f:=by
 unfold aD
 rw [List.find?_map,show((fun x:Rec=>x.key == k)∘f)=(fun x:Rec=>x.key == k) from funext fun x=>by simp [hf]]
/-! ### what goes on being so -/
theorem cW{x:dV}{k:Key}:aO x k=true↔∃r,aD x.ak k=some r∧r.az=x.ae:=by
 unfold aO aG
 cases hf:aD x.ak k with
 | none=>simp
 | some r=>simp
theorem JW{x:dV}{g:List Key}{d:Bool}{k:Key}(h:aO x k=true):aO (dX x g d) k=true:=by
 obtain⟨r,h1,h2⟩:=cW.1 h;refine cW.2 ⟨cZ x.ae g d r,?_,?_⟩
 ·
  show aD (x.ak.map (cZ x.ae g d)) k=_
  grind [pn,dU]
 show _=x.ae
 unfold cZ
 grind
theorem vo{x:dV}{g:List Key}{k:Key}(h:(aD x.ak k).isSome=true) (hk:k∈g):aO (dX x g false) k=true:=by
 obtain⟨r,h1⟩:=Option.isSome_iff_exists.1 h;have h3:=List.find?_some h1
 simp at h3
 refine cW.2 ⟨cZ x.ae g false r,?_,?_⟩
 ·
  show aD (x.ak.map (cZ x.ae g false)) k=_
  grind [pn,dU]
 show _=x.ae
 grind [cZ]
theorem Nb{x:dV}{r:Rec}{k:Key}(hr:r.az=x.ae) (h:aO x k=true):aO {x with ak:=gW x.ak r} k=true:=by
 obtain⟨q,h1,h2⟩:=cW.1 h
 by_cases e:k=r.key
 ·
  exact cW.2 ⟨r,by show aD (gW x.ak r) k=_;rw [gz,if_pos e],hr⟩
 exact cW.2 ⟨q,by show aD (gW x.ak r) k=_;rw [gz,if_neg e,h1],h2⟩
theorem uf{x:dV}{r:Rec}(hr:r.az=x.ae):aO {x with ak:=gW x.ak r} r.key=true:=
 cW.2 ⟨r,by show aD (gW x.ak r) r.key=_;rw [gz,if_pos rfl],hr⟩
theorem JX(l:List Rec) (rev:Int) (k:Key):k∈aF l rev k:=by grind [aF,pj]
structure kB (s s':ES):Prop where
 on:∀k,s'.on k=s.on k
 up:∀k,aO s.b k=true→aO s'.b k=true
theorem kB.refl(s:ES):kB s s:=⟨fun _=>rfl,fun _ h=>h⟩
theorem kB.trans{s t u:ES}(h:kB s t) (h':kB t u):kB s u:=⟨fun k=>(h'.on k).trans (h.on k),fun k hk=>h'.up k (h.up k hk)⟩
theorem kB.there{s s':ES}(h:kB s s') {k:Key}(ht:fJ s k=true):fJ s' k=true:=by
 unfold fJ at ht ⊢
 rw [h.on k];simp only [Bool.or_eq_true] at ht ⊢
 rcases ht with h1 | h1 | h1
 ·
  exact .inl h1
 ·
  exact .inr (.inl h1)
 exact .inr (.inr (h.up k h1))
def jh(ab:List aJ) (s:ES):Nat:=JV (fun i=>!aO s.b (aQ ab (i:Int)) && !s.on (aQ ab (i:Int))) ab.length
def off(ab:List aJ) (s:ES):Nat:=JV (fun i=>!s.on (aQ ab (i:Int))) ab.length
theorem kB.jh{ab:List aJ}{s s':ES}(h:kB s s'):jh ab s'≤jh ab s:=Al fun i _ hp=>by
 simp only [Bool.and_eq_true,Bool.not_eq_true'] at hp ⊢;rw [h.on] at hp;refine⟨?_,hp.2⟩
 cases hu:aO s.b (aQ ab (i:Int)) with
 | false=>rfl
 | true=>rw [h.up _ hu] at hp;exact absurd hp.1 (by simp)
theorem kB.off{ab:List aJ}{s s':ES}(h:kB s s'):Go.Rc.off ab s'=Go.Rc.off ab s:=by
 unfold Go.Rc.off
 congr 1
 funext i
 rw [h.on]
section
variable {ab:List aJ}{val:Key→ByteArray}{aH:List dE}
theorem rH(s:ES) (k k':Key):ES.on {s with busy:=dH s.busy k (.bool true)} k'=(decide (k=k') || s.on k'):=by
 unfold ES.on
 simp only [eQ]
 by_cases h:k=k' <;> simp [h]
theorem JY{s:ES}(hn:(s.busy.map (·.1)).Nodup) (k k':Key):ES.on {s with busy:=kP s.busy k} k'=(!decide (k=k') && s.on k'):=by
 unfold ES.on
 simp only [G6 hn]
 by_cases h:k=k' <;> simp [h]
def UpK(ab:List aJ) (val:Key→ByteArray) (aH:List dE) (f:Nat):Prop:=∀s k s',oc ab val f s k=some s'→Good ab aH s→gS ab k→kB s s'∧(s'.e=0→s.e=0∧(aB k=true∨fJ s' k=true))∧s'.bU.length+jh ab s'≤s.bU.length+jh ab s
def ChK(ab:List aJ) (val:Key→ByteArray) (aH:List dE) (f:Nat):Prop:=∀s k n s' b,dL ab val f s k n=some (s',b)→Good ab aH s→kB s s'∧(s'.e=0→s.e=0∧(b=false→aO s'.b k=true))∧s'.bU.length+jh ab s'≤s.bU.length+jh ab s
def RuK(ab:List aJ) (val:Key→ByteArray) (aH:List dE) (f:Nat):Prop:=∀s k reads ao s',jr ab val f s k reads ao=some s'→Good ab aH s→jL ab k ao.length→kB s s'∧(s'.e=0→s.e=0∧aO s'.b k=true)∧(s'.bU.length+jh ab s'≤s.bU.length+jh ab s∨(aO s'.b k=true∧s'.bU.length+jh ab s'≤s.bU.length+jh ab s+1))
theorem kB.err(s:ES) (e:Int):kB s {s with e:=e}:=⟨fun _=>rfl,fun _ h=>h⟩
theorem kB.mark(s:ES) (g:List Key) (d:Bool):kB s {s with b:=dX s.b g d}:=⟨fun _=>rfl,fun _ h=>JW h⟩
theorem ko(hR:ay ab):∀f,UpK ab val aH f∧ChK ab val aH f∧RuK ab val aH f:=by
 intro f
 induction f with
 | zero=>exact⟨fun s k s' h=>by simp [oc] at h,fun s k n s' b h=>by simp [dL] at h,fun s k r a s' h=>by simp [jr] at h⟩
 | succ f ih=>
  obtain⟨Na,GI,Jq⟩:=ih;have gd:=dr (val:=val) (aH:=aH) hR f;refine⟨?_,?_,?_⟩
  ·
   intro s k s' h hg hk
   unfold oc at h
   split at h
   ·
    rename_i he
    cases h
    refine⟨.refl _,fun h0=>⟨h0,?_⟩,Nat.le_refl _⟩
    grind
   rename_i he
   have he0:s.e=0:=by simp at he;exact he.1
   have rj:aB k=false:=by simp at he;exact he.2
   split at h
   ·
    rename_i hu
    cases h
    exact⟨.refl _,fun h0=>⟨h0,.inr (by unfold fJ;rw [hu];simp)⟩,Nat.le_refl _⟩
   rename_i hu
   split at h
   ·
    rename_i ho
    split at h
    ·
     rename_i hc
     cases h
     exact⟨.refl _,fun h0=>⟨h0,.inr (by unfold fJ;rw [ho,hc];simp)⟩,Nat.le_refl _⟩
    cases h
    exact⟨.err _ _,fun h0=>by simp at h0,Nat.le_refl _⟩
   rename_i ho
   have hu':aO s.b k=false:=by simpa using hu
   have Jm:s.on k=false:=by simpa using ho
   obtain⟨⟨s2,b2⟩,hp,h⟩:=Option.bind_eq_some_iff.1 h;obtain⟨s3,ht,h⟩:=Option.bind_eq_some_iff.1 h;simp only [Option.some.injEq] at h;subst h;obtain⟨i,hi,qQ,_⟩:=hk.jZ rj;obtain⟨GJ,_⟩:=gd.2.1 _ _ _ _ _ hp (hg.on k);obtain⟨nQ,RD,Nc⟩:=GI _ _ _ _ _ hp (hg.on k)
   -- the state before, with k under way
   have h1:jh ab {s with busy:=dH s.busy k (.bool true)}+1≤jh ab s:=by
    refine Am (j:=i) (fun j _ hj=>?_) hi ?_ ?_
    ·
     simp only [rH,Bool.and_eq_true,Bool.not_eq_true',Bool.or_eq_false_iff] at hj ⊢;exact⟨hj.1,hj.2.2⟩
    ·
     grind
    grind [rH]
   have h3:Good ab aH s3∧kB s2 s3∧(s3.e=0→s2.e=0∧aO s3.b k=true)∧(s3.bU.length+jh ab s3≤s2.bU.length+jh ab s2∨(aO s3.b k=true∧s3.bU.length+jh ab s3≤s2.bU.length+jh ab s2+1)):=by
    split at ht
    ·
     obtain⟨a,b,c⟩:=Jq _ _ _ _ _ ht GJ (hk.jZ rj);exact⟨(gd.2.2 _ _ _ _ _ ht GJ (hk.jZ rj) rfl (fun a ha=>by cases ha)).1,a,b,c⟩
    rename_i hb
    simp only [Option.some.injEq] at ht;subst ht;exact⟨GJ,.refl _,fun h0=>⟨h0,(RD h0).2 (by simpa using hb)⟩,.inl (Nat.le_refl _)⟩
   obtain⟨hg3,xY,he3,ht3⟩:=h3
   have LS:∀k',s3.on k'=(decide (k=k') || s.on k'):=fun k'=>by rw [xY.on,nQ.on,rH]
   have RM:kB s {s3 with busy:=kP s3.busy k}:=⟨fun k'=>by
    rw [JY hg3.nY,LS]
    grind,fun k' h=>xY.up _ (nQ.up _ h)⟩
   refine⟨RM,fun h0=>⟨he0,.inr ?_⟩,?_⟩
   ·
    have:=(he3 h0).2
    show fJ {s3 with busy:=kP s3.busy k} k=true
    unfold fJ
    grind
   show s3.bU.length+jh ab {s3 with busy:=kP s3.busy k}≤_
   have aqS:s2.bU.length+jh ab s2≤s.bU.length+jh ab {s with busy:=dH s.busy k (.bool true)}:=Nc
   by_cases hu3:aO s3.b k=true
   ·
    have:jh ab {s3 with busy:=kP s3.busy k}≤jh ab s3:=Al fun j _ hj=>by
     simp only [JY hg3.nY,Bool.and_eq_true,Bool.not_eq_true',Bool.and_eq_false_iff] at hj ⊢
     grind
    omega
   have h5:jh ab {s3 with busy:=kP s3.busy k}≤jh ab s3+1:=LP (j:=i) fun j hj kh hp=>by
    simp only [JY hg3.nY,Bool.and_eq_true,Bool.not_eq_true',Bool.and_eq_false_iff] at hp ⊢
    grind [fF]
   grind
  ·
   intro s k n s' b h hg
   unfold dL at h
   split at h
   ·
    rename_i he
    cases h;exact⟨.refl _,fun h0=>absurd h0 he,Nat.le_refl _⟩
   split at h
   ·
    cases h;exact⟨.refl _,fun h0=>⟨h0,fun hb=>by cases hb⟩,Nat.le_refl _⟩
   rename_i hf
   have hf1:(aD s.b.ak k).isSome=true:=by grind
   split at h
   ·
    rename_i hv
    cases h;exact⟨.refl _,fun h0=>⟨h0,fun _=>by unfold aO;rw [hf1,hv];simp⟩,Nat.le_refl _⟩
   split at h
   ·
    cases h
    have RM:kB s {s with b:=dX s.b (aF s.b.ak s.b.ae k) false}:=.mark _ _ _;exact⟨RM,fun h0=>⟨h0,fun _=>vo hf1 (JX _ _ _)⟩,Nat.add_le_add_left RM.jh _⟩
   rename_i c hc
   split at h
   ·
    obtain⟨t,ht,h⟩:=Option.bind_eq_some_iff.1 h;obtain⟨h1,h2,h3⟩:=Na _ _ _ ht hg (i6 hg hc);obtain⟨h4,h5,h6⟩:=GI _ _ _ _ _ h (gd.1 _ _ _ ht hg (i6 hg hc)).1;exact⟨h1.trans h4,fun h0=>⟨(h2 (h5 h0).1).1,(h5 h0).2⟩,Nat.le_trans h6 h3⟩
   split at h
   ·
    split at h <;> cases h
    ·
     have RM:kB s {s with b:=dX s.b (aF s.b.ak s.b.ae k) true}:=.mark _ _ _;exact⟨RM,fun h0=>⟨h0,fun hb=>by cases hb⟩,Nat.add_le_add_left RM.jh _⟩
    exact⟨.refl _,fun h0=>⟨h0,fun hb=>by cases hb⟩,Nat.le_refl _⟩
   exact GI _ _ _ _ _ h hg
  intro s k reads ao s' h hg ha
  unfold jr at h
  split at h
  ·
   rename_i he
   cases h;exact⟨.refl _,fun h0=>absurd h0 he,.inl (Nat.le_refl _)⟩
  rename_i he
  split at h
  ·
   split at h
   ·
    cases h;exact⟨.err _ _,fun h0=>by simp at h0,.inl (Nat.le_refl _)⟩
   cases h
   have RM:kB s {s with b:={s.b with ak:=gW s.b.ak (et s.b k (aZ ab k ao).value reads)},bU:=s.bU++[k]}:=⟨fun _=>rfl,fun _ h=>Nb rfl h⟩;have hu:aO ({s.b with ak:=gW s.b.ak (et s.b k (aZ ab k ao).value reads)}:dV) k=true:=uf (r:=et s.b k (aZ ab k ao).value reads) rfl;refine⟨RM,fun h0=>⟨h0,hu⟩,.inr ⟨hu,?_⟩⟩
   have:=RM.jh (ab:=ab)
   grind
  rename_i hd
  obtain⟨t,ht,h⟩:=Option.bind_eq_some_iff.1 h;have hn:=ha.next hR (by simpa using hd);obtain⟨h1,h2,h3⟩:=Na _ _ _ ht hg hn.2;have qX:=(gd.1 _ _ _ ht hg hn.2).1
  have h7:kB t s'∧(s'.e=0→t.e=0∧aO s'.b k=true)∧(s'.bU.length+jh ab s'≤t.bU.length+jh ab t∨(aO s'.b k=true∧s'.bU.length+jh ab s'≤t.bU.length+jh ab t+1)):=by
   split at h
   ·
    exact Jq _ _ _ _ _ h qX (by simpa using hn.1)
   exact Jq _ _ _ _ _ h qX ha
  obtain⟨h4,h5,h6⟩:=h7;refine⟨h1.trans h4,fun h0=>⟨(h2 (h5 h0).1).1,(h5 h0).2⟩,?_⟩
  grind
/-! ### more fuel does no harm -/
theorem rI:∀f,(∀s k s',oc ab val f s k=some s'→oc ab val (f+1) s k=some s')∧(∀s k n p,dL ab val f s k n=some p→dL ab val (f+1) s k n=some p)∧(∀s k r a s',jr ab val f s k r a=some s'→jr ab val (f+1) s k r a=some s'):=by
 intro f
 induction f with
 | zero=>grind [oc,dL,jr]
 | succ f ih=>
  obtain⟨Na,GI,Jq⟩:=ih;refine⟨?_,?_,?_⟩
  ·
   intro s k s' h
   unfold oc at h ⊢
   split at h
   ·
    grind
   rename_i h1;rw [if_neg h1]
   split at h
   ·
    grind
   rename_i h2;rw [if_neg h2]
   split at h
   ·
    grind
   rename_i h3;rw [if_neg h3]
   obtain⟨p,hp,h⟩:=Option.bind_eq_some_iff.1 h;obtain⟨s3,ht,h⟩:=Option.bind_eq_some_iff.1 h
   grind
  ·
   intro s k n p h
   unfold dL at h ⊢
   split at h
   ·
    grind
   rename_i h1;rw [if_neg h1]
   split at h
   ·
    grind
   rename_i h2;rw [if_neg h2]
   split at h
   ·
    grind
   rename_i h3;rw [if_neg h3]
   split at h
   ·
    exact h
   rename_i c hc
   split at h
   ·
    rename_i h4;rw [if_pos h4]
    grind [Option.bind_eq_some_iff]
   grind
  intro s k r a s' h
  unfold jr at h ⊢
  split at h
  ·
   grind
  rename_i h1;rw [if_neg h1]
  split at h
  ·
   grind
  rename_i h2;rw [if_neg h2]
  obtain⟨t,ht,h⟩:=Option.bind_eq_some_iff.1 h
  grind
theorem sP{f g:Nat}(h:f≤g) {s:ES}{k:Key}{s':ES}(hu:oc ab val f s k=some s'):oc ab val g s k=some s':=by
 induction h with
 | refl=>exact hu
 | step _ ih=>exact(rI _).1 _ _ _ ih
theorem ug{f g:Nat}(h:f≤g) {s:ES}{k:Key}{n:Nat}{p:ES × Bool}(hu:dL ab val f s k n=some p):dL ab val g s k n=some p:=by
 induction h with
 | refl=>exact hu
 | step _ ih=>exact(rI _).2.1 _ _ _ _ ih
theorem An{f g:Nat}(h:f≤g) {s:ES}{k:Key}{r:List Key}{a:List ByteArray}{s':ES}(hu:jr ab val f s k r a=some s'):jr ab val g s k r a=some s':=by
 induction h with
 | refl=>exact hu
 | step _ ih=>exact(rI _).2.2 _ _ _ _ _ ih
/-! ### there is fuel enough -/
theorem JZ(hR:ay ab) {d:Nat}(ll:∀s k,Good ab aH s→gS ab k→off ab s≤d→∃f s',oc ab val f s k=some s') (k:Key) :
  ∀(m:Nat) (s:ES) (n:Nat),jh ab s*200000000+(200000000 - n)≤m→n≤100000000→Good ab aH s→off ab s≤d→∃f p,dL ab val f s k n=some p:=by
 intro m
 induction m using Nat.strongRecOn with
 | _ m ih=>
  intro s n hm hn hg hd
  by_cases h1:s.e≠0
  ·
   exact⟨1,(s,false),by unfold dL;rw [if_pos h1]⟩
  by_cases h2:(!(aD s.b.ak k).isSome || (aG s.b.ak k).cq)=true
  ·
   exact⟨1,(s,true),by unfold dL;rw [if_neg h1,if_pos h2]⟩
  by_cases h3:(aG s.b.ak k).az=s.b.ae
  ·
   exact⟨1,(s,false),by unfold dL;grind⟩
  have Oh:(aF s.b.ak s.b.ae k).length≤4001:=by grind [qa,Good.len]
  have uT:=E0 hg Oh
  cases hc:(cC s.b.ak (aF s.b.ak s.b.ae k))[n]? with
  | none=>exact⟨1,_,by unfold dL;rw [if_neg h1,if_neg h2,if_neg h3,hc]⟩
  | some c=>
   have l3:n<(cC s.b.ak (aF s.b.ak s.b.ae k)).length:=(List.getElem?_eq_some_iff.1 hc).1
   by_cases h4:fJ s c.read=false
   ·
    obtain⟨f,t,ht⟩:=ll s c.read hg (i6 hg hc) hd;obtain⟨tD,he1,_⟩:=(ko (val:=val) hR f).1 _ _ _ ht hg (i6 hg hc);have Jr:=((dr (val:=val) hR f).1 _ _ _ ht hg (i6 hg hc)).1
    have rj:aB c.read=false:=by grind [fJ]
    by_cases h5:t.e=0
    ·
     obtain⟨i,hi,qQ,_⟩:=(i6 hg hc).jZ rj
     have Lp:fJ t c.read=true:=by grind
     have ed:jh ab t+1≤jh ab s:=by
      have hu0:aO s.b c.read=false:=by grind [fJ]
      have hoc:(s.on c.read && aA c.read)=false:=by grind [fJ]
      have RN:aO t.b c.read=true:=by grind [fJ,kB.on]
      have LS:s.on c.read=false:=by
       cases ho:s.on c.read with
       | false=>rfl
       | true=>
        exfalso
        cases f with
        | zero=>simp [oc] at ht
        | succ f=>
         unfold oc at ht
         grind
      refine Am (j:=i) (fun j _ hj=>?_) hi ?_ ?_
      ·
       simp only [Bool.and_eq_true,Bool.not_eq_true'] at hj ⊢;rw [tD.on] at hj;refine⟨?_,hj.2⟩
       cases hx:aO s.b (aQ ab (j:Int)) with
       | false=>rfl
       | true=>rw [tD.up _ hx] at hj;exact absurd hj.1 (by simp)
      ·
       rw [← qQ,hu0,LS];rfl
      rw [← qQ,RN];rfl
     obtain⟨f2,p,hp⟩:=ih (jh ab t*200000000+(200000000 - n)) (by omega) t n (Nat.le_refl _) hn Jr (by rw [tD.off];exact hd);refine⟨max f f2+1,p,?_⟩
     unfold dL
     rw [if_neg h1,if_neg h2,if_neg h3,hc]
     simp only
     rw [if_pos h4,sP (Nat.le_max_left _ _) ht]
     grind [ug,Nat.le_max_right]
    refine⟨max f 1+1,(t,false),?_⟩
    unfold dL
    rw [if_neg h1,if_neg h2,if_neg h3,hc]
    simp only
    rw [if_pos h4,sP (Nat.le_max_left _ _) ht];refine ug (f:=1) (Nat.le_max_right _ _) ?_
    unfold dL
    rw [if_pos h5]
   by_cases h6:(aG s.b.ak c.fy).az<bR val s.b c.read
   ·
    exact⟨1,_,by unfold dL;rw [if_neg h1,if_neg h2,if_neg h3,hc];simp only;rw [if_neg h4,if_pos h6]⟩
   obtain⟨f2,p,hp⟩:=ih (jh ab s*200000000+(200000000 - (n+1))) (by omega) s (n+1) (Nat.le_refl _) (by omega) hg hd;refine⟨f2+1,p,?_⟩
   unfold dL
   grind
theorem Pp(hR:ay ab) {d:Nat}(ll:∀s k,Good ab aH s→gS ab k→off ab s≤d→∃f s',oc ab val f s k=some s') (k:Key) :
  ∀(m:Nat) (s:ES) (reads:List Key) (ao:List ByteArray),7 - ao.length≤m→Good ab aH s→jL ab k ao.length→off ab s≤d→∃f s',jr ab val f s k reads ao=some s':=by
 intro m
 induction m with
 | zero=>intro s r a hm _ ha _;have:=ha.le hR;omega
 | succ m ih=>
  intro s reads ao hm hg ha hd
  by_cases h1:s.e≠0
  ·
   exact⟨1,s,by unfold jr;rw [if_pos h1]⟩
  by_cases h2:(aZ ab k ao).done=true
  ·
   by_cases h3:(!(aD s.b.ak k).isSome && decide (4000≤s.b.ak.length))=true
   ·
    exact⟨1,_,by unfold jr;rw [if_neg h1,if_pos h2,if_pos h3]⟩
   exact⟨1,_,by unfold jr;rw [if_neg h1,if_pos h2,if_neg h3]⟩
  have hn:=ha.next hR (by simpa using h2);obtain⟨f,t,ht⟩:=ll s _ hg hn.2 hd;obtain⟨tD,_,_⟩:=(ko (val:=val) hR f).1 _ _ _ ht hg hn.2;have Jr:=((dr (val:=val) hR f).1 _ _ _ ht hg hn.2).1
  by_cases h5:t.e=0
  ·
   obtain⟨f2,s',Lz⟩:=ih t (reads++[(aZ ab k ao).ask]) (ao++[eJ val t.b (aZ ab k ao).ask]) (by simp;omega) Jr (by simpa using hn.1) (by rw [tD.off];exact hd);refine⟨max f f2+1,s',?_⟩
   unfold jr
   rw [if_neg h1,if_neg h2,sP (Nat.le_max_left _ _) ht];simp only [Option.bind_some];rw [if_pos h5]
   grind [An,Nat.le_max_right]
  refine⟨max f 1+1,t,?_⟩
  unfold jr
  rw [if_neg h1,if_neg h2,sP (Nat.le_max_left _ _) ht];simp only [Option.bind_some];rw [if_neg h5];refine An (f:=1) (Nat.le_max_right _ _) ?_
  unfold jr
  rw [if_pos h5]
theorem SB(hR:ay ab):∀(d:Nat) (s:ES) (k:Key),Good ab aH s→gS ab k→off ab s≤d→∃f s',oc ab val f s k=some s':=by
 intro d
 induction d with
 | zero=>
  intro s k hg hk hd
  by_cases h1:s.e≠0∨aB k=true
  ·
   exact⟨1,s,by unfold oc;rw [if_pos h1]⟩
  by_cases h2:aO s.b k=true
  ·
   exact⟨1,s,by unfold oc;rw [if_neg h1,if_pos h2]⟩
  by_cases h3:s.on k=true
  ·
   by_cases h4:aA k=true
   ·
    exact⟨1,s,by unfold oc;grind⟩
   exact⟨1,_,by unfold oc;rw [if_neg h1,if_neg h2,if_pos h3,if_neg h4]⟩
  exfalso
  obtain⟨i,hi,qQ,_⟩:=hk.jZ (by simp at h1;exact h1.2)
  have:off ab {s with busy:=dH s.busy k (.bool true)}+1≤off ab s:=by
   refine Am (j:=i) (fun j _ hj=>?_) hi ?_ ?_
   ·
    grind [rH]
   ·
    rw [← qQ];simpa using h3
   grind [rH]
  omega
 | succ d ih=>
  intro s k hg hk hd
  by_cases h1:s.e≠0∨aB k=true
  ·
   exact⟨1,s,by unfold oc;rw [if_pos h1]⟩
  by_cases h2:aO s.b k=true
  ·
   exact⟨1,s,by unfold oc;rw [if_neg h1,if_pos h2]⟩
  by_cases h3:s.on k=true
  ·
   by_cases h4:aA k=true
   ·
    exact⟨1,s,by unfold oc;grind⟩
   exact⟨1,_,by unfold oc;rw [if_neg h1,if_neg h2,if_pos h3,if_neg h4]⟩
  have rj:aB k=false:=by simp at h1;exact h1.2
  obtain⟨i,hi,qQ,_⟩:=hk.jZ rj
  have aqU:off ab {s with busy:=dH s.busy k (.bool true)}+1≤off ab s:=by
   refine Am (j:=i) (fun j _ hj=>?_) hi ?_ ?_
   ·
    grind [rH]
   ·
    rw [← qQ];simpa using h3
   grind [rH]
  obtain⟨f,⟨s2,b2⟩,hp⟩:=JZ (val:=val) hR ih k _ {s with busy:=dH s.busy k (.bool true)} 0 (Nat.le_refl _) (by omega) (hg.on k) (by omega);have GJ:=((dr (val:=val) hR f).2.1 _ _ _ _ _ hp (hg.on k)).1;have nQ:=((ko (val:=val) hR f).2.1 _ _ _ _ _ hp (hg.on k)).1
  cases b2 with
  | false=>
   refine⟨f+1,{s2 with busy:=kP s2.busy k},?_⟩
   unfold oc
   grind
  | true=>
   obtain⟨f2,s3,wX⟩:=Pp (val:=val) hR ih k _ s2 [] [] (Nat.le_refl _) GJ (hk.jZ rj) (by rw [nQ.off];omega);refine⟨max f f2+1,{s3 with busy:=kP s3.busy k},?_⟩
   unfold oc
   rw [if_neg h1,if_neg h2,if_neg h3,ug (Nat.le_max_left _ _) hp];simp only [Option.bind_some,if_true]
   grind [An,Nat.le_max_right]
end
end Go.Rc

namespace Go.Rc
open Go
noncomputable def eU(ab:List aJ) (val:Key→ByteArray) (f:Nat):ES→List Key→Option ES
 | s,[]=>some s
 | s,k::r=>(oc ab val f s k).bind fun t=>eU ab val f t r
def ES.base(s:ES) (x:dV):dV:=if s.e=0 then s.b else x
noncomputable def ES.list(s:ES):List Key:=if s.e=0 then iv s.bU else []
theorem uh{ab:List aJ}{aH:List dE}{val:Key→ByteArray}(hR:ay ab) {f:Nat}:∀{l:List Key}{s s':ES},eU ab val f s l=some s'→Good ab aH s→(∀k∈l,gS ab k)→Good ab aH s'∧LO s s'
 | [],s,s',h,hg,_=>by simp only [eU,Option.some.injEq] at h;subst h;exact⟨hg,.refl _⟩
 | k::r,s,s',h,hg,hk=>by
  simp only [eU] at h;obtain⟨t,h1,h2⟩:=Option.bind_eq_some_iff.1 h;have h3:=(dr (val:=val) hR f).1 _ _ _ h1 hg (hk k (by simp))
  have h4:=uh hR h2 h3.1 fun k Jz=>hk k (by simp [Jz])
  exact⟨h4.1,h3.2.trans h4.2⟩
theorem St.acr{κ:Type}{enc:κ→Value}{w0 w:World}{M Z:Nat→Prop}{l:List As}{s m T:Nat}{cs:List Value}{q:List (κ × Value)}(h:St w0 M Z w (As.blk s T cs::As.map enc m q::l)):s≠m:=fun e=>by
 have h1:=(List.pairwise_cons.1 h.wA).1 (As.map enc m q) (by simp) s rfl;exact h1 e
end Go.Rc

namespace Go.Rc
open Go
noncomputable def jQ(ab:List aJ) (aH:List dE) (rev:Int) (i:Nat):Rec:=
 ⟨aQ ab (i:Int),valOf ab aH (aQ ab (i:Int)),dC ab aH i,rev,rev,1+((dC ab aH i).length:Int),false⟩
/-! ### the order of keys -/
theorem DF:∀a b:List UInt8,Lib.compareBytes b a = - Lib.compareBytes a b
 | [],[]=>rfl
 | [],_::_=>rfl
 | _::_,[]=>rfl
 | x::a,y::b=>by
  simp only [Lib.compareBytes]
  by_cases h1:x<y
  ·
   grind
  by_cases h2:y<x
  ·
   grind
  rw [if_neg h2,if_neg h1,if_neg h1,if_neg h2,DF a b]
theorem Ao:∀a b c:List UInt8,Lib.compareBytes a b<0→Lib.compareBytes b c<0→Lib.compareBytes a c<0
 | _,[],[],_,h=>by simp [Lib.compareBytes] at h
 | [],[],_::_,h,_=>by simp [Lib.compareBytes] at h
 | _::_,[],_::_,h,_=>by simp [Lib.compareBytes] at h
 | _,_::_,[],_,h=>by simp [Lib.compareBytes] at h
 | [],_::_,_::_,_,_=>by simp [Lib.compareBytes]
 | x::a,y::b,z::c,h1,h2=>by
  simp only [Lib.compareBytes] at h1 h2 ⊢
  by_cases e1:x<y
  ·
   grind
  rw [if_neg e1] at h1
  by_cases e3:y<x
  ·
   rw [if_pos e3] at h1;simp at h1
  rw [if_neg e3] at h1
  by_cases e2:y<z
  ·
   grind
  rw [if_neg e2] at h2
  by_cases e4:z<y
  ·
   rw [if_pos e4] at h2;simp at h2
  rw [if_neg e4] at h2;rw [if_neg (by grind),if_neg (by grind)];exact Ao a b c h1 h2
theorem lK(a b:Key):cE b a = - cE a b:=by
 unfold cE
 by_cases h1:a.kind<b.kind
 ·
  grind
 by_cases h2:b.kind<a.kind
 ·
  grind
 rw [if_neg h2,if_neg h1,if_neg h1,if_neg h2,DF]
theorem j8{a b c:Key}(h1:cE a b<0) (h2:cE b c<0):cE a c<0:=by
 unfold cE at h1 h2 ⊢
 by_cases e1:a.kind<b.kind
 ·
  grind
 rw [if_neg e1] at h1
 by_cases e4:b.kind<a.kind
 ·
  rw [if_pos e4] at h1;simp at h1
 rw [if_neg e4] at h1
 by_cases e2:b.kind<c.kind
 ·
  rw [if_pos (by omega)];decide
 rw [if_neg e2] at h2
 by_cases e3:c.kind<b.kind
 ·
  rw [if_pos e3] at h2;simp at h2
 rw [if_neg e3] at h2;rw [if_neg (by omega),if_neg (by omega)];exact Ao _ _ _ h1 h2
def qc(l:List Rec):Prop:=l.Pairwise fun a b=>cE a.key b.key<0
theorem Ap(r:Rec):∀l:List Rec,gL r l true=l.filter fun x=>!decide (cE x.key r.key=0)
 | []=>rfl
 | x::xs=>by
  simp only [gL,Bool.not_true,Bool.and_false,Bool.false_eq_true,if_false,Bool.true_or,List.nil_append,Ap r xs,List.filter_cons]
  grind
theorem qc.put{r:Rec}:∀{l:List Rec},qc l→qc (gW l r)
 | [],_=>by simp [qc,gW,gL]
 | x::xs,h=>by
  obtain⟨h1,h2⟩:=List.pairwise_cons.1 h;have ih:qc (gW xs r):=qc.put h2;have hf:qc (xs.filter fun y=>!decide (cE y.key r.key=0)):=List.Pairwise.filter _ h2
  show qc (gL r (x::xs) false)
  simp only [gL,Bool.not_false,Bool.and_true,Bool.false_or]
  by_cases c1:cE x.key r.key<0
  ·
   rw [decide_eq_false (show ¬0≤cE x.key r.key by omega),if_neg (show ¬cE x.key r.key=0 by omega)];simp only [Bool.false_eq_true,if_false,List.nil_append,List.singleton_append];refine List.pairwise_cons.2 ⟨fun y hy=>?_,ih⟩
   grind [jc]
  rw [decide_eq_true (show 0≤cE x.key r.key by omega),Ap];simp only [if_true]
  by_cases c2:cE x.key r.key=0
  ·
   rw [if_pos c2];simp only [List.append_nil,List.singleton_append];refine List.pairwise_cons.2 ⟨fun y hy=>?_,hf⟩
   grind [qb]
  rw [if_neg c2];simp only [List.singleton_append,List.cons_append]
  have c3:cE r.key x.key<0:=by rw [lK x.key r.key];omega
  refine List.pairwise_cons.2 ⟨fun y hy=>?_,List.pairwise_cons.2 ⟨fun y hy=>h1 y (List.mem_filter.1 hy).1,hf⟩⟩
  grind [j8]
theorem qc.rC{l:List Rec}(h:qc l) (hn:l.length≤4000) (hv:∀r∈l,fb r=true):rC l:=by
 refine⟨hn,fun i x hx=>⟨hv x (List.mem_of_getElem? hx),fun hi=>?_⟩⟩;obtain⟨hl,rfl⟩:=List.getElem?_eq_some_iff.1 hx;rw [getElem!_pos l (i - 1) (by omega)];exact List.pairwise_iff_getElem.1 h (i - 1) i (by omega) hl (by omega)
/-! ### values are short -/
section
variable {ab:List aJ}{aH:List dE}
theorem sQ{n:Nat}(h:n≤65535):(itoa (n:Int)).size≤6:=by
 have e:Lib.itoa (n:Int)=Lib.decDigits n:=by unfold Lib.itoa;rw [if_neg (by omega)];rfl
 grind [itoa,Lib.decDigits,ByteArray.size]
theorem Aq(hR:ay ab) {i:Nat}(hi:i<ab.length):∃n:Nat,n≤65535∧valOf ab aH (aQ ab (i:Int))=itoa (n:Int):=by
 have h1:=jw (aH:=aH) hR hi;rw [jv hR hi (iZ _ _ _).2] at h1;have hc:=ay.hb hR _ (List.getElem_mem hi);refine⟨_,sJ (kind:=ab[i].final) (c:=ab[i].c.toNat) (l:=(gq (dP ab (aQ ab (i:Int))) (valOf ab aH) (dW ab i)).2.map eh) (by omega) (fun x hx=>?_),?_⟩
 ·
  grind [n9]
 grind
theorem Pq(hR:ay ab) {i:Nat}(hi:ab.length≤i):yK ab aH i=⟨#[]⟩:=by
 have hk:aQ ab (i:Int)=fW:=by unfold aQ;rw [if_pos (by omega)]
 unfold yK vk
 rw [if_neg (by rw [pQ hi];simp),hk]
 unfold dP
 rw [if_pos (.inl (by unfold number fW;simp))]
theorem Ar(hR:ay ab) (hi:∀x∈aH,x.value.size≤1000) (k:Key):(valOf ab aH k).size≤1000:=by
 by_cases hk:aB k=true
 ·
  unfold valOf cellOf
  rw [if_pos hk]
  unfold ek
  cases hf:aH.find? fun x=>x.key == k with
  | none=>simp [ByteArray.size]
  | some x=>grind
 have e:valOf ab aH k=yK ab aH (number k).toNat:=by unfold valOf;rw [if_neg hk]
 rw [e]
 rcases Nat.lt_or_ge (number k).toNat ab.length with h | h
 ·
  rw [← jE hR h];obtain⟨n,hn,h2⟩:=Aq (aH:=aH) hR h
  grind [sQ]
 grind [Pq,ByteArray.size]
theorem nz(ab:List aJ) (aH:List dE) (i:Nat):(dC ab aH i).length=dW ab i:=(iZ _ _ _).1
theorem nA(hR:ay ab) {i:Nat}(hi:i<ab.length):∀a∈dC ab aH i,gx ab i a:=by
 have key:∀n,n≤dW ab i→∀a∈(gq (dP ab (aQ ab (i:Int))) (valOf ab aH) n).1,gx ab i a:=by
  intro n
  induction n with
  | zero=>intro _ a ha;simp [gq] at ha
  | succ n ih=>grind [gq,fI,iZ]
 exact key _ (Nat.le_refl _)
theorem gS.valid{k:Key}(h:gS ab k):ik k=true:=by
 cases h with
 | cell h=>
  rename_i n
  have hc:eL (n:Int)=⟨30,itoa (n:Int)⟩:=by unfold eL;rw [if_neg (by omega)]
  rw [hc]
  unfold ik number
  simp only [];rw [if_pos (by omega)]
  grind [mK]
 | gN h mn=>
  rename_i i
  have h1:=dK h mn;have h2:=fX h mn
  unfold ik
  grind
theorem E4(hR:ay ab) {i:Nat}(hi:i<ab.length) {rev:Int}(h0:0≤rev) (h1:rev≤1073741824):fb (jQ ab aH rev i)=true:=by
 have pY:=hR.len;have h6:=lZ hR hi;have hl:=nz ab aH i;obtain⟨n,hn,hv⟩:=Aq (aH:=aH) hR hi;have hs:=sQ hn
 unfold fb iy jQ
 simp only [Bool.and_eq_true,List.all_eq_true,decide_eq_true_eq,Bool.or_eq_true,Bool.not_eq_true'];exact⟨fun a ha=>((nA hR hi a ha).MT hR).valid,(gS.gN hi (by omega)).valid,dI hi (by omega),by rw [hv];omega,by omega,h0,Int.le_refl _,h1,by omega,by omega,.inl trivial⟩
end
section
variable {ab:List aJ}{aH:List dE}{s t:ES}{k:Key}
theorem bm{l:List Rec}{r:Rec}(h:aD l k=some r):r∈l∧r.key=k:=by grind [aD]
def rJ(ab:List aJ) (j:Nat):Nat:=if aI ab j then cz ab j else j
def Lw(ab:List aJ) (i b:Nat):Prop:=if aI ab i then cz ab i≤b else i<b
def aiG(ab:List aJ) (s:ES) (i:Nat):Prop:=∀j:Nat,j<ab.length→s.on (aQ ab (j:Int))=true→Lw ab i (rJ ab j)
def OnR(ab:List aJ) (s:ES) (i:Nat):Prop:=∀j:Nat,j<ab.length→s.on (aQ ab (j:Int))=true→j=i∨Lw ab i (rJ ab j)
theorem LU(hR:ay ab) {i:Nat}(hi:i<ab.length) {ao:List ByteArray}(hn:ao.length<dW ab i) :
  ∃a,dP ab (aQ ab (i:Int)) ao=⟨false,⟨#[]⟩,a⟩∧gx ab i a∧∀m:Nat,m<ab.length→a=aQ ab (m:Int)→Lw ab m (rJ ab i)∧∀b,Lw ab i b→Lw ab m b:=by
 have pY:=hR.len;obtain⟨a,h1,h2,h3⟩:=fI hR hi hn;refine⟨a,h1,h2,fun m hm Xj=>?_⟩;have hb:=iL ab m
 cases hr:aI ab i with
 | false=>
  have RH:m<i:=by
   rcases h2 with⟨n,h4,rfl⟩ | ⟨m',h4,rfl,_,h5,_⟩
   ·
    grind [dj,dI]
   grind [fF]
  unfold Lw rJ
  grind
 | true=>
  unfold Lw rJ
  rw [hr];simp only [if_true]
  cases hrm:aI ab m with
  | false=>
   have jT:m<cz ab i:=by
    rcases h2 with⟨n,h4,rfl⟩ | ⟨m',h4,rfl,_,_,_,h5⟩
    ·
     grind [dj,dI]
    grind [fF]
   grind
  | true=>
   obtain⟨x,hx,hax⟩:=h3 hr;have lx:=List.mem_of_getElem? hx
   have gX:outside ab x=false:=by grind [lH,cA]
   obtain⟨kk,LM,qE,nS⟩:=j6 hR hi hr lx gX
   have:=fF hR nS hm (qE.symm.trans (hax.symm.trans Xj))
   subst this;have Jo:=nt hR (dZ.step dZ.refl LM)
   grind
end
end Go.Rc

namespace Go.Rc
open Go
theorem dY(x:Rec):fb x=true↔(∀a∈x.reads,ik a=true)∧ik x.key=true∧aB x.key=false∧(x.value.size:Int)≤1073741824∧(x.reads.length:Int)≤4000∧0≤x.changed∧x.changed≤x.az∧x.az≤1073741824∧1≤x.cost∧x.cost≤1073741824∧(x.cq=false∨aA x.key=true):=by
 unfold fb iy
 grind
structure DH (s:ES):Prop where
 st:qc s.b.ak
 v:∀r∈s.b.ak,fb r=true∧r.az≤s.b.ae
 r0:0≤s.b.ae
 r1:s.b.ae≤1073741824
section
variable {ab:List aJ}{aH:List dE}{val:Key→ByteArray}{s t:ES}{k:Key}
theorem qc.map{l:List Rec}(h:qc l) {f:Rec→Rec}(hf:∀r,(f r).key=r.key):qc (l.map f):=by grind [qc]
theorem DH.LV(h:DH s) (g:List Key):DH {s with b:=dX s.b g false}:=by
 refine⟨h.st.map fun r=>(dU _ _ _ r).1,fun r hr=>?_,h.r0,h.r1⟩;obtain⟨q,hq,rfl⟩:=List.mem_map.1 hr;obtain⟨h1,h2⟩:=h.v q hq;have h0:=h.r0;have h3:=h.r1
 unfold cZ
 by_cases hk:q.key∈g
 ·
  rw [if_pos hk];simp only [Bool.false_eq_true,if_false];rw [dY] at h1 ⊢;obtain⟨a,b,c,d,e,f,g,i,j,k,l⟩:=h1;exact⟨⟨a,b,c,d,e,f,by grind,h3,j,k,l⟩,Int.le_refl _⟩
 rw [if_neg hk];exact⟨h1,h2⟩
theorem DH.LW(h:DH s) {g:List Key}(hc:∀x∈g,aA x=true):DH {s with b:=dX s.b g true}:=by
 refine⟨h.st.map fun r=>(dU _ _ _ r).1,fun r hr=>?_,h.r0,h.r1⟩;obtain⟨q,hq,rfl⟩:=List.mem_map.1 hr;obtain⟨h1,h2⟩:=h.v q hq
 unfold cZ
 by_cases hk:q.key∈g
 ·
  rw [if_pos hk];simp only [if_true];rw [dY] at h1 ⊢;obtain⟨a,b,c,d,e,f,g,i,j,k,l⟩:=h1;exact⟨⟨a,b,c,d,e,f,g,i,j,k,.inr (hc _ hk)⟩,h2⟩
 rw [if_neg hk];exact⟨h1,h2⟩
theorem Au{l:List Rec}{rev:Int}(hk:aA k=true):∀x∈aF l rev k,aA x=true:=fun x hx=>by
 unfold aF at hx
 split at hx
 ·
  rw [pj,List.mem_cons] at hx
  rcases hx with rfl | hx
  ·
   exact hk
  obtain⟨r,hr,rfl⟩:=List.mem_map.1 hx
  have:=(List.mem_filter.1 hr).2
  unfold Hu at this
  simp only [Bool.and_eq_true] at this;have ho:=(ny.1 this.2.1).jh
  unfold cY at ho
  grind
 grind
theorem DH.put(h:DH s) {r:Rec}{bU:List Key}(hv:fb r=true) (hr:r.az≤s.b.ae):DH {s with b:={s.b with ak:=gW s.b.ak r},bU:=bU}:=
 ⟨h.st.put,fun q hq=>by rcases jc _ _ _ _ hq with rfl | hq;exact⟨hv,hr⟩;exact h.v q hq,h.r0,h.r1⟩
theorem Nd(hR:ay ab) {ao:List ByteArray}(h:jL ab k ao.length) (hd:(aZ ab k ao).done=true):(aZ ab k ao).value.size≤6:=by
 obtain⟨i,hi,rfl,hn⟩:=h;have pY:=hR.len;rw [im hi (by omega)] at hd ⊢
 rcases Nat.lt_or_ge ao.length (dW ab i) with ed | rp
 ·
  grind [fI]
 rw [jv hR hi (by omega)];have hc:=ay.hb hR _ (List.getElem_mem hi);exact sQ (sJ (by omega) fun x hx=>by grind [n9])
theorem Av(hR:ay ab) (h:DH s) {ao:List ByteArray}{reads:List Key}(ha:jL ab k ao.length) (hd:(aZ ab k ao).done=true) (hl:reads.length=ao.length) (hr:∀a∈reads,gS ab a) :
  fb (et s.b k (aZ ab k ao).value reads)=true:=by
 have h6:=ha.le hR;have hs:=Nd hR ha hd;have h0:=h.r0;have h1:=h.r1;rw [dY]
 unfold et
 have ru:∀c:Int,(c=if (aD s.b.ak k).isSome && decide ((aG s.b.ak k).value=(aZ ab k ao).value) then (aG s.b.ak k).changed else s.b.ae)→0≤c∧c≤s.b.ae:=fun c hc=>by
  split at hc
  ·
   rename_i hf
   simp only [Bool.and_eq_true] at hf;obtain⟨r,hf1⟩:=Option.isSome_iff_exists.1 hf.1;have hm:=(bm hf1).1;obtain⟨h2,h3⟩:=h.v r hm
   grind [dY,aG]
  omega
 obtain⟨h2,h3⟩:=ru _ rfl;exact⟨fun a hm=>(hr a hm).valid,(ha.MT hR).valid,(ha.not hR).2,by grind,by grind,h2,h3,h1,by grind,by grind,.inl rfl⟩
def UpO(ab:List aJ) (val:Key→ByteArray) (aH:List dE) (f:Nat):Prop:=∀s k s',oc ab val f s k=some s'→Good ab aH s→DH s→gS ab k→DH s'
def ChO(ab:List aJ) (val:Key→ByteArray) (aH:List dE) (f:Nat):Prop:=∀s k n s' b,dL ab val f s k n=some (s',b)→Good ab aH s→DH s→DH s'
def RuO(ab:List aJ) (val:Key→ByteArray) (aH:List dE) (f:Nat):Prop:=∀s k reads ao s',jr ab val f s k reads ao=some s'→Good ab aH s→DH s→jL ab k ao.length→reads.length=ao.length→(∀a∈reads,gS ab a)→DH s'
theorem Nf(hR:ay ab):∀f,UpO ab val aH f∧ChO ab val aH f∧RuO ab val aH f:=by
 intro f
 induction f with
 | zero=>exact⟨fun s k s' h=>by simp [oc] at h,fun s k n s' b h=>by simp [dL] at h,fun s k r a s' h=>by simp [jr] at h⟩
 | succ f ih=>
  obtain⟨Na,GI,Jq⟩:=ih;have gd:=dr (val:=val) (aH:=aH) hR f;refine⟨?_,?_,?_⟩
  ·
   intro s k s' h hg ho hk
   unfold oc at h
   split at h
   ·
    cases h;exact ho
   rename_i he
   split at h
   ·
    cases h;exact ho
   split at h
   ·
    split at h <;> cases h
    ·
     exact ho
    exact⟨ho.st,ho.v,ho.r0,ho.r1⟩
   obtain⟨p,hp,h⟩:=Option.bind_eq_some_iff.1 h;obtain⟨t,ht,h⟩:=Option.bind_eq_some_iff.1 h
   cases h
   have h1:=GI _ _ _ p.1 p.2 (by rw [hp]) (hg.on k) ⟨ho.st,ho.v,ho.r0,ho.r1⟩;have qX:=(gd.2.1 _ _ _ p.1 p.2 (by rw [hp]) (hg.on k)).1
   have h3:DH t:=by
    split at ht
    ·
     exact Jq _ _ _ _ _ ht qX h1 (hk.jZ (by simp at he;exact he.2)) rfl (fun a ha=>by cases ha)
    cases ht;exact h1
   exact⟨h3.st,h3.v,h3.r0,h3.r1⟩
  ·
   intro s k n s' b h hg ho
   unfold dL at h
   split at h
   ·
    cases h;exact ho
   split at h
   ·
    cases h;exact ho
   split at h
   ·
    cases h;exact ho
   split at h
   ·
    cases h;exact ho.LV _
   rename_i c hc
   split at h
   ·
    obtain⟨t,ht,h⟩:=Option.bind_eq_some_iff.1 h;have h1:=Na _ _ _ ht hg ho (i6 hg hc);exact GI _ _ _ _ _ h (gd.1 _ _ _ ht hg (i6 hg hc)).1 h1
   split at h
   ·
    split at h
    ·
     rename_i ui
     cases h
     exact ho.LW (Au ui)
    cases h;exact ho
   exact GI _ _ _ _ _ h hg ho
  intro s k reads ao s' h hg ho ha hl hr
  unfold jr at h
  split at h
  ·
   cases h;exact ho
  split at h
  ·
   rename_i hd
   split at h
   ·
    cases h;exact⟨ho.st,ho.v,ho.r0,ho.r1⟩
   cases h
   exact ho.put (Av hR ho ha hd hl hr) (Int.le_refl _)
  rename_i hd
  obtain⟨t,ht,h⟩:=Option.bind_eq_some_iff.1 h;have hn:=ha.next hR (by simpa using hd);have h1:=Na _ _ _ ht hg ho hn.2;have qX:=(gd.1 _ _ _ ht hg hn.2).1
  split at h
  ·
   exact Jq _ _ _ _ _ h qX h1 (by simpa using hn.1) (by simp [hl]) (fun a ha=>by grind)
  exact Jq _ _ _ _ _ h qX h1 ha hl hr
theorem Hx(hR:ay ab) {f:Nat}:∀{l:List Key}{s s':ES},eU ab val f s l=some s'→Good ab aH s→DH s→(∀k∈l,gS ab k)→DH s'
 | [],s,s',h,_,ho,_=>by grind [eU]
 | k::r,s,s',h,hg,ho,hk=>by
  simp only [eU] at h;obtain⟨t,h1,h2⟩:=Option.bind_eq_some_iff.1 h
  exact Hx hR h2 ((dr (val:=val) hR f).1 _ _ _ h1 hg (hk k (by simp))).1 ((Nf hR f).1 _ _ _ h1 hg ho (hk k (by simp))) fun k Jz=>hk k (by simp [Jz])
end
end Go.Rc

namespace Go.Rc
open Go
theorem J0{α:Type}{R:α→α→Prop}(ht:∀a b c,R a b→R b c→R a c) {l:List α}(h:∀(i:Nat) (hi:i+1<l.length),R (l[i]'(by omega)) l[i+1]):l.Pairwise R:=by
 refine List.pairwise_iff_getElem.2 fun i j hi hj hij=>?_;obtain⟨d,rfl⟩:∃d,j=i+1+d:=⟨j - (i+1),by omega⟩
 induction d with
 | zero=>exact h i hj
 | succ d ih=>grind
def yL(l:List dE):Prop:=l.Pairwise fun a b=>cE a.key b.key<0
def SC(rev:Int) (x:dE):Prop:=ik x.key=true∧aB x.key=true∧(x.value.size:Int)≤1073741824∧0≤x.changed∧x.changed≤rev
theorem J1{rev:Int}{l:List dE}:EP rev l↔yL l∧∀x∈l,SC rev x:=by
 constructor
 ·
  intro h
  have h1:∀(i:Nat) (hi:i<l.length),SC rev l[i]∧(0<i→cE (l[i - 1]!).key l[i].key<0):=fun i hi=>by
   have h2:=h i _ (aq hi)
   unfold j5 at h2
   simp only [getElem!_pos l i hi,Bool.or_eq_false_iff,Bool.not_eq_false',Bool.and_eq_false_iff,decide_eq_false_iff_not] at h2;obtain⟨a,b,c,d,e,f⟩:=h2;exact⟨⟨a,b,by omega,by omega,by omega⟩,fun h0=>by rcases c with c | c <;> omega⟩
  refine⟨J0 (R:=fun a b:dE=>cE a.key b.key<0) (fun a b c h k=>j8 h k) fun i hi=>?_,fun x hx=>?_⟩
  ·
   grind
  grind [List.mem_iff_getElem]
 rintro⟨h1,h2⟩ i y hy;obtain⟨hi,rfl⟩:=List.getElem?_eq_some_iff.1 hy;obtain⟨a,b,c,d,e⟩:=h2 _ (List.getElem_mem hi)
 unfold j5
 simp only [getElem!_pos l i hi,Bool.or_eq_false_iff,Bool.not_eq_false',Bool.and_eq_false_iff,decide_eq_false_iff_not];refine⟨a,b,?_,by omega,by omega,by omega⟩
 by_cases h0:0<i
 ·
  right
  rw [getElem!_pos l (i - 1) (by omega)]
  have:=List.pairwise_iff_getElem.1 h1 (i - 1) i (by omega) hi (by omega)
  omega
 left
 omega
def ji(n:dE):List dE→Bool→List dE
 | [],put=>if put then [] else [n]
 | x::xs,put=>(if decide (0≤cE x.key n.key) && !put then [n] else [])++(if cE x.key n.key=0 then [] else [x])++ji n xs (put || decide (0≤cE x.key n.key))
theorem Aw(n:dE):∀(l:List dE) (b:Bool) (x:dE),x∈ji n l b→x=n∨x∈l:=by
 intro l
 induction l with
 | nil=>grind [ji]
 | cons y ys ih=>grind [ji]
theorem wY(n:dE):∀l:List dE,ji n l true=l.filter fun x=>!decide (cE x.key n.key=0)
 | []=>rfl
 | x::xs=>by
  simp only [ji,Bool.not_true,Bool.and_false,Bool.false_eq_true,if_false,Bool.true_or,List.nil_append,wY n xs,List.filter_cons]
  grind
theorem rK(n:dE):∀(l:List dE) (b:Bool),(ji n l b).length≤l.length+1
 | [],b=>by cases b <;> simp [ji]
 | x::xs,b=>by
  by_cases h:(decide (0≤cE x.key n.key) && !b)=true
  ·
   have hb:(b || decide (0≤cE x.key n.key))=true:=by simp at h;simp [h.1]
   simp only [ji,List.length_append,List.length_cons];rw [if_pos h,hb,wY]
   grind
  have ih:=rK n xs (b || decide (0≤cE x.key n.key));simp only [ji,List.length_append,List.length_cons]
  grind
theorem yL.put{n:dE}:∀{l:List dE},yL l→yL (ji n l false)
 | [],_=>by simp [yL,ji]
 | x::xs,h=>by
  obtain⟨h1,h2⟩:=List.pairwise_cons.1 h;have ih:yL (ji n xs false):=yL.put h2;have hf:yL (xs.filter fun y=>!decide (cE y.key n.key=0)):=List.Pairwise.filter _ h2
  show yL (ji n (x::xs) false)
  simp only [ji,Bool.not_false,Bool.and_true,Bool.false_or]
  by_cases c1:cE x.key n.key<0
  ·
   rw [decide_eq_false (show ¬0≤cE x.key n.key by omega),if_neg (show ¬cE x.key n.key=0 by omega)];simp only [Bool.false_eq_true,if_false,List.nil_append,List.singleton_append];refine List.pairwise_cons.2 ⟨fun y hy=>?_,ih⟩
   grind [Aw]
  rw [decide_eq_true (show 0≤cE x.key n.key by omega),wY];simp only [if_true]
  by_cases c2:cE x.key n.key=0
  ·
   rw [if_pos c2];simp only [List.append_nil,List.singleton_append];refine List.pairwise_cons.2 ⟨fun y hy=>?_,hf⟩
   grind [qb]
  rw [if_neg c2];simp only [List.singleton_append,List.cons_append]
  have c3:cE n.key x.key<0:=by rw [lK x.key n.key];omega
  refine List.pairwise_cons.2 ⟨fun y hy=>?_,List.pairwise_cons.2 ⟨fun y hy=>h1 y (List.mem_filter.1 hy).1,hf⟩⟩
  grind [j8]
end Go.Rc

namespace Go.Rc
open Go
def SE(r:aJ):Prop:=r.ring=false∧r.asks=[]∧r.final=1∧0≤r.c∧r.c≤99
theorem SE.key{ab:List aJ}{i:Nat}(hi:i<ab.length) (mn:i≤99) (h:SE ab[i]):aQ ab (i:Int)=⟨31,itoa i⟩:=by
 unfold aQ
 rw [if_neg (by omega)]
 simp [da hi,h.1]
end Go.Rc
namespace Go.Rc
open Go
def iN(i:Nat) (v:ByteArray):Rec:=⟨⟨31,itoa i⟩,v,[],0,0,1,false⟩
def DI{α:Type}(l:List α) (p:α→Bool) (j:Int):Prop:=(∃i:Nat,∃x,l[i]?=some x∧p x=true∧(∀j x,j<i→l[j]?=some x→p x=false)∧j=i)∨((∀x∈l,p x=false)∧j = -1)
end Go.Rc
namespace Go.Rc
open Go
structure WD where
 (ar a1 a2:Option Addr) (r cr n1 c1 n2 c2 m v:Nat)
def WD.cells(D:WD) (x:dV):List Value:=
 [.slice D.ar D.r D.cr,.int .i64 x.ae,.slice D.a1 D.n1 D.c1,.slice D.a2 D.n2 D.c2,.map (some D.m),.pointer (some ⟨D.v,0,none⟩),.slice none 0 0]
end Go.Rc

namespace Go.Rc
open Go
def Cx(a b:Int):Int:=if a<b then -1 else if b<a then 1 else 0
def Xk(l:List Int):Int:=(l.find? fun x=>decide (x≠0)).getD 0
theorem Xl{l:List Int}{i:Nat}(hi:i<l.length) (gh:∀j x,j<i→l[j]?=some x→x=0) (h:l[i]≠0):Xk l=l[i]:=by grind [Xk,ki]
theorem SF{l:List Int}(h:∀x∈l,x=0):Xk l=0:=by grind [Xk,List.find?_eq_none]
theorem SG{a b:Key}:Xk [Cx a.kind b.kind,Lib.compareBytes a.text.data.toList b.text.data.toList]=cE a b:=by
 unfold Xk Cx cE
 grind
theorem Pr{α:Type}{R:α→List Value→Prop}{x y:α}{r s:List Value}(h1:R x r) (h2:R y s):∀(i:Nat) (z:α) (t:List Value),[x,y][i]?=some z→[r,s][i]?=some t→R z t:=fun i z t hz ht=>by grind
theorem gS.shape{ab:List aJ}{k:Key}(h:gS ab k):∃i:Nat,i≤99∧k.text=itoa i∧(30≤k.kind∧k.kind≤32):=by
 cases h with
 | cell h=>rename_i n;exact⟨n,h,by unfold eL;rw [if_neg (by omega)],by unfold eL;rw [if_neg (by omega)];simp⟩
 | gN h mn=>rename_i i;exact⟨i,mn,by unfold aQ;rw [if_neg (by omega)],by grind [fX]⟩
theorem gS.gY{ab:List aJ}{k:Key}(h:gS ab k):gY k:=by
 obtain⟨_,_,_,h1⟩:=h.shape;exact .inr (by omega)
theorem vp{ab:List aJ}{k:Key}(h:gS ab k) (hc:aA k=true):k.kind=32:=by
 cases h with
 | cell h=>grind [nq]
 | gN h mn=>grind [cA,fX]
theorem DI.any{α:Type}{l:List α}{p:α→Bool}{j:Int}(h:DI l p j):decide (0≤j)=l.any p:=by
 rcases h with⟨i,x,h1,h2,_,rfl⟩ | ⟨h1,rfl⟩
 ·
  grind
 grind
def Hy(ab:List aJ) (x:Rec):Prop:=gS ab x.key∧aB x.key=false∧(∀a∈x.reads,gS ab a)∧fb x=true
def kT(ab:List aJ) (x:dV):Prop:=0≤x.ae∧x.ae≤1073741824∧(yL x.ah∧∀y∈x.ah,SC x.ae y)∧(∀y∈x.ah,∃i:Nat,i≤99∧y.key=⟨30,itoa i⟩)∧x.ah.length≤64∧(∀r∈x.ak,Hy ab r)∧qc x.ak∧x.ak.length≤4000∧∀r∈x.ak,r.az≤x.ae
end Go.Rc

namespace Go.Rc
open Go
section
variable {l l':List aJ}
def dp(l l':List aJ):Prop:=l.map (·.ring)=l'.map (·.ring)
theorem dp.len(h:dp l l'):l.length=l'.length:=by simpa using congrArg List.length h
theorem dp.rg(h:dp l l') (i:Nat):aI l i=aI l' i:=by
 have h2:=congrArg (fun x=>x[i]?) h
 grind [aI]
theorem dp.lo(h:dp l l'):∀k,cz l k=cz l' k
 | 0=>rfl
 | k+1=>by unfold cz;rw [h.rg k,h.lo k]
theorem qF:∀{l l':List aJ},dp l l'→(l.takeWhile (·.ring)).length=(l'.takeWhile (·.ring)).length
 | [],[],_=>rfl
 | [],_::_,h=>by simp [dp] at h
 | _::_,[],h=>by simp [dp] at h
 | x::r,y::s,h=>by
  simp only [dp,List.map_cons,List.cons.injEq] at h;have ih:=qF (l:=r) (l':=s) h.2
  grind [List.takeWhile_cons]
theorem dp.hi(h:dp l l') (m:Nat):fw l m=fw l' m:=by grind [fw,qF,dp,List.map_drop]
theorem dp.block(h:dp l l') (n:Int):block l n=block l' n:=by
 unfold Go.Rc.block
 rw [h.len,h.rg,h.lo,h.hi]
theorem dp.may(h:dp l l') (i:Nat) (c:Bool) (n:Int):iX l i c n=iX l' i c n:=by grind [iX,il,rg,block]
theorem dp.ask(h:dp l l') (i:Nat) (g:Bool) (k:Nat) (x:Ask):gV l i g k x=gV l' i g k x:=by
 unfold gV
 rw [h.may,h.may]
theorem dp.gN(h:dp l l') (i:Nat) (r:aJ):pT l i r↔pT l' i r:=by
 unfold pT
 simp only [h.ask]
theorem dp.set{i:Nat}(hi:i<l.length) {r:aJ}(hr:r.ring=aI l i):dp (l.set i r) l:=by
 unfold dp
 rw [List.map_set,hr,da hi];refine List.ext_getElem? fun j=>?_
 grind
def oC(l:List aJ) (i:Nat):Prop:=l.length≤8∧∀(j:Nat) (r:aJ),l[j]?=some r→j<i→pT l j r
theorem oC.start(h:l.length≤8):oC l 0:=⟨h,fun _ _ _ h=>by omega⟩
theorem oC.set{i:Nat}(h:oC l i) (hi:i<l.length) {r:aJ}(hr:r.ring=aI l i) (ho:pT l i r):oC (l.set i r) (i+1):=by
 have hs:=dp.set hi hr;refine⟨by rw [List.length_set];exact h.1,fun j x hx hj=>?_⟩;rw [hs.gN];rw [List.getElem?_set] at hx
 split at hx
 ·
  grind
 exact h.2 j x hx (by omega)
theorem oC.ok(h:oC l l.length):ay l:=⟨by have:=h.1;omega,fun i r hr=>h.2 i r hr (List.getElem?_eq_some_iff.1 hr).1⟩
theorem Xm{i k:Nat}{g:Bool}{x:Ask}{most:Int}(hm:most=if x.cell then 4 else il l i) (h0:0≤x.n) (h1:x.n<most) (hp:x.pick=true→g=false∧k≠0∧0≤x.JF∧x.JF<most) (he:x.pick=false→x.JF=0):gV l i g k x=true:=by grind [iX,gV]
end
end Go.Rc

namespace Go.Rc
open Go
def As.jR(E d:Nat):As where
 fp x:=x=d
 ok Z w:=JK Z w E d
 lt h x hx:=by subst hx;exact h.lt
 mono hZ h:=by
  obtain⟨l,a,n,c,t,h1,h2,h3⟩:=h;exact⟨l,a,n,c,t,h1,SR.mono h2 (fun b hb _=>hZ b hb) (fun _ _ h=>h),h3⟩
 st hs hc h:=by
  obtain⟨l,a,n,c,t,h1,h2,h3⟩:=h;exact⟨l,a,n,c,t,(As.blk d E _).st (Z:=fun _=>False) hs (fun x hx=>hc x (hx.imp id False.elim)) h1,SR.st hs (fun x hx=>hc x (.inr hx)) (fun _ _ h=>h) h2,h3⟩
theorem As.gd{E d:Nat}{Z:Nat→Prop}{w:World}(h:(As.jR E d).ok Z w):JK Z w E d:=h
def RR.cX:RR Change:=RR.flat Change.cells
def begun(g:Bool):aJ:=⟨g,[],0,0⟩
theorem Ow.flat{α:Type}{f:α→List Value}{b T k n:Nat}{Z:Nat→Prop}{w:World}{xs:List α}{l:List Value}(h:cJ w b T l) (hl:l=(xs.map f).flatten) (hk:∀x∈xs,(f x).length=k) (h1:∀u∈l,u.oneCell'=true) (hn:n=xs.length) (hm:xs.length≤140737488355328) :
  Ow (RR.flat f) T k Z w (some ⟨b,0,none⟩) n n xs:=by
 subst hn hl
 have hlen:∀(ys:List α),(∀x∈ys,(f x).length=k)→(ys.map f).flatten.length=ys.length*k:=by
  intro ys
  induction ys with
  | nil=>simp
  | cons y ys ih=>grind
 refine⟨rfl,xs.map f,by simp,by simpa using hk,by simpa using OL.blk (k:=k) h (Nat.zero_le _) (m:=xs.length) (hlen xs hk) h1 hm,fun i x r hx hr=>?_⟩;rw [List.getElem?_map,hx] at hr
 simp at hr
 exact hr.symm
def As.aiH{ι:Type}(b T:Nat) (F:ι→List Value):As where
 fp x:=x=b
 ok _ w:=∃i,cJ w b T (F i)
 lt h x hx:=by obtain⟨i,h⟩:=h;subst hx;exact h.lt
 mono _ h:=h
 st hs hc h:=by obtain⟨i,h⟩:=h;exact⟨i,(As.blk b T _).st (Z:=fun _=>False) hs (fun x hx=>hc x (hx.imp id False.elim)) h⟩
theorem Ow.ring{E n c i b:Nat}{Z:Nat→Prop}{w:World}{a:Option Addr}{l:List aJ}(h:Ow RR.gN E 4 Z w a n c l) (ha:a=some ⟨b,0,none⟩) (hle:l.length≤140737488355328) (hi:i<l.length):w.rangeAt b (0+i*4) [.bool l[i].ring]:=by
 obtain⟨b',r,h1,_,h3,h4⟩:=Ow.at h hle (aq hi);rw [ha] at h1;simp only [Option.some.injEq,Addr.mk.injEq,and_true] at h1;subst h1;obtain⟨a',n',c',rfl,_⟩:=h3;intro j v hv
 cases j with
 | zero=>exact h4 0 v hv
 | succ j=>simp at hv
theorem E7(l:List aJ) (m:Nat) (hm:m≤l.length):fw l m≤l.length:=by grind [fw,List.takeWhile_sublist]
theorem Cy{l:List aJ}{i:Nat}(hi:i<l.length):0≤il l i∧il l i≤l.length:=by
 have h1:=E7 l (i+1) (by omega)
 have hb:block l (i:Int)=if aI l i then ((cz l i:Int),(fw l (i+1):Int)) else ((i:Int),(i:Int)+1):=by
  unfold block;grind
 grind [il]
theorem Ng{l:List aJ}{i:Nat}{g:Bool}{xs:List Ask}{x:Ask}(h:∀(k:Nat) y,xs[k]?=some y→gV l i g k y=true) (hx:gV l i g xs.length x=true):∀(k:Nat) y,(xs++[x])[k]?=some y→gV l i g k y=true:=fun k y hy=>by grind
end Go.Rc

namespace Go.Rc
open Go
def DJ(RT:Nat) (l:List Rec) (bs:List Nat):FZ where
 p Z w:=∀(i:Nat) (r:Rec) (b:Nat),l[i]?=some r→bs[i]?=some b→Z b∧∃a n c,cJ w b RT (r.row a n c)
 mono h H:=fun i r b h1 h2=>⟨h _ (H i r b h1 h2).1,(H i r b h1 h2).2⟩
 st hs hc H:=fun i r b h1 h2=>by
  obtain⟨hz,a,n,c,hb⟩:=H i r b h1 h2;exact⟨hz,a,n,c,(As.blk b RT _).st (Z:=fun _=>False) hs (fun x hx ed=>hc x (by rcases hx with hx | hx;(have e:x=b:=hx);subst e;exact hz;exact hx.elim) ed) hb⟩
theorem DJ.nil(RT:Nat) (Z:Nat→Prop) (w:World):(DJ RT [] []).p Z w:=fun i r b h=>by simp at h
theorem DJ.snoc{RT b:Nat}{l:List Rec}{bs:List Nat}{r:Rec}{a:Option Addr}{n c:Nat}{Z:Nat→Prop}{w:World}(h:(DJ RT l bs).p Z w) (hl:bs.length=l.length) (hz:Z b) (hb:cJ w b RT (r.row a n c)):(DJ RT (l++[r]) (bs++[b])).p Z w:=fun i r' b' h1 h2=>by
 rcases Nat.lt_trichotomy i l.length with hi | hi | hi
 ·
  rw [List.getElem?_append_left hi] at h1;rw [List.getElem?_append_left (by omega)] at h2;exact h i r' b' h1 h2
 ·
  grind
 grind
def oD(l:List Rec) (bs:List Nat) (ml:List (Key × Value)):Prop:=bs.length=l.length∧∀(i:Nat) (r:Rec) (b:Nat),l[i]?=some r→bs[i]?=some b→ck ml r.key=some (.pointer (some ⟨b,0,none⟩))
theorem oD.nil:oD [] [] []:=⟨rfl,fun i r b h=>by simp at h⟩
theorem oD.snoc{l:List Rec}{bs:List Nat}{ml:List (Key × Value)}{r:Rec}{b:Nat}(h:oD l bs ml) (hk:∀y∈l,y.key≠r.key):oD (l++[r]) (bs++[b]) (dH ml r.key (.pointer (some ⟨b,0,none⟩))):=by
 refine⟨by simp [h.1],fun i r' b' h1 h2=>?_⟩
 rcases Nat.lt_trichotomy i l.length with hi | hi | hi
 ·
  rw [List.getElem?_append_left hi] at h1;rw [List.getElem?_append_left (by rw [h.1];omega)] at h2;rw [eQ,if_neg (fun e=>hk r' (List.mem_of_getElem? h1) e.symm)];exact h.2 i r' b' h1 h2
 ·
  subst hi;rw [← h.1] at h2
  simp at h1 h2
  subst h1 h2;rw [eQ,if_pos rfl]
 grind
theorem qc.ne{l:List Rec}(h:qc l) {i:Nat}(hi:i<l.length):∀y∈l.take i,y.key≠l[i].key:=fun y hy e=>by
 obtain⟨j,hj,rfl⟩:=List.mem_iff_getElem.1 hy
 have kL:j<i:=by simp at hj;omega
 have h1:cE l[j].key l[i].key<0:=List.pairwise_iff_getElem.1 h j i (by omega) hi kL
 grind [lK]
noncomputable def vq(ab:List aJ) (aH:List dE) (r:Rec):Bool:=decide (valOf ab aH r.key=r.value)
noncomputable def sR(ab:List aJ) (aH:List dE) (r:Rec):Bool:=decide (wV ab aH r.key=r.reads)
def wZ(r:Rec):Bool:=decide (r.cost=1+r.reads.length)
noncomputable def rL(ab:List aJ) (aH:List dE):Nat→Rec→Bool
 | 0,r=>vq ab aH r
 | 1,r=>sR ab aH r
 | 2,_=>true
 | 3,r=>vq ab aH r
 | _,r=>wZ r
noncomputable def gZ(ab:List aJ) (aH:List dE) (l:List Rec) (j:Nat):List Int:=((List.range j).filter fun i=>!l.all (rL ab aH i)).map fun i:Nat=>(i:Int)+1
theorem qd(ab:List aJ) (aH:List dE) (l:List Rec) (j:Nat):gZ ab aH l (j+1)=gZ ab aH l j++(if l.all (rL ab aH j) then [] else [(j:Int)+1]):=by grind [gZ,List.range_succ]
theorem Hz(ab:List aJ) (aH:List dE) (l:List Rec) (j:Nat):(gZ ab aH l j).length≤j:=by grind [gZ]
theorem Xn{l:List Rec}{rev:Int}{k:Key}(ll:∀y∈l,y.az=rev) (hs:(aD l k).isSome=true):(aG l k).az=rev:=by grind [Option.isSome_iff_exists,aG,bm]
end Go.Rc

namespace Go.Rc
open Go
section
variable {κ:Type}{enc:κ→Value}
def RO(enc:κ→Value) (w:World) (b m:Nat) (l left:List (κ × Value)) (cur:Option (κ × Value)):Prop:=
 ∃es clock since seen,w.heap[m]?=some (.map es clock)∧(es.toList.map (fun e=>(e.key,e.val))=l.map (fun p=>(enc p.1,p.2))∧(l.map (·.1)).Nodup∧(∀e∈es.toList,e.born<clock)∧(es.toList.map (·.born)).Nodup)∧
  w.heap[b]?=some (.mapIter (some m) since seen clock)∧b≠m∧since≤clock∧(∀e∈es.toList,e.born<since)∧
  (leftOf es seen).toList.map (fun e=>(e.key,e.val))=left.map (fun p=>(enc p.1,p.2))∧
  ∀p,cur=some p→∃e∈es.toList,seen.back?=some e.born∧e.key=enc p.1∧e.val=p.2
variable {w w':World}{b m:Nat}{l left:List (κ × Value)}{cur:Option (κ × Value)}
theorem RO.lt(h:RO enc w b m l left cur):b<w.heap.size∧m<w.heap.size:=by
 obtain⟨es,clock,since,seen,h1,_,h3,_⟩:=h;exact⟨(Array.getElem?_eq_some_iff.1 h3).1,(Array.getElem?_eq_some_iff.1 h1).1⟩
def As.mit(enc:κ→Value) (b m:Nat) (l left:List (κ × Value)) (cur:Option (κ × Value)):As where
 fp x:=x=b∨x=m
 ok _ w:=RO enc w b m l left cur
 lt h x hx:=by rcases hx with rfl | rfl;exact h.lt.1;exact h.lt.2
 mono _ h:=h
 st hs hc h:=by
  have hl:=h.lt;obtain⟨es,clock,since,seen,h1,h2,h3,h4⟩:=h;exact⟨es,clock,since,seen,by rw [hc m (.inl (.inr rfl)) hl.2];exact h1,h2,by rw [hc b (.inl (.inl rfl)) hl.1];exact h3,h4⟩
theorem As.acu{Z:Nat→Prop}(h:(As.mit enc b m l left cur).ok Z w):RO enc w b m l left cur:=h
def DK(enc:κ→Value):Option (κ × Value)→Array Value
 | none=>#[.bool false]
 | some p=>#[.bool true,enc p.1,p.2]
theorem SH(r:Option (κ × Value)):(DK enc r)[0]?=some (.bool r.isSome):=by cases r <;> rfl
theorem qG:∀(L:List MapEntry) (j:Nat) (e:MapEntry),(L.map (·.born)).Nodup→L[j]?=some e→L.filter (fun x=>!(x.born == e.born))=L.eraseIdx j
 | [],_,_,_,h=>by simp at h
 | x::r,0,e,hn,h=>by
  simp at h
  subst h;simp only [List.map_cons,List.nodup_cons] at hn;rw [List.filter_cons];simp only [beq_self_eq_true,Bool.not_true,Bool.false_eq_true,if_false,List.eraseIdx_zero,List.tail_cons];refine List.filter_eq_self.2 fun y hy=>?_
  have:y.born≠x.born:=fun e=>hn.1 (e ▸ List.mem_map.2 ⟨y,hy,rfl⟩)
  simpa using this
 | x::r,j+1,e,hn,h=>by
  simp only [List.map_cons,List.nodup_cons] at hn;simp only [List.getElem?_cons_succ] at h;have hx:x.born≠e.born:=fun h2=>hn.1 (h2 ▸ List.mem_map.2 ⟨e,List.mem_of_getElem? h,rfl⟩);rw [List.filter_cons,if_pos (by simpa using hx),qG r j e hn.2 h,List.eraseIdx_cons_succ]
theorem HA(es:Array MapEntry) (seen:Array Nat) (b:Nat):(leftOf es (seen.push b)).toList=(leftOf es seen).toList.filter fun x=>!(x.born == b):=by
 unfold leftOf
 rw [Array.toList_filter,Array.toList_filter,List.filter_filter]
 congr 1
 funext x
 rw [Array.contains_push,Bool.not_or,Bool.and_comm]
theorem map_eraseIdx{α β:Type}(f:α→β):∀(l:List α) (j:Nat),(l.eraseIdx j).map f=(l.map f).eraseIdx j
 | [],_=>by simp
 | _::_,0=>by simp
 | x::r,j+1=>by simp [map_eraseIdx f r j]
variable {P:Program}{kv:KV}{n:Nat}{K:KV→World→Prop}{d:Tmp}{ty:TypeId}{pos:String}{af:Array Edge}{g:Option (Nat × Bool)}{T kt e:TypeId}{x:Operand}
theorem OX.range(hT:P.underlying T=some (.map kt e)) (hm:KM enc w m l) (hx:ev kv x=some (.map (some m))) (hd:Nat.blt d n=true)
  (h:∀b w',bj [] w w'→w.heap.size≤b→RO enc w' b m l l none→K ((d,.pointer (some ⟨b,0,none⟩))::kv) w'):OX P ⟨some d,.range T x,ty,pos,af,g⟩ n kv w K:=by
 obtain⟨es,clock,h1,h2⟩:=hm;have ed:m<w.heap.size:=(Array.getElem?_eq_some_iff.1 h1).1;refine⟨rfl,hd,by simp [known,opers,hx],?_⟩
 have hr:(execOp (mi kv) ⟨some d,.range T x,ty,pos,af,g⟩).run P w=.ok (.value (.pointer (some ⟨w.heap.size,0,none⟩))) (w.alloc (.mapIter (some m) clock #[] clock)):=by
  simp only [execOp,aK hx,Sem.run_bind,run_range_map w T kt e m es clock hT h1,Result.andThen_ok];rfl
 rw [hr];refine h _ _ (mQ _ _) (Nat.le_refl _) ⟨es,clock,clock,#[],by rw [heap_alloc_old w _ (h:=ed)];exact h1,h2,heap_alloc_new _ _,by omega,Nat.le_refl _,h2.2.2.1,?_,fun p hp=>by cases hp⟩
 have:leftOf es #[]=es:=by unfold leftOf;simp
 rw [this];exact h2.1
theorem Nh(hm:RO enc w b m l left cur):∃(r:Option (κ × Value)) (x7:List (κ × Value)) (w':World),(Instr.next (.pointer (some ⟨b,0,none⟩)) false ty).run P w=.ok (.tuple (DK enc r)) w'∧bj [b] w w'∧
  (match r with | none=>left=[]∧x7=[] | some p=>∃j,left[j]?=some p∧x7=left.eraseIdx j)∧RO enc w' b m l x7 r:=by
 obtain⟨es,clock,since,seen,h1,h2,h3,h4,h5,h6,h7,h8⟩:=hm;have ed:b<w.heap.size:=(Array.getElem?_eq_some_iff.1 h3).1
 have j4:∀y∈(leftOf es seen).toList,y∈es.toList:=fun y hy=>by
  unfold leftOf at hy
  rw [Array.toList_filter] at hy;exact(List.mem_filter.1 hy).1
 have U4:=next_test_false seen es since clock h6 h5
 have e1:(leftOf es seen).filter (fun x=>decide (x.born<since))=leftOf es seen:=Array.filter_eq_self.2 fun y hy=>by
  have:=h6 y (j4 y (by simpa using hy))
  simpa using this
 have e2:(leftOf es seen).filter (fun x=>decide (x.born≥since))=#[]:=by
  rw [Array.filter_eq_empty_iff];intro y hy
  have:=h6 y (j4 y (by simpa using hy))
  simp
  omega
 have hlen:(leftOf es seen).size=left.length:=by simpa using congrArg List.length h7
 by_cases h0:(leftOf es seen).size=0
 ·
  have hL:leftOf es seen=#[]:=Array.eq_empty_of_size_eq_zero h0
  have MF:left=[]:=by cases left with
   | nil=>rfl
   | cons a r=>rw [h0] at hlen;simp at hlen
  subst MF;refine⟨none,[],w,?_,bj.refl _ _,⟨rfl,rfl⟩,es,clock,since,seen,h1,h2,h3,h4,h5,h6,h7,fun p hp=>by cases hp⟩;simp only [Instr.next,getObj,Sem.run_bind,Sem.run,h3,h1,Result.andThen,U4,Bool.false_eq_true,if_false];rw [show(es.filter fun e=>!seen.contains e.born)=leftOf es seen from rfl,hL]
  simp [choose,Sem.run,Question.forced,DK]
 have kh:(leftOf es seen).isEmpty=false:=by simp [Array.isEmpty,h0]
 have ru:∃(j:Nat) (w1:World),j<(leftOf es seen).size∧w1.heap=w.heap∧bj [] w w1∧(choose (Question.mapNext (leftOf es seen).size)).run P w=.ok j w1:=by
  by_cases hf:(leftOf es seen).size≤1
  ·
   exact⟨0,w,by omega,rfl,bj.refl _ _,by simp [choose,Sem.run,Question.forced,hf]⟩
  exact⟨_,w.drew,Nat.mod_lt _ (by omega),rfl,⟨rfl,rfl,rfl,Nat.le_refl _,Nat.le_succ _,fun _ _ _=>rfl⟩,by
   simp only [choose,Sem.run,Question.forced,decide_eq_true_eq,hf,if_false,Question.cut]
   rfl⟩
 obtain⟨j,w1,hj,hh,hc1,lY⟩:=ru;obtain⟨y,hy⟩:∃y,(leftOf es seen)[j]?=some y:=⟨_,Array.getElem?_eq_getElem hj⟩
 have MB:(leftOf es seen).toList[j]?=some y:=by rw [Array.getElem?_toList];exact hy
 have hye:y∈es.toList:=j4 y (List.mem_of_getElem? MB);obtain⟨p,hp⟩:∃p,left[j]?=some p:=⟨_,List.getElem?_eq_getElem (by omega)⟩
 have hpe:(y.key,y.val)=(enc p.1,p.2):=by
  have:=congrArg (fun x=>x[j]?) h7
  simp only [List.getElem?_map,MB,hp,Option.map_some,Option.some.injEq] at this;exact this
 simp only [Prod.mk.injEq] at hpe
 have G8:((leftOf es seen).toList.map (·.born)).Nodup:=by
  unfold leftOf
  rw [Array.toList_filter];exact(List.filter_sublist.map _).nodup h2.2.2.2
 refine⟨some p,left.eraseIdx j,{w1 with heap:=w1.heap.setIfInBounds b (.mapIter (some m) since (seen.push y.born) clock)},?_,?_,⟨j,hp,rfl⟩,es,clock,since,seen.push y.born,?_,h2,?_,h4,h5,h6,?_,?_⟩
 ·
  simp only [Instr.next,getObj,Sem.run_bind,Sem.run,h3,h1,Result.andThen,U4,Bool.false_eq_true,if_false];rw [show(es.filter fun e=>!seen.contains e.born)=leftOf es seen from rfl,e1,e2];simp only [kh,Bool.false_eq_true,if_false,Array.empty_append,Array.append_empty,Array.size_map,lY,Array.getElem?_map,hy,Option.map_some]
  have wI:(setObj b (.mapIter (some m) since (seen.push y.born) clock)).run P w1=.ok () {w1 with heap:=w1.heap.setIfInBounds b (.mapIter (some m) since (seen.push y.born) clock)}:=by
   simp only [setObj,Sem.run];rw [hh,h3]
  simp only [Sem.run_bind,wI,Result.andThen,DK,hpe.1,hpe.2]
  try rfl
 ·
  have:=kQ w1 b (.mapIter (some m) since (seen.push y.born) clock)
  exact bj.trans (bj.mono hc1 (by simp)) this
 ·
  show(w1.heap.setIfInBounds b _)[m]?=_
  rw [hh,Array.getElem?_setIfInBounds_ne h4];exact h1
 ·
  show(w1.heap.setIfInBounds b _)[b]?=_
  rw [hh,Array.getElem?_setIfInBounds_self]
  simp [ed]
 ·
  rw [HA,qG _ j y G8 MB,map_eraseIdx,map_eraseIdx,h7]
 intro q hq;simp only [Option.some.injEq] at hq;subst hq;exact⟨y,hye,Array.back?_push,hpe.1,hpe.2⟩
theorem OX.next(hm:RO enc w b m l left cur) (hx:ev kv x=some (.pointer (some ⟨b,0,none⟩))) (hd:Nat.blt d n=true)
  (h:∀r x7 w',bj [b] w w'→(match r with | none=>left=[]∧x7=[] | some p=>∃j,left[j]?=some p∧x7=left.eraseIdx j)→RO enc w' b m l x7 r→K ((d,.tuple (DK enc r))::kv) w'):OX P ⟨some d,.next x false,ty,pos,af,g⟩ n kv w K:=by
 obtain⟨r,x7,w',h1,h2,h3,h4⟩:=Nh (P:=P) (ty:=ty) hm;refine⟨rfl,hd,by simp [known,opers,hx],?_⟩
 have hr:(execOp (mi kv) ⟨some d,.next x false,ty,pos,af,g⟩).run P w=.ok (.value (.tuple (DK enc r))) w':=by
  simp only [execOp,aK hx,Sem.run_bind,h1,Result.andThen_ok];rfl
 rw [hr];exact h _ _ _ h2 h3 h4
theorem PV.entry{p:κ × Value}(hm:RO enc w b m l left (some p)) (hx:ev kv x=some (.pointer (some ⟨b,0,none⟩))):PV P (.entry x) ty kv w (.tuple #[enc p.1,p.2]):=by
 obtain⟨es,clock,since,seen,h1,h2,h3,_,_,_,_,h8⟩:=hm;obtain⟨y,hy,hb,hk,hv⟩:=h8 p rfl;refine⟨rfl,by simp [known,opers,hx],fun _ _ _ _=>?_⟩
 have hf:es.find? (·.born == y.born)=some y:=by rw [← Array.find?_toList];exact find_born y es.toList h2.2.2.2 hy
 have:(Instr.entry (.pointer (some ⟨b,0,none⟩))).run P w=.ok (.tuple #[enc p.1,p.2]) w:=by
  simp only [Instr.entry,getObj,Sem.run_bind,Sem.run,h3,h1,hb,Result.andThen,bne_self_eq_false,Bool.false_eq_true,if_false,hf,hk,hv]
  rfl
 simp only [execOp,aK hx,Sem.run_bind,this,Result.andThen_ok]
 rfl
end
end Go.Rc

namespace Go.Rc
open Go
theorem qH{α:Type}:∀{l:List α}{j:Nat}{p q:α},l[j]?=some p→q∈l→q=p∨q∈l.eraseIdx j
 | [],_,_,_,_,h=>by cases h
 | x::r,0,p,q,h,hq=>by grind
 | x::r,j+1,p,q,h,hq=>by
  rcases List.mem_cons.1 hq with rfl | hq
  ·
   exact .inr (by simp)
  rcases qH (l:=r) (by simpa using h) hq with h1 | h1
  ·
   exact .inl h1
  exact .inr (by simp [h1])
section
variable {ab:List aJ}{aH:List dE}
theorem qV.cj(hR:ay ab) {i0:Nat}{L:List Nat}{u:Nat→Nat}{am:List (Key × Value)}(h:qV ab L u am) (hn:(am.map (·.1)).Nodup) (hr:eT ab aH i0 L u) (hd:∀j∈L,u j=rv ab aH j) :
  ∀p∈am,p.2=.string (valOf ab aH p.1):=fun p hp=>by
 have hg:ck am p.1=some p.2:=(G5 hn).2 hp
 by_cases hk:∃j∈L,p.1=aQ ab (j:Int)
 ·
  obtain⟨j,hj,e⟩:=hk;obtain⟨mu,Ah⟩:=hr.ring j hj;rw [e,h.1 j hj] at hg
  grind [jE,kn]
 rw [h.2 p.1 fun j hj e=>hk ⟨j,hj,e⟩] at hg
 cases hg
theorem qV.first{i0:Nat}{L:List Nat}{u:Nat→Nat}{am:List (Key × Value)}(h:qV ab L u am) (hn:(am.map (·.1)).Nodup) (hr:eT ab aH i0 L u):∃p∈am,p.1=aQ ab (i0:Int):=
 ⟨(_,_),(G5 hn).1 (h.1 i0 hr.first),rfl⟩
theorem Pu{am left ml:List (Key × Value)}{j:Nat}{p:Key × Value}(hd:∀q∈am,q∈left∨ck ml q.1=some q.2) (he:∀q∈am,q.2=.string (valOf ab aH q.1)) (hj:left[j]?=some p) :
  ∀q∈am,q∈left.eraseIdx j∨ck (dH ml p.1 (.string (valOf ab aH p.1))) q.1=some q.2:=fun q hq=>by
 rw [eQ]
 by_cases e:p.1=q.1
 ·
  grind
 rw [if_neg e]
 rcases hd q hq with h | h
 ·
  rcases qH hj h with h1 | h1
  ·
   subst h1;exact absurd rfl e
  exact .inl h1
 exact .inr h
end
end Go.Rc

namespace Go.Rc
open Go
def l4(rev:Int) (l:List dE):Prop:=yL l∧(∀y∈l,SC rev y)∧∀y∈l,(∃i:Nat,i≤9∧y.key=⟨30,itoa i⟩)∧y.value.size≤1000
theorem l4.nil(rev:Int):l4 rev []:=⟨.nil,by simp,by simp⟩
theorem l4.mono{r s:Int}{l:List dE}(h:l4 r l) (Xo:r≤s):l4 s l:=⟨h.1,fun y hy=>by obtain⟨a,b,c,d,e⟩:=h.2.1 y hy;exact⟨a,b,c,d,by omega⟩,h.2.2⟩
theorem Change.small.key{c:Change}(h:c.small):∃i:Nat,i≤9∧c.key=⟨30,itoa i⟩:=by
 obtain⟨⟨n,h0,h3,hk⟩,_⟩:=h;refine⟨n.toNat,by omega,?_⟩;rw [hk]
 unfold eL
 grind
theorem Change.small.ok{c:Change}(h:c.small):ik c.key=true∧aB c.key=true:=by
 obtain⟨⟨n,h0,h3,hk⟩,_⟩:=h;obtain⟨m,rfl⟩:∃m:Nat,n=(m:Int):=⟨n.toNat,by omega⟩;rw [hk];exact⟨gS.valid (ab:=[]) (.cell (by omega)),dj (by omega)⟩
theorem l4.put{rev:Int}{l:List dE}{c:Change}(h:l4 rev l) (hc:c.small) (h0:0≤rev):l4 rev (ji ⟨c.key,c.value,rev⟩ l false):=by
 refine⟨yL.put h.1,fun y hy=>?_,fun y hy=>?_⟩
 ·
  rcases Aw _ _ _ _ hy with rfl | hy
  ·
   have:=hc.2
   exact⟨hc.ok.1,hc.ok.2,by grind,h0,Int.le_refl _⟩
  exact h.2.1 y hy
 rcases Aw _ _ _ _ hy with rfl | hy
 ·
  obtain⟨i,hi,hk⟩:=hc.key;exact⟨⟨i,by omega,hk⟩,Nat.le_trans hc.2 (by decide)⟩
 exact h.2.2 y hy
theorem DL{α:Type} [BEq α] [LawfulBEq α]:∀{l U:List α},l.Nodup→(∀x∈l,x∈U)→l.length≤U.length
 | [],_,_,_=>Nat.zero_le _
 | x::r,U,hn,hs=>by
  have hx:=hs x (by simp);rw [List.nodup_cons] at hn
  have h1:r.length≤(U.erase x).length:=DL hn.2 fun y hy=>by grind
  grind
theorem l4.len{rev:Int}{l:List dE}(h:l4 rev l):l.length≤10:=by
 have hn:(l.map fun y=>y.key).Nodup:=by
  unfold List.Nodup
  rw [List.pairwise_map]
  exact h.1.imp fun {a b} h e=>by grind [lK]
 have:=DL (U:=(List.range 10).map fun i:Nat=>(⟨30,itoa i⟩:Key)) hn fun k hk=>by
  obtain⟨y,hy,rfl⟩:=List.mem_map.1 hk;obtain⟨i,hi,he⟩:=(h.2.2 y hy).1
  grind
 simpa using this
theorem l4.k99{rev:Int}{l:List dE}(h:l4 rev l):∀y∈l,∃i:Nat,i≤99∧y.key=⟨30,itoa i⟩:=fun y hy=>by
 obtain⟨i,hi,he⟩:=(h.2.2 y hy).1;exact⟨i,by omega,he⟩
theorem HB{n:dE}{k:Key}(h:n.key≠k):∀(l:List dE) (b:Bool),(ji n l b).find? (fun x=>x.key == k)=l.find? fun x=>x.key == k
 | [],b=>by grind [ji]
 | x::xs,b=>by
  have hn:(n.key == k)=false:=by simpa using h
  unfold ji
  rw [List.find?_append,List.find?_append,HB h xs]
  have h1:(if (decide (0≤cE x.key n.key) && !b)=true then [n] else []).find? (fun x=>x.key == k)=none:=by grind
  rw [h1,Option.none_or]
  by_cases e:cE x.key n.key=0
  ·
   rw [if_pos e]
   grind [qb]
  grind
theorem DM{n:dE}{k:Key}(h:n.key≠k) (l:List dE):ek (ji n l false) k=ek l k:=by
 unfold ek
 rw [HB h]
theorem SI{n:dE}{l:List dE}{q:Nat}{b:Bool}(hq:q<l.length) {acc r:List dE}(h:acc++ji n (l.drop q) b=r):acc++(if decide (0≤cE l[q].key n.key) && !b then [n] else [])++(if cE l[q].key n.key=0 then [] else [l[q]])++ji n (l.drop (q+1)) (b || decide (0≤cE l[q].key n.key))=r:=by grind [List.drop_eq_getElem_cons,ji]
theorem SJ{n:dE}{l m acc:List dE}{b:Bool}(h:acc++ji n m b=ji n l false):acc.length≤l.length+1:=by
 have h1:=congrArg List.length h
 grind [rK]
end Go.Rc

namespace Go.Rc
open Go
def rM(ab:List aJ) (x:dV):Prop:=∀r∈x.ak,∃i:Nat,i<ab.length∧r=jQ ab x.ah x.ae i
def E8(y y':Rec) (f:Int):Prop:=
 (f=1∧∃v:ByteArray,v≠y.value∧(v.size:Int)≤1073741824∧y'={y with value:=v})∨(f=2∧y'={y with reads:=y.reads++[eL 9],cost:=y.cost+1})∨(f=5∧y'={y with cost:=y.cost+1})
theorem E8.key{y y':Rec}{f:Int}(h:E8 y y' f):y'.key=y.key∧y'.az=y.az:=by
 rcases h with⟨_,v,_,_,rfl⟩ | ⟨_,rfl⟩ | ⟨_,rfl⟩ <;> exact⟨rfl,rfl⟩
section
variable {ab:List aJ}{aH:List dE}{rev:Int}(hR:ay ab)
include hR
theorem x8{i:Nat}(hi:i<ab.length) (j:Nat):rL ab aH j (jQ ab aH rev i)=true:=by
 have h1:vq ab aH (jQ ab aH rev i)=true:=by unfold vq jQ;simp
 have h2:sR ab aH (jQ ab aH rev i)=true:=by grind [sR,jQ,iM]
 have h3:wZ (jQ ab aH rev i)=true:=by unfold wZ jQ;simp
 match j with
 | 0=>exact h1
 | 1=>exact h2
 | 2=>rfl
 | 3=>exact h1
 | j+4=>exact h3
theorem Cz{x:dV}(h:rM ab x):gZ ab x.ah x.ak 5=[]:=by
 have h1:∀j,x.ak.all (rL ab x.ah j)=true:=fun j=>List.all_eq_true.2 fun r hr=>by
  obtain⟨i,hi,rfl⟩:=h r hr;exact x8 hR hi j
 grind [gZ,List.filter_eq_nil_iff]
end
theorem x9{ab:List aJ}(hR:ay ab) {aH:List dE}{rev:Int}(h0:0≤rev) (h1:rev≤1073741824) {i:Nat}(hi:i<ab.length):Hy ab (jQ ab aH rev i):=by
 have pY:=hR.len;exact⟨.gN hi (by omega),dI hi (by omega),fun a ha=>(nA hR hi a ha).MT hR,E4 hR hi h0 h1⟩
theorem ya{ab:List aJ}(hR:ay ab) {x:dV}(hb:mB x) (hG:l4 x.ae x.ah) (h:rM ab x) (hs:qc x.ak):kT ab x:=by
 obtain⟨_,b2,b3,b4,b5,b6⟩:=hb;refine⟨b3,b4,⟨hG.1,hG.2.1⟩,hG.k99,b5,fun r hr=>?_,hs,b6.1,fun r hr=>?_⟩
 ·
  obtain⟨i,hi,rfl⟩:=h r hr;exact x9 hR b3 b4 hi
 obtain⟨i,hi,rfl⟩:=h r hr;exact Int.le_refl _
theorem Pv{ab:List aJ}{x:dV}(h:rM ab x):∀r∈x.ak,r.az=x.ae:=fun r hr=>by
 obtain⟨i,hi,rfl⟩:=h r hr
 rfl
theorem HC{ab:List aJ}(hR:ay ab) {aH:List dE}{rev:Int}(h0:0≤rev) (h1:rev≤1073741824) {i:Nat}(hi:i<ab.length) {y':Rec}{f:Int}(hw:E8 (jQ ab aH rev i) y' f):Hy ab y':=by
 obtain⟨g1,g2,g3,g4⟩:=x9 hR h0 h1 hi (aH:=aH)
 have h6:(dC ab aH i).length≤6:=by grind [nz,lZ]
 obtain⟨v1,v2,v3,v4,v5,v6,v7,v8,v9,v10,v11⟩:=(dY _).1 g4;have hc:(jQ ab aH rev i).cost=1+((dC ab aH i).length:Int):=rfl;have oE:(jQ ab aH rev i).reads=dC ab aH i:=rfl
 rcases hw with⟨_,v,_,hv,rfl⟩ | ⟨_,rfl⟩ | ⟨_,rfl⟩
 ·
  exact⟨g1,g2,g3,(dY _).2 ⟨v1,v2,v3,hv,v5,v6,v7,v8,v9,v10,v11⟩⟩
 ·
  refine⟨g1,g2,fun a ha=>?_,(dY _).2 ⟨fun a ha=>?_,v2,v3,v4,?_,v6,v7,v8,?_,?_,v11⟩⟩
  ·
   rcases List.mem_append.1 ha with ha | ha
   ·
    exact g3 a ha
   rw [List.mem_singleton.1 ha];exact .cell (n:=9) (by omega)
  ·
   rcases List.mem_append.1 ha with ha | ha
   ·
    exact v1 a ha
   rw [List.mem_singleton.1 ha];exact gS.valid (ab:=[]) (.cell (n:=9) (by omega))
  ·
   grind
  ·
   grind
  grind
 refine⟨g1,g2,g3,(dY _).2 ⟨v1,v2,v3,v4,v5,v6,v7,v8,?_,?_,v11⟩⟩
 ·
  grind
 grind
theorem LX:∀{l:List Rec}{j:Nat}{y':Rec}(_:qc l) (hj:j<l.length) (_:y'.key=l[j].key),qc (l.set j y')
 | [],_,_,_,hj,_=>by simp at hj
 | x::xs,0,y',hs,_,hk=>by
  obtain⟨h1,h2⟩:=List.pairwise_cons.1 hs;have hk:y'.key=x.key:=hk;exact List.pairwise_cons.2 ⟨fun r hr=>by rw [hk];exact h1 r hr,h2⟩
 | x::xs,j+1,y',hs,hj,hk=>by
  obtain⟨h1,h2⟩:=List.pairwise_cons.1 hs
  have hj':j<xs.length:=by simpa using hj
  have hk:y'.key=xs[j].key:=hk;refine List.pairwise_cons.2 ⟨fun r hr=>?_,LX h2 hj' hk⟩
  grind
theorem HD{ab:List aJ}(hR:ay ab) {x:dV}(hx:kT ab x) (h:rM ab x) {j:Nat}(hj:j<x.ak.length) {y':Rec}{f:Int}(hw:E8 x.ak[j] y' f):kT ab ⟨x.ae,x.ah,x.ak.set j y'⟩∧∀r∈x.ak.set j y',r.az=x.ae:=by
 obtain⟨i,hi,lL⟩:=h _ (List.getElem_mem hj);obtain⟨a1,a2,a3,a4,a5,a6,a7,a8,a9⟩:=hx;have hk:=hw.key
 have hv:∀r∈x.ak.set j y',r.az=x.ae:=fun r hr=>by grind [Pv]
 refine⟨⟨a1,a2,a3,a4,a5,fun r hr=>?_,LX a7 hj hk.1,by simpa using a8,fun r hr=>by rw [hv r hr];exact Int.le_refl _⟩,hv⟩
 grind [HC]
end Go.Rc

namespace Go.Rc
open Go
def Xp(L:List As) (Z:Nat→Prop) (w:World):Prop:=(List.Pairwise (fun(A B:As)=>∀x,A.fp x→¬B.fp x) L)∧∀A∈L,A.ok Z w
def As.many(L:List As):As where
 fp x:=∃A∈L,A.fp x
 ok:=Xp L
 lt h x hx:=by obtain⟨A,hA,hx⟩:=hx;exact A.lt (h.2 A hA) x hx
 mono hZ h:=⟨h.1,fun A hA=>A.mono hZ (h.2 A hA)⟩
 st hs hc h:=⟨h.1,fun A hA=>A.st hs (fun x hx=>hc x (hx.imp (fun hx=>⟨A,hA,hx⟩) id)) (h.2 A hA)⟩
section
variable {w0 w:World}{M Z:Nat→Prop}{A:As}{L l:List As}
theorem St.acw(h:St w0 M Z w l):St w0 M Z w (As.many []::l):=by
 refine⟨h.cX,h.mj,?_,?_,.cons ?_ h.wA,?_⟩
 ·
  intro B hB x hx
  rcases List.mem_cons.1 hB with rfl | hB
  ·
   obtain⟨A,hA,_⟩:=hx;cases hA
  exact h.pI B hB x hx
 ·
  intro B hB x hx
  rcases List.mem_cons.1 hB with rfl | hB
  ·
   obtain⟨A,hA,_⟩:=hx;cases hA
  exact h.rf B hB x hx
 ·
  intro B _ x hx;obtain⟨A,hA,_⟩:=hx;cases hA
 intro B hB
 rcases List.mem_cons.1 hB with rfl | hB
 ·
  exact⟨.nil,fun A hA=>by cases hA⟩
 exact h.ok B hB
theorem St.Xq(h:St w0 M Z w (A::As.many L::l)):St w0 M Z w (As.many (A::L)::l):=by
 obtain⟨d1,d2⟩:=List.pairwise_cons.1 h.wA;obtain⟨d3,d4⟩:=List.pairwise_cons.1 d2;have hm:(As.many L).ok Z w:=h.ok _ (by simp);refine⟨h.cX,h.mj,?_,?_,.cons ?_ d4,?_⟩
 ·
  intro B hB x hx
  rcases List.mem_cons.1 hB with rfl | hB
  ·
   obtain⟨C,hC,hx⟩:=hx
   rcases List.mem_cons.1 hC with rfl | hC
   ·
    exact h.pI C (by simp) x hx
   exact h.pI (As.many L) (by simp) x ⟨C,hC,hx⟩
  exact h.pI B (by simp [hB]) x hx
 ·
  intro B hB x hx
  rcases List.mem_cons.1 hB with rfl | hB
  ·
   obtain⟨C,hC,hx⟩:=hx
   rcases List.mem_cons.1 hC with rfl | hC
   ·
    exact h.rf C (by simp) x hx
   exact h.rf (As.many L) (by simp) x ⟨C,hC,hx⟩
  exact h.rf B (by simp [hB]) x hx
 ·
  intro B hB x hx;obtain⟨C,hC,hx⟩:=hx
  rcases List.mem_cons.1 hC with rfl | hC
  ·
   exact d1 B (by simp [hB]) x hx
  exact d3 B hB x ⟨C,hC,hx⟩
 intro B hB
 rcases List.mem_cons.1 hB with rfl | hB
 ·
  refine⟨.cons (fun C hC x hx tv=>d1 (As.many L) (by simp) x hx ⟨C,hC,tv⟩) hm.1,fun C hC=>?_⟩
  rcases List.mem_cons.1 hC with rfl | hC
  ·
   exact h.ok C (by simp)
  exact hm.2 C hC
 exact h.ok B (by simp [hB])
theorem St.SK(h:St w0 M Z w (As.many (A::L)::l)):St w0 M Z w (A::As.many L::l):=by
 obtain⟨d1,d2⟩:=List.pairwise_cons.1 h.wA;have hm:(As.many (A::L)).ok Z w:=h.ok _ (by simp);obtain⟨d3,d4⟩:=List.pairwise_cons.1 hm.1;refine⟨h.cX,h.mj,?_,?_,.cons ?_ (.cons ?_ d2),?_⟩
 ·
  intro B hB x hx
  rcases List.mem_cons.1 hB with rfl | hB
  ·
   exact h.pI _ M0 x ⟨B,.head _,hx⟩
  rcases List.mem_cons.1 hB with rfl | hB
  ·
   obtain⟨C,hC,hx⟩:=hx;exact h.pI _ M0 x ⟨C,.tail _ hC,hx⟩
  exact h.pI B (.tail _ hB) x hx
 ·
  intro B hB x hx
  rcases List.mem_cons.1 hB with rfl | hB
  ·
   exact h.rf _ M0 x ⟨B,.head _,hx⟩
  rcases List.mem_cons.1 hB with rfl | hB
  ·
   obtain⟨C,hC,hx⟩:=hx;exact h.rf _ M0 x ⟨C,.tail _ hC,hx⟩
  exact h.rf B (.tail _ hB) x hx
 ·
  intro B hB x hx tv
  rcases List.mem_cons.1 hB with rfl | hB
  ·
   obtain⟨C,hC,tv⟩:=tv;exact d3 C hC x hx tv
  exact d1 B hB x ⟨A,.head _,hx⟩ tv
 ·
  intro B hB x hx;obtain⟨C,hC,hx⟩:=hx;exact d1 B hB x ⟨C,.tail _ hC,hx⟩
 intro B hB
 rcases List.mem_cons.1 hB with rfl | hB
 ·
  exact hm.2 B M0
 rcases List.mem_cons.1 hB with rfl | hB
 ·
  exact⟨d4,fun C hC=>hm.2 C (.tail _ hC)⟩
 exact h.ok B (.tail _ hB)
theorem St.acx{L':List As}(hp:L.Perm L') (h:St w0 M Z w (As.many L::l)):St w0 M Z w (As.many L'::l):=by
 obtain⟨d1,d2⟩:=List.pairwise_cons.1 h.wA;have hm:(As.many L).ok Z w:=h.ok _ (by simp);have fe:∀x,(As.many L').fp x→(As.many L).fp x:=fun x ⟨C,hC,hx⟩=>⟨C,hp.mem_iff.2 hC,hx⟩;refine⟨h.cX,h.mj,?_,?_,.cons (fun B hB x hx=>d1 B hB x (fe x hx)) d2,?_⟩
 ·
  intro B hB x hx
  rcases List.mem_cons.1 hB with rfl | hB
  ·
   exact h.pI _ M0 x (fe x hx)
  exact h.pI B (.tail _ hB) x hx
 ·
  intro B hB x hx
  rcases List.mem_cons.1 hB with rfl | hB
  ·
   exact h.rf _ M0 x (fe x hx)
  exact h.rf B (.tail _ hB) x hx
 intro B hB
 rcases List.mem_cons.1 hB with rfl | hB
 ·
  exact⟨hm.1.perm hp (fun h x hx tv=>h x tv hx),fun C hC=>hm.2 C (hp.mem_iff.2 hC)⟩
 exact h.ok B (.tail _ hB)
end
structure RE where
 key:Key
 a:Option Addr
 n:Nat
 c:Nat
 reads:List Key
def RE.as(EK:Nat) (e:RE):As:=As.os RR.key EK 2 e.a e.n e.c e.reads
end Go.Rc

namespace Go.Rc
open Go
section
variable {ab:List aJ}{aH:List dE}{val:Key→ByteArray}
theorem Ax{f g:Nat}(h:f≤g):∀{l:List Key}{s s':ES},eU ab val f s l=some s'→eU ab val g s l=some s'
 | [],s,s',hu=>hu
 | k::r,s,s',hu=>by
  simp only [eU] at hu ⊢;obtain⟨t,h1,h2⟩:=Option.bind_eq_some_iff.1 hu;rw [sP h h1];exact Ax h h2
theorem Ay(hR:ay ab):∀(l:List Key) (s:ES),Good ab aH s→(∀k∈l,gS ab k)→∃f s',eU ab val f s l=some s'
 | [],s,_,_=>⟨0,s,rfl⟩
 | k::r,s,hg,hk=>by
  obtain⟨f,t,h1⟩:=SB (val:=val) hR _ s k hg (hk k (by simp)) (Nat.le_refl _);have h2:=(dr (val:=val) hR f).1 _ _ _ h1 hg (hk k (by simp))
  obtain⟨g,s',h3⟩:=Ay hR r t h2.1 fun k Jz=>hk k (by simp [Jz])
  refine⟨max f g,s',?_⟩
  grind [eU,sP,Ax,Nat.le_max_right]
theorem DN(hR:ay ab) {f:Nat}:∀{l:List Key}{s s':ES},eU ab val f s l=some s'→Good ab aH s→(∀k∈l,gS ab k)→s'.bU.length+jh ab s'≤s.bU.length+jh ab s
 | [],s,s',h,_,_=>by simp only [eU,Option.some.injEq] at h;subst h;exact Nat.le_refl _
 | k::r,s,s',h,hg,hk=>by
  simp only [eU] at h;obtain⟨t,h1,h2⟩:=Option.bind_eq_some_iff.1 h;have h3:=(dr (val:=val) hR f).1 _ _ _ h1 hg (hk k (by simp));have h4:=(ko (val:=val) hR f).1 _ _ _ h1 hg (hk k (by simp))
  have h5:=DN hR h2 h3.1 fun k Jz=>hk k (by simp [Jz])
  exact Nat.le_trans h5 h4.2.2
end
theorem Ni{ab:List aJ}(hR:ay ab) {i:Nat}(hi:i<ab.length):jP ab (aQ ab (i:Int))=true:=by
 have pY:=hR.len
 unfold jP
 rw [gS.valid (ab:=ab) (.gN hi (by omega)),dK hi (by omega)]
 simp
theorem Xr:mB ⟨0,[],[]⟩:=⟨fun i y h=>by simp at h,fun i r h=>by simp at h,by decide,by decide,by decide,⟨by decide,fun i x h=>by simp at h⟩⟩
theorem l4.mB{rev:Int}{aH:List dE}(h:l4 rev aH) (h0:0≤rev) (h1:rev≤1073741824) (h6:aH.length≤64):mB ⟨rev,aH,[]⟩:=
 ⟨J1.2 ⟨h.1,h.2.1⟩,fun i r h=>by simp at h,h0,h1,h6,⟨Nat.zero_le _,fun i x h=>by simp at h⟩⟩
end Go.Rc

namespace Go.Rc
open Go
def DO(x:Rec):Int:=16+x.key.text.size+x.value.size+8*x.reads.length
def nB(l:List Rec):Int:=(l.map DO).sum
def Nj(x:Rec):Prop:=x.key.text.size≤1000∧x.value.size≤1073741824∧x.reads.length≤4000
theorem Nj.size{x:Rec}(h:Nj x):0≤DO x∧DO x≤1100000000:=by
 unfold DO
 obtain⟨a,b,c⟩:=h
 omega
theorem HE{l:List Rec}{i:Nat}(hi:i<l.length):nB (l.take (i+1))=nB (l.take i)+DO l[i]:=by grind [nB,List.take_succ_eq_append_getElem]
theorem DR:∀{l:List Rec},(∀x∈l,Nj x)→0≤nB l∧nB l≤1100000000*l.length
 | [],_=>by simp [nB]
 | x::r,h=>by
  have h1:=(h x (by simp)).size
  have h2:=DR (l:=r) fun y hy=>h y (by simp [hy])
  grind [nB]
theorem HF{c s:Int}(hc:0≤c∧c≤1073741824) (hs:0≤s∧s≤1100000000):-9223372036854775808≤c*s∧c*s≤9223372036854775807:=by
 have h1:=Int.mul_nonneg hc.1 hs.1;have h2:=Int.mul_le_mul hc.2 hs.2 hs.1 (by decide:(0:Int)≤1073741824)
 omega
theorem Pw{α:Type}{out m:List α}{x:α}(p:Nat) (h:out.Perm m):(([]++out.take p)++[x]++out.drop p).Perm (m++[x]):=by
 have h1:(out.take p++[x]++out.drop p).Perm (out++[x]):=by grind [List.perm_append_comm,List.take_append_drop]
 rw [List.nil_append];exact h1.trans (h.append_right _)
theorem DS(l:List Rec) (k:Key):(jK l k).Sublist l:=List.filter_sublist
def As.rgo(c:Prop) (b o:Nat) (r:List Value):As where
 fp _:=False
 ok Z w:=c→(As.rg b o r).ok Z w
 lt _ _ hx:=hx.elim
 mono hZ h:=fun h0=>(As.rg b o r).mono hZ (h h0)
 st hs hc h:=fun h0=>(As.rg b o r).st hs hc (h h0)
theorem As.gro{c:Prop}{b o:Nat}{r:List Value}{Z:Nat→Prop}{w:World}(hc:c) (h:(As.rgo c b o r).ok Z w):w.rangeAt b o r:=(h hc).2.2
theorem Rd.opt{α:Type}{R:RR α}{k n c:Nat}{Z:Nat→Prop}{w:World}{a:Option Addr}{xs:List α}(h:Rd R k Z w a n c xs) (hz:∀b,Z b→b<w.heap.size) (p:Nat):∃b o r,(∀hp:p<xs.length,a=some ⟨b,o,none⟩∧r.length=k∧R.r Z w xs[p] r)∧(As.rgo (p<xs.length) b (o+p*k) r).ok Z w:=by
 by_cases hp:p<xs.length
 ·
  obtain⟨b,o,r,h1,h2,h3,h4,h5⟩:=Rd.at h hp;exact⟨b,o,r,fun _=>⟨h1,h2,h3⟩,fun _=>⟨h5,hz b h5,h4⟩⟩
 exact⟨0,0,[],fun hp'=>absurd hp' hp,fun hp'=>absurd hp' hp⟩
theorem eH.one(x:eH) (a1:Option Addr) (n1 c1:Nat) (a2:Option Addr) (n2 c2:Nat):∀u∈x.row a1 n1 c1 a2 n2 c2,u.oneCell'=true:=by simp [eH.row,Value.oneCell']
end Go.Rc

namespace Go.Rc
open Go
structure xa where
 ab:List aJ
 base:dV
 goals:List Key
 stack:List eH
 bU:List Key
structure Nk where
 u:Option Addr
 nu:Nat
 cu:Nat
 i:Option Addr
 ni:Nat
 ci:Nat
 r:Option Addr
 nr:Nat
 cr:Nat
 g:Option Addr
 ng:Nat
 cg:Nat
 f:Option Addr
 nf:Nat
 cf:Nat
 p:Option Addr
 np:Nat
 cp:Nat
def xa.row(t:xa) (A:Nk):List Value:=[.slice A.u A.nu A.cu,.int .i64 t.base.ae,.slice A.i A.ni A.ci,.slice A.r A.nr A.cr,.slice A.g A.ng A.cg,.slice A.f A.nf A.cf,.slice A.p A.np A.cp]
structure xa.In (t:xa) (A:Nk) (Z:Nat→Prop) (w:World):Prop where
 u:Rd RR.gN 4 Z w A.u A.nu A.cu t.ab
 i:Rd RR.aH 4 Z w A.i A.ni A.ci t.base.ah
 r:Rd RR.fl 8 Z w A.r A.nr A.cr t.base.ak
 g:Rd RR.key 2 Z w A.g A.ng A.cg t.goals
 f:Rd RR.qU 6 Z w A.f A.nf A.cf t.stack
 p:Rd RR.key 2 Z w A.p A.np A.cp t.bU
structure xa.In5 (t:xa) (A:Nk) (Z:Nat→Prop) (w:World):Prop where
 u:Rd RR.gN 4 Z w A.u A.nu A.cu t.ab
 i:Rd RR.aH 4 Z w A.i A.ni A.ci t.base.ah
 r:Rd RR.fl 8 Z w A.r A.nr A.cr t.base.ak
 g:Rd RR.key 2 Z w A.g A.ng A.cg t.goals
 f:Rd RR.qU 6 Z w A.f A.nf A.cf t.stack
structure xa.Sz (t:xa):Prop where
 u:t.ab.length≤1000000
 a:∀x∈t.ab,x.asks.length≤1000
 i:t.base.ah.length≤1000000
 r:t.base.ak.length≤1000000
 f:t.stack.length≤1000000
 g:t.goals.length≤1000000
 p:t.bU.length≤1000000
end Go.Rc

namespace Go.Rc
open Go
structure rO where
 a:Option Addr
 n:Nat
 c:Nat
 a2:Option Addr
 n2:Nat
 c2:Nat
def eH.E9(x:eH × rO):List Value:=x.1.row x.2.a x.2.n x.2.c x.2.a2 x.2.n2 x.2.c2
def RR.Fa:RR (eH × rO):=RR.flat eH.E9
theorem Az{α:Type}{l:List α}{a:α}(h:l.getLast?=some a):l.dropLast++[a]=l:=by
 rcases List.eq_nil_or_concat l with rfl | ⟨m,b,rfl⟩
 ·
  cases h
 simp at h
 subst h
 simp
def eV(L:List (eH × rO)):FZ:=
 ⟨fun Z w=>∀y∈L,Rd RR.key 2 Z w y.2.a y.2.n y.2.c y.1.reads∧Rd RR.str 1 Z w y.2.a2 y.2.n2 y.2.c2 y.1.ao,fun hZ h y hy=>⟨(h y hy).1.mono hZ,(h y hy).2.mono hZ⟩,fun h1 h2 h y hy=>⟨(h y hy).1.st h1 h2,(h y hy).2.st h1 h2⟩⟩
theorem eV.last{L:List (eH × rO)}{Z:Nat→Prop}{w:World}{a a2:Option Addr}{n c n2 c2:Nat}{pl:List Key}{ql:List ByteArray}(h:(eV L.dropLast).p Z w) (hl:L=[]∨∃f,L.getLast?=some (f,⟨a,n,c,a2,n2,c2⟩)∧pl=f.reads∧ql=f.ao) (hk:Rd RR.key 2 Z w a n c pl) (hy:Rd RR.str 1 Z w a2 n2 c2 ql):(eV L).p Z w:=fun y hm=>by
 rcases hl with rfl | ⟨f,h1,rfl,rfl⟩
 ·
  cases hm
 have e:=Az h1;rw [← e] at hm
 rcases List.mem_append.1 hm with hm | hm
 ·
  exact h y hm
 grind
theorem eV.nil(Z:Nat→Prop) (w:World):(eV ([]:List (eH × rO)).dropLast).p Z w:=fun y hy=>by cases hy
theorem eV.qU{L:List (eH × rO)}{E n c:Nat}{a:Option Addr}{Z:Nat→Prop}{w:World}(h:Ow RR.Fa E 6 Z w a n c L) (hf:(eV L).p Z w) (h4:∀y∈L,y.1.reads.length≤4000∧y.1.ao.length≤4000):Ow RR.qU E 6 Z w a n c (L.map Prod.fst):=by
 obtain⟨hn,rows,hl,hk,h1,hx⟩:=h;refine⟨by rw [hn,List.length_map],rows,by rw [hl,List.length_map],hk,h1,fun i x r h2 h3=>?_⟩;rw [List.getElem?_map] at h2;obtain⟨y,hy,rfl⟩:=Option.map_eq_some_iff.1 h2;have hm:=List.mem_of_getElem? hy;have hr:r=eH.E9 y:=hx i y r hy h3;obtain⟨h5,h6⟩:=h4 y hm;obtain⟨h7,h8⟩:=hf y hm;exact⟨_,_,_,_,_,_,hr,h7,h8,h5,h6⟩
end Go.Rc

