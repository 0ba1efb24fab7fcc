/- Base of the proof: frames, memory, ownership, and the plain meaning of rule systems. Conditions: as each lemma says. -/
import Derived.Test.YthljjmhdkbeghaaGreatDoorIBa
import Derived.Laws.StructEq
import Derived.Laws.OwnMore
import Derived.MapKept
import Derived.Maps.RangeRun
import Derived.Laws.Slices
import Derived.Lib.LaidTab
import Derived.Lib.ItoaNum
import Derived.Lib.ItoaMem
set_option linter.unusedVariables false
set_option linter.unusedSimpArgs false
set_option linter.unusedSectionVars false
namespace Go.Rc
open Go
def dropN:Nat→KV→KV
 | 0,kv=>kv
 | _+1,[]=>[]
 | k+1,_::r=>dropN k r
def hasKey (t:Nat):KV→Bool
 | []=>false
 | (s,_)::r=>match Nat.beq s t with
  | true=>true
  | false=>hasKey t r
def disjN:Nat→KV→KV→Bool
 | 0,_,_=>true
 | _+1,[],_=>true
 | k+1,(t,_)::r,kv=>match hasKey t kv with
  | true=>false
  | false=>disjN k r kv
theorem hasKey_false {t:Nat}:∀{kv:KV},hasKey t kv=false→look kv t=none:=by
 intro kv
 induction kv with
 | nil=>intro _;rfl
 | cons p r ih=>
  obtain ⟨s,v⟩:=p;intro h;simp only [hasKey] at h
  cases hb:Nat.beq s t with
  | true=>rw [hb] at h;cases h
  | false=>rw [hb] at h;simp only [look,hb];exact ih h
theorem look_drop {t:Nat} {v:Value}:∀(k:Nat) (kvl kv:KV),dropN k kvl=kv→disjN k kvl kv=true→look kv t=some v→look kvl t=some v:=by
 intro k
 induction k with
 | zero=>intro kvl kv h _ hl;simp only [dropN] at h;rw [h];exact hl
 | succ k ih=>
  intro kvl kv h hd hl
  cases kvl with
  | nil=>simp only [dropN] at h;rw [← h] at hl;simp [look] at hl
  | cons p r=>
   obtain ⟨s,u⟩:=p;simp only [dropN] at h;simp only [disjN] at hd
   cases hk:hasKey s kv with
   | true=>rw [hk] at hd;cases hd
   | false=>
    rw [hk] at hd
    have hst:Nat.beq s t=false:=by
     cases hb:Nat.beq s t with
     | false=>rfl
     | true=>
      have:s=t:=Nat.eq_of_beq_eq_true hb
      rw [this] at hk;rw [hasKey_false hk] at hl
      cases hl
    simp only [look,hst];exact ih r kv h hd hl
theorem look_dropE {t:Nat} {v:Value}:∀(k:Nat) (kvl kv:KV) {kve:KV},dropN k kvl=kv→disjN k kvl kve=true→(∀s u,look kve s=some u→look kv s=some u)→look kve t=some v→look kvl t=some v:=by
 intro k
 induction k with
 | zero=>intro kvl kv kve h _ he hl;simp only [dropN] at h;rw [h];exact he _ _ hl
 | succ k ih=>
  intro kvl kv kve h hd he hl
  cases kvl with
  | nil=>simp only [dropN] at h;have:=he _ _ hl;rw [← h] at this;simp [look] at this
  | cons p r=>
   obtain ⟨s,u⟩:=p;simp only [dropN] at h;simp only [disjN] at hd
   cases hk:hasKey s kve with
   | true=>rw [hk] at hd;cases hd
   | false=>
    rw [hk] at hd
    have hst:Nat.beq s t=false:=by
     cases hb:Nat.beq s t with
     | false=>rfl
     | true=>
      have:s=t:=Nat.eq_of_beq_eq_true hb
      rw [this] at hk;rw [hasKey_false hk] at hl
      cases hl
    simp only [look,hst];exact ih r kv h hd he hl
def eraseK (t:Nat):KV→KV
 | []=>[]
 | (s,v)::r=>match Nat.beq s t with
  | true=>eraseK t r
  | false=>(s,v)::eraseK t r
theorem look_eraseT {t:Nat}:∀{kv:KV},look (eraseK t kv) t=none:=by
 intro kv
 induction kv with
 | nil=>rfl
 | cons p r ih=>
  obtain ⟨s,v⟩:=p;simp only [eraseK]
  cases hb:Nat.beq s t with
  | true=>exact ih
  | false=>simp only [look,hb];exact ih
theorem look_erase {t s:Nat} {u:Value}:∀{kv:KV},look (eraseK t kv) s=some u→look kv s=some u:=by
 intro kv
 induction kv with
 | nil=>intro h;cases h
 | cons p r ih=>
  obtain ⟨q,v⟩:=p;intro h;simp only [eraseK] at h
  cases hb:Nat.beq q t with
  | true=>
   rw [hb] at h;have hqt:q=t:=Nat.eq_of_beq_eq_true hb;simp only [look]
   cases hs:Nat.beq q s with
   | true=>
    have:q=s:=Nat.eq_of_beq_eq_true hs
    rw [← this,hqt,look_eraseT] at h;cases h
   | false=>exact ih h
  | false=>
   rw [hb] at h;simp only [look] at h ⊢
   cases hs:Nat.beq q s with
   | true=>rw [hs] at h;exact h
   | false=>rw [hs] at h;exact ih h
theorem Fr.drop {n:Nat} {a:Act} {kvl kv:KV} (h:Fr n a kvl) (k:Nat) (hd:dropN k kvl=kv) (hj:disjN k kvl kv=true):Fr n a kv:=
 ⟨h.size,h.nod,fun t v hl=>h.val t v (look_drop k kvl kv hd hj hl)⟩
theorem Fr.add {n:Nat} {a:Act} {kv:KV} (h:Fr n a kv) {t:Nat} {v:Value} (hv:a.tmps.getD t undef=v):Fr n a ((t,v)::kv):=
 ⟨h.size,h.nod,fun s u hl=>by
  simp only [look] at hl
  cases hb:Nat.beq t s with
  | true=>rw [hb] at hl;simp at hl;rw [← hl,← Nat.eq_of_beq_eq_true hb];exact hv
  | false=>rw [hb] at hl;exact h.val s u hl⟩
theorem Sub.nil {kv:KV}:Sub kv []:=trivial
theorem Sub.cons {kv r:KV} {t:Nat} {v:Value} (h:Rc.look kv t=some v) (hr:Sub kv r):Sub kv ((t,v)::r):=⟨h,hr⟩
theorem Sub.consI {kv r:KV} {t:Nat} {k:IntKind} {z z':Int} (h:Rc.look kv t=some (.int k z)) (hz:z=z') (hr:Sub kv r):Sub kv ((t,.int k z')::r):=⟨by rw [h,hz],hr⟩
theorem Sub.consV {kv r:KV} {t:Nat} {v v':Value} (h:Rc.look kv t=some v) (hz:v=v') (hr:Sub kv r):Sub kv ((t,v')::r):=⟨by rw [h,hz],hr⟩
section
variable {P:Program} {ops:Array Oper} {Q:Exit→Act→World→Prop} {n:Nat} {kv:KV} {w:World}
def Post1 (n t:Nat) (v:Value) (kv:KV) (J:World→Prop):Exit→Act→World→Prop:=fun e a w'=>e=.normal∧Fr n a ((t,v)::kv)∧J w'
theorem WC.cut1 {c:Code} {t:Nat} {v:Value} (J:World→Prop) (h:WC P c (Post1 n t v kv J) n kv w) (hJ:∀w',J w'→EX Q .normal n ((t,v)::kv) w'):WC P c Q n kv w:=
 fun a hF=>wp_mono (h a hF) fun e a' w' ⟨he,hF',hj⟩=>by subst he;exact hJ w' hj a' hF'
theorem EX.meet1 {kvl:KV} {t:Nat} {v v':Value} {J:World→Prop} (k:Nat) (hd:dropN k kvl=kv) (hj:disjN k kvl kv=true) (hv:look kvl t=some v') (he:v'=v) (hJ:J w) :
  EX (Post1 n t v kv J) .normal n kvl w:=fun _ hF=>⟨rfl,(hF.drop k hd hj).add (by rw [← he];exact hF.val t v' hv),hJ⟩
theorem WC.cut1e {c:Code} {t:Nat} {v:Value} (J:World→Prop) (h:WC P c (Post1 n t v (eraseK t kv) J) n kv w) (hJ:∀w',J w'→EX Q .normal n ((t,v)::eraseK t kv) w'):WC P c Q n kv w:=
 fun a hF=>wp_mono (h a hF) fun e a' w' ⟨he,hF',hj⟩=>by subst he;exact hJ w' hj a' hF'
theorem EX.meet1e {kvl:KV} {t:Nat} {v v':Value} {J:World→Prop} (k:Nat) (hd:dropN k kvl=kv) (hj:disjN k kvl (eraseK t kv)=true) (hv:look kvl t=some v') (he:v'=v) (hJ:J w) :
  EX (Post1 n t v (eraseK t kv) J) .normal n kvl w:=fun a hF=>⟨rfl,Fr.add ⟨hF.size,hF.nod,fun s u hl=>hF.val s u (look_dropE k kvl kv hd hj (fun s u h=>look_erase h) hl)⟩ (by rw [← he];exact hF.val t v' hv),hJ⟩
theorem WL.gsplit {l:List Oper} {t:Nat} {b:Bool} (ht:look kv t=some (.bool b)) (hT:b=true→WL P ops Q l n ((t,.bool true)::kv) w) (hF:b=false→WL P ops Q l n ((t,.bool false)::kv) w) :
  WL P ops Q l n kv w:=fun a hF'=>by
 cases b
 ·
  exact hF rfl a (hF'.add (hF'.val t _ ht))
 exact hT rfl a (hF'.add (hF'.val t _ ht))
def Like (kv kv':KV):Prop:=∀t,look kv t=look kv' t
theorem Like.upd {kv kv':KV} (h:Like kv kv') (d:Option Tmp) (v:Value):Like (upd kv d v) (upd kv' d v):=by
 intro t
 cases d with
 | none=>exact h t
 | some d=>simp only [Rc.upd,look];cases Nat.beq d t <;> simp [h t]
theorem Like.ev {kv kv':KV} (h:Like kv kv') (x:Operand):ev kv x=ev kv' x:=by cases x <;> simp [Rc.ev,h _]
theorem Like.lkO {kv kv':KV} (h:Like kv kv'):lkO kv=lkO kv':=funext fun x=>by simp [Rc.lkO,h.ev x]
theorem Like.known {kv kv':KV} (h:Like kv kv') (op:Op):known kv op=known kv' op:=by simp [Rc.known,h.ev]
theorem Like.gd {kv kv':KV} (h:Like kv kv') (ops:Array Oper) (o:Oper):gd ops kv o=gd ops kv' o:=by
 unfold Rc.gd
 cases o.guard with
 | none=>rfl
 | some g=>
  simp only
  cases (ops[g.1]?).bind (·.dst) with
  | none=>rfl
  | some t=>simp [h t]
theorem DW.like {n:Nat} {C:World→Prop} {T:Nat→World→World→Prop} {E:Nat→Option (Value→World→Prop)} {Fin:KV→World→Prop} (hFin:∀kv kv' w,Like kv kv'→Fin kv w→Fin kv' w) :
  ∀(l:List Oper) (i:Nat) (kv kv':KV) (F:Facts),Like kv kv'→DW P ops n C T E Fin i l kv F→DW P ops n C T E Fin i l kv' F:=by
 intro l
 induction l with
 | nil=>intro i kv kv' F h hd w hC hF;exact hFin _ _ _ h (hd w hC hF)
 | cons o r ih=>
  intro i kv kv' F h hd;obtain ⟨h1,h2,h3⟩:=hd;refine ⟨h1,h2,?_⟩;rw [← h.gd,← h.known,← h.lkO]
  rcases h3 with ⟨a,b⟩ | ⟨a,b,c,e,d,f⟩ | ⟨a,b,S,c,d,f⟩
  ·
   exact .inl ⟨a,ih _ _ _ _ (h.upd _ _) b⟩
  ·
   exact .inr (.inl ⟨a,b,c,e,d,ih _ _ _ _ (h.upd _ _) f⟩)
  exact .inr (.inr ⟨a,b,S,c,d,fun v w hC hS=>ih _ _ _ _ (h.upd _ _) (f v w hC hS)⟩)
theorem Like.fr {a:Act} {kv kv':KV} (h:Like kv kv') (hF:Fr n a kv'):Fr n a kv:=⟨hF.size,hF.nod,fun t v hv=>hF.val t v (by rw [← h t];exact hv)⟩
theorem DW.gsplit {m i:Nat} {C:World→Prop} {T:Nat→World→World→Prop} {E:Nat→Option (Value→World→Prop)} {ops':Array Oper} {l l':List Oper} {F:Facts} {t:Nat} {b:Bool}
  (ht:look kv t=some (.bool b)) (hT:b=true→DW P ops m C T E (fun kv w=>WL P ops' Q l' n kv w) i l ((t,.bool true)::kv) F)
  (hF:b=false→DW P ops m C T E (fun kv w=>WL P ops' Q l' n kv w) i l ((t,.bool false)::kv) F):DW P ops m C T E (fun kv w=>WL P ops' Q l' n kv w) i l kv F:=by
 have key:∀c:Bool,look kv t=some (.bool c)→Like ((t,.bool c)::kv) kv:=fun c hc s=>by
  simp only [look]
  cases hb:Nat.beq t s with
  | true=>rw [← Nat.eq_of_beq_eq_true hb];exact hc.symm
  | false=>rfl
 have hFin:∀(kv kv':KV) (w:World),Like kv kv'→WL P ops' Q l' n kv w→WL P ops' Q l' n kv' w:=fun _ _ _ h hw a hF=>hw a (h.fr hF)
 cases b
 ·
  exact DW.like hFin _ _ _ _ _ (key false ht) (hF rfl)
 exact DW.like hFin _ _ _ _ _ (key true ht) (hT rfl)
theorem lookE_spec:∀{l:List (Nat × (Value→World→Prop))} {i S},lookE l i=some S→∃p∈l,p.2=S:=by
 intro l
 induction l with
 | nil=>intro i S h;simp [lookE] at h
 | cons p r ih=>
  obtain ⟨j,R⟩:=p;intro i S h;simp only [lookE] at h
  cases hb:Nat.beq j i with
  | true=>rw [hb] at h;simp at h;exact ⟨(j,R),by simp,h⟩
  | false=>rw [hb] at h;obtain ⟨p,hp,hS⟩:=ih h;exact ⟨p,by simp [hp],hS⟩
def StE (C:World→Prop) (T:Nat→World→World→Prop):List (Nat × (Value→World→Prop))→Prop
 | []=>True
 | (_,S)::r=>(∀j v w w',C w→C w'→T j w w'→S v w→S v w')∧StE C T r
theorem lookE_st {C:World→Prop} {T:Nat→World→World→Prop} {l:List (Nat × (Value→World→Prop))} {ops:Array Oper} (h:StE C T l) :
  ∀i S,lookE l i=some S→∀j S',lookE l j=some S'→j≠i→j∉depsAt ops i→∀v w w',C w→C w'→T j w w'→S v w→S v w':=by
 intro i S hi j S' hj _ _;obtain ⟨p,hp,hS⟩:=lookE_spec hi
 clear hi hj
 induction l with
 | nil=>cases hp
 | cons q r ih=>
  rcases List.mem_cons.1 hp with rfl | hp
  ·
   subst hS;exact h.1 j
  exact ih h.2 hp
def StP (C:World→Prop) (T:Nat→World→World→Prop) (ops:Array Oper) (i:Nat) (S:Value→World→Prop):List (Nat × (Value→World→Prop))→Prop
 | []=>True
 | (j,_)::r=>(match Nat.beq j i || elemN j (depsAt ops i) with
  | true=>True
  | false=>∀v w w',C w→C w'→T j w w'→S v w→S v w')∧StP C T ops i S r
def StQ (C:World→Prop) (T:Nat→World→World→Prop) (ops:Array Oper) (all:List (Nat × (Value→World→Prop))):List (Nat × (Value→World→Prop))→Prop
 | []=>True
 | (i,S)::r=>StP C T ops i S all∧StQ C T ops all r
theorem lookE_memj:∀{l:List (Nat × (Value→World→Prop))} {i S},lookE l i=some S→(i,S)∈l:=by
 intro l
 induction l with
 | nil=>intro i S h;cases h
 | cons q r ih=>
  obtain ⟨j,S'⟩:=q;intro i S h;simp only [lookE] at h
  cases hb:Nat.beq j i with
  | true=>rw [hb] at h;simp at h;have:=Nat.eq_of_beq_eq_true hb;subst this;subst h;simp
  | false=>rw [hb] at h;exact List.mem_cons_of_mem _ (ih h)
theorem StP_spec {C:World→Prop} {T:Nat→World→World→Prop} {ops:Array Oper} {i:Nat} {S:Value→World→Prop}:∀{l:List (Nat × (Value→World→Prop))},StP C T ops i S l→
  ∀j S',(j,S')∈l→j≠i→j∉depsAt ops i→∀v w w',C w→C w'→T j w w'→S v w→S v w':=by
 intro l
 induction l with
 | nil=>intro _ j S' h;cases h
 | cons q r ih=>
  obtain ⟨j',S''⟩:=q;intro h j S' hm hne hnd
  rcases List.mem_cons.1 hm with e | hm
  ·
   simp at e
   obtain ⟨rfl,_⟩:=e;have h1:=h.1
   have e1:Nat.beq j i=false:=by cases hb:Nat.beq j i with | false=>rfl | true=>exact absurd (Nat.eq_of_beq_eq_true hb) hne
   have e2:elemN j (depsAt ops i)=false:=by cases hb:elemN j (depsAt ops i) with | false=>rfl | true=>exact absurd (elemN_iff.1 hb) hnd
   rw [e1,e2] at h1;exact h1
  exact ih h.2 j S' hm hne hnd
theorem StQ_spec {C:World→Prop} {T:Nat→World→World→Prop} {ops:Array Oper} {all:List (Nat × (Value→World→Prop))}:∀{l:List (Nat × (Value→World→Prop))},StQ C T ops all l→
  ∀i S,(i,S)∈l→StP C T ops i S all:=by
 intro l
 induction l with
 | nil=>intro _ i S h;cases h
 | cons q r ih=>
  obtain ⟨i',S''⟩:=q;intro h i S hm
  rcases List.mem_cons.1 hm with e | hm
  ·
   simp at e;obtain ⟨rfl,rfl⟩:=e;exact h.1
  exact ih h.2 i S hm
theorem lookE_stP {C:World→Prop} {T:Nat→World→World→Prop} {l:List (Nat × (Value→World→Prop))} {ops:Array Oper} (h:StQ C T ops l l) :
  ∀i S,lookE l i=some S→∀j S',lookE l j=some S'→j≠i→j∉depsAt ops i→∀v w w',C w→C w'→T j w w'→S v w→S v w':=
 fun i S hi j S' hj hne hnd=>StP_spec (StQ_spec h i S (lookE_memj hi)) j S' (lookE_memj hj) hne hnd
theorem New.ge' {S:List Nat} {w0 w w':World} {b:Nat} (h:New w w' b) (c:Chg S w0 w):w0.heap.size≤b:=Nat.le_trans c.size h.ge
theorem Chg.own {S:List Nat} {a w w':World} {b:Nat} (c:Chg S a w) (s:Chg [b] w w') (hb:a.heap.size≤b):Chg S a w':=
 c.trans' s fun x hx=>.inr (by simp at hx;subst hx;exact hb)
theorem New.ne {w w':World} {b x:Nat} (h:New w w' b) (hx:x<w.heap.size):x≠b:=by have:=h.ge;omega
/-! ### results that lie in memory -/
inductive RS (P:Program) (kv:KV) (w:World):List ResultVar→List Value→Prop where
 | nil:RS P kv w [] []
 | tmp {t v r vs} (h:look kv t=some v) (hr:RS P kv w r vs):RS P kv w (.tmp t::r) (v::vs)
 | cell {t T k b us r vs} (hT:Agg P T k) (h:look kv t=some (.pointer (some ⟨b,0,none⟩))) (hc:w.rangeAt b 0 us) (hl:us.length=k) (hr:RS P kv w r vs):RS P kv w (.cell t T::r) (.agg us.toArray::vs)
def resF (tmps:Array Value):ResultVar→Sem Value
 | .tmp t=>pure (tmps.getD t undef)
 | .cell x t=>do loadVar t (← asAddr (tmps.getD x undef))
theorem run_mapM_RS {a:Act} (hF:Fr n a kv):∀{rs:List ResultVar} {vs:List Value},RS P kv w rs vs→(rs.mapM (resF a.tmps)).run P w=.ok vs w:=by
 intro rs vs h
 induction h with
 | nil=>rfl
 | tmp h hr ih=>
  have:=hF.val _ _ h
  simp only [List.mapM_cons,Sem.run_bind,resF,this,Sem.run_pure,Result.andThen_ok,ih]
 | cell hT h hc hl hr ih=>
  have:=hF.val _ _ h
  obtain ⟨de,hu,hrw⟩:=hT.row;have hld:=run_loadVar_mid (P:=P) w _ 0 _ _ de hc hu hrw (by rw [hT.2,hl]);simp only [List.mapM_cons,Sem.run_bind,resF,this,asAddr,Sem.run_pure,Result.andThen_ok,hld,ih]
theorem run_results {fn:Func} {a:Act} (hF:Fr n a kv) {rs:List ResultVar} {vs:List Value} (hr:fn.results=rs.toArray) (h:RS P kv w rs vs) :
  (results fn a.tmps).run P w=.ok (if h:vs.toArray.size=1 then vs.toArray[0] else .tuple vs.toArray) w:=by
 have e:results fn a.tmps=(do let vs ← fn.results.mapM (resF a.tmps);pure (if h:vs.size=1 then vs[0] else .tuple vs)):=rfl;rw [e,hr,List.mapM_toArray];simp only [Sem.run_bind,map_eq_pure_bind,run_mapM_RS hF h,Result.andThen_ok,Sem.run_pure]
theorem EX.retN {fn:Func} {R:Ending→World→Prop} {rs:List ResultVar} {vs:List Value} (hr:fn.results=rs.toArray) (h:RS P kv w rs vs) (hl:Nat.beq vs.length 1=false)
  (hR:R (.returned (.tuple vs.toArray)) w):EX (bodyPost P fn R) .ret n kv w:=fun a hF=>by
 refine ⟨hF.nod,_,run_results hF hr h,?_⟩
 have:¬vs.toArray.size=1:=fun e=>by simp at e;rw [e] at hl;cases hl
 rw [dif_neg this];exact hR
theorem EX.retC {fn:Func} {R:Ending→World→Prop} {t T k b:Nat} {us:List Value} (hT:Agg P T k) (hr:fn.results=#[.cell t T]) (ht:look kv t=some (.pointer (some ⟨b,0,none⟩))) (hc:w.rangeAt b 0 us) (hl:us.length=k)
  (hR:R (.returned (.agg us.toArray)) w):EX (bodyPost P fn R) .ret n kv w:=fun a hF=>
 ⟨hF.nod,_,run_results hF (rs:=[.cell t T]) hr (.cell hT ht hc hl .nil),by simpa using hR⟩
end
end Go.Rc

namespace Go.Rc
open Go
structure SL (A:Nat→Prop) (w:World) (k:Nat) (a:Option Addr) (n c:Nat) (cs:List Value):Prop where
 len:cs.length=n*k
 le:n≤140737488355328
 one:∀u∈cs,u.oneCell'=true
 at_:(a=none∧n=0∧c=0)∨∃b o,a=some ⟨b,o,none⟩∧n≤c∧c≤maxLen∧A b∧b<w.heap.size∧w.rangeAt b o cs
variable {α:Type} {A:Nat→Prop} {w w':World} {k n c:Nat} {a:Option Addr} {cs:List Value}
theorem SL.nil (A:Nat→Prop) (w:World) (k:Nat):SL A w k none 0 0 []:=⟨by simp,by omega,by simp,.inl ⟨rfl,rfl,rfl⟩⟩
theorem SL.chg {S:List Nat} (h:SL A w k a n c cs) (hc:Chg S w w') (hS:∀b∈S,¬A b):SL A w' k a n c cs:=by
 refine ⟨h.len,h.le,h.one,?_⟩
 rcases h.at_ with h1 | ⟨b,o,h1,h2,h3,h4,h5,h6⟩
 ·
  exact .inl h1
 exact .inr ⟨b,o,h1,h2,h3,h4,Nat.lt_of_lt_of_le h5 hc.size,range_chg h6 hc fun hm=>hS b hm h4⟩
theorem SL.mono {A':Nat→Prop} (h:SL A w k a n c cs) (hA:∀b,A b→b<w.heap.size→A' b):SL A' w k a n c cs:=by
 refine ⟨h.len,h.le,h.one,?_⟩
 rcases h.at_ with h1 | ⟨b,o,h1,h2,h3,h4,h5,h6⟩
 ·
  exact .inl h1
 exact .inr ⟨b,o,h1,h2,h3,hA b h4 h5,h5,h6⟩
def SR (A:Nat→Prop) (w:World) (k:Nat) (R:α→List Value→Prop) (a:Option Addr) (n c:Nat) (xs:List α):Prop:=
 n=xs.length∧∃rows:List (List Value),rows.length=xs.length∧(∀r∈rows,r.length=k)∧SL A w k a n c rows.flatten∧∀(i:Nat) x r,xs[i]?=some x→rows[i]?=some r→R x r
theorem flatten_row:∀(rows:List (List Value)) (k i:Nat) (r:List Value),(∀r∈rows,r.length=k)→rows[i]?=some r→∀j v,r[j]?=some v→rows.flatten[i*k+j]?=some v:=by
 intro rows
 induction rows with
 | nil=>intro k i r _ h;simp at h
 | cons x xs ih=>
  intro k i r hk h j v hv;have hx:x.length=k:=hk x (by simp)
  cases i with
  | zero=>
   simp at h;subst h
   have hj:j<x.length:=(List.getElem?_eq_some_iff.1 hv).1;simp only [Nat.zero_mul,Nat.zero_add,List.flatten_cons];rw [List.getElem?_append_left hj];exact hv
  | succ i=>
   have:=ih k i r (fun r hr=>hk r (by simp [hr])) (by simpa using h) j v hv
   simp only [List.flatten_cons];rw [List.getElem?_append_right (by rw [hx,Nat.succ_mul];omega),hx,← this]
   congr 1
   rw [Nat.succ_mul];omega
theorem SR.at {R:α→List Value→Prop} {xs:List α} (h:SR A w k R a n c xs) {i:Nat} {x:α} (hi:xs[i]?=some x) :
  ∃b o r,a=some ⟨b,o,none⟩∧r.length=k∧R x r∧w.rangeAt b (o+i*k) r∧A b:=by
 obtain ⟨hn,rows,hl,hk,hs,hR⟩:=h;have hlt:i<xs.length:=(List.getElem?_eq_some_iff.1 hi).1;obtain ⟨r,hr⟩:∃r,rows[i]?=some r:=⟨rows[i],by simp [hl,hlt]⟩
 rcases hs.at_ with ⟨_,h0,_⟩ | ⟨b,o,h1,_,_,h4,_,h6⟩
 ·
  omega
 exact ⟨b,o,r,h1,hk r (List.mem_of_getElem? hr),hR i x r hi hr,range_part h6 (i*k) r (flatten_row rows k i r hk hr),h4⟩
theorem SR.chg {R R':α→List Value→Prop} {xs:List α} {S:List Nat} (h:SR A w k R a n c xs) (hc:Chg S w w') (hS:∀b∈S,¬A b) (hR:∀x r,R x r→R' x r):SR A w' k R' a n c xs:=by
 obtain ⟨hn,rows,hl,hk,hs,hx⟩:=h;exact ⟨hn,rows,hl,hk,hs.chg hc hS,fun i x r h1 h2=>hR x r (hx i x r h1 h2)⟩
theorem SR.ext {R:α→List Value→Prop} {xs:List α} (h:SR A w k R a n c xs) (hc:Chg [] w w'):SR A w' k R a n c xs:=h.chg hc (by simp) fun _ _ h=>h
theorem SR.mono {R R':α→List Value→Prop} {xs:List α} {A':Nat→Prop} (h:SR A w k R a n c xs) (hA:∀b,A b→b<w.heap.size→A' b) (hR:∀x r,R x r→R' x r):SR A' w k R' a n c xs:=by
 obtain ⟨hn,rows,hl,hk,hs,hx⟩:=h;exact ⟨hn,rows,hl,hk,hs.mono hA,fun i x r h1 h2=>hR x r (hx i x r h1 h2)⟩
theorem SR.nil (A:Nat→Prop) (w:World) (k:Nat) (R:α→List Value→Prop):SR A w k R none 0 0 []:=⟨rfl,[],rfl,by simp,SL.nil A w k,by simp⟩
theorem SR.le {R:α→List Value→Prop} {xs:List α} (h:SR A w k R a n c xs):n≤140737488355328:=by obtain ⟨_,_,_,_,h,_⟩:=h;exact h.le
theorem SR.len {R:α→List Value→Prop} {xs:List α} (h:SR A w k R a n c xs):n=xs.length:=h.1
theorem PV.ixS {P:Program} {kv:KV} {T E k:Nat} {ty:TypeId} {w:World} (hT:SlT P T E k) {x y:Operand} {a:Option Addr} {b o m c i:Nat} (ha:a=some ⟨b,o,none⟩) (hx:ev kv x=some (.slice a m c)) (hy:ev kv y=some (.int .i64 (i:Int))) (hi:i<m) :
  PV P (.indexAddr T x y) ty kv w (.pointer (some ⟨b,o+i*k,none⟩)):=by
 subst ha;exact PV.ix hT hx hy hi
theorem PV.ixZ {P:Program} {kv:KV} {T E k:Nat} {ty:TypeId} {w:World} (hT:SlT P T E k) {x y:Operand} {a:Option Addr} {b o m c:Nat} {z:Int} (i:Nat) (ha:a=some ⟨b,o,none⟩) (hx:ev kv x=some (.slice a m c)) (hy:ev kv y=some (.int .i64 z)) (hz:z=(i:Int)) (hi:i<m) :
  PV P (.indexAddr T x y) ty kv w (.pointer (some ⟨b,o+i*k,none⟩)):=by
 subst ha hz;exact PV.ix hT hx hy hi
/-! things of a fixed shape -/
structure Key where
 kind:Int
 text:ByteArray
 deriving DecidableEq
instance:Inhabited Key:=⟨⟨0,⟨#[]⟩⟩⟩
def Key.cells (k:Key):List Value:=[.int .i64 k.kind,.string k.text]
def Key.val (k:Key):Value:=.agg #[.int .i64 k.kind,.string k.text]
def Keys (A:Nat→Prop) (w:World) (a:Option Addr) (n c:Nat) (l:List Key):Prop:=SR A w 2 (fun k r=>r=Key.cells k) a n c l
def Strs (A:Nat→Prop) (w:World) (a:Option Addr) (n c:Nat) (l:List ByteArray):Prop:=SR A w 1 (fun s r=>r=[.string s]) a n c l
structure Ask where
 cell:Bool
 pick:Bool
 n:Int
 els:Int
 deriving DecidableEq
def Ask.cells (x:Ask):List Value:=[.bool x.cell,.bool x.pick,.int .i64 x.n,.int .i64 x.els]
structure Rule where
 ring:Bool
 asks:List Ask
 final:Int
 c:Int
 deriving DecidableEq
def RuleR (A:Nat→Prop) (w:World) (x:Rule) (r:List Value):Prop:=
 ∃a n c,r=[.bool x.ring,.slice a n c,.int .i64 x.final,.int .i64 x.c]∧SR A w 4 (fun k r=>r=Ask.cells k) a n c x.asks
def Rules (A:Nat→Prop) (w:World) (a:Option Addr) (n c:Nat) (l:List Rule):Prop:=SR A w 4 (RuleR A w) a n c l
theorem Keys.chg {S:List Nat} {l:List Key} (h:Keys A w a n c l) (hc:Chg S w w') (hS:∀b∈S,¬A b):Keys A w' a n c l:=SR.chg h hc hS fun _ _ h=>h
theorem Keys.ext {l:List Key} (h:Keys A w a n c l) (hc:Chg [] w w'):Keys A w' a n c l:=Keys.chg h hc (by simp)
theorem Strs.chg {S:List Nat} {l:List ByteArray} (h:Strs A w a n c l) (hc:Chg S w w') (hS:∀b∈S,¬A b):Strs A w' a n c l:=SR.chg h hc hS fun _ _ h=>h
theorem Strs.ext {l:List ByteArray} (h:Strs A w a n c l) (hc:Chg [] w w'):Strs A w' a n c l:=Strs.chg h hc (by simp)
theorem RuleR.chg {S:List Nat} {x:Rule} {r:List Value} (h:RuleR A w x r) (hc:Chg S w w') (hS:∀b∈S,¬A b):RuleR A w' x r:=by
 obtain ⟨a,n,c,h1,h2⟩:=h;exact ⟨a,n,c,h1,h2.chg hc hS fun _ _ h=>h⟩
theorem Rules.chg {S:List Nat} {l:List Rule} (h:Rules A w a n c l) (hc:Chg S w w') (hS:∀b∈S,¬A b):Rules A w' a n c l:=SR.chg h hc hS fun _ _ h=>h.chg hc hS
theorem Rules.ext {l:List Rule} (h:Rules A w a n c l) (hc:Chg [] w w'):Rules A w' a n c l:=Rules.chg h hc (by simp)
end Go.Rc

set_option linter.unusedSimpArgs false
namespace Go.Rc
open Go
/-! ### literals -/
def overw:List Value→List Value→List Value
 | _::l,u::us=>u::overw l us
 | l,[]=>l
 | [],_::_=>[]
def putAt:List Value→Nat→List Value→List Value
 | l,0,us=>overw l us
 | [],_+1,_=>[]
 | x::l,n+1,us=>x::putAt l n us
def cellsL:Value→List Value
 | .agg cs=>cs.toList
 | v=>[v]
theorem cellsL_eq (v:Value):v.cells.toList=cellsL v:=by cases v <;> rfl
def fillV (places:List (Nat × Nat)):List Value→List (Nat × Value)→List Value
 | z,[]=>z
 | z,(i,v)::r=>match places[i]? with
  | none=>z
  | some (off,_)=>fillV places (putAt z off (cellsL v)) r
def fillOk (places:List (Nat × Nat)):Nat→List (Nat × Value)→Bool
 | _,[]=>true
 | n,(i,v)::r=>match places[i]? with
  | none=>false
  | some (off,size)=>Nat.beq (cellsL v).length size && Nat.ble (off+(cellsL v).length) n && fillOk places n r
theorem overw_eq:∀(us l:List Value),us.length≤l.length→overw l us=us++l.drop us.length:=by
 intro us
 induction us with
 | nil=>intro l _;cases l <;> simp [overw]
 | cons u us ih=>
  intro l h
  cases l with
  | nil=>simp at h
  | cons x l=>simp only [overw,List.cons_append,List.length_cons,List.drop_succ_cons];rw [ih l (by simpa using h)]
theorem putAt_eq:∀(n:Nat) (l us:List Value),n+us.length≤l.length→putAt l n us=l.take n++us++l.drop (n+us.length):=by
 intro n
 induction n with
 | zero=>intro l us h;simp [putAt,overw_eq us l (by omega)]
 | succ n ih=>
  intro l us h
  cases l with
  | nil=>simp at h
  | cons x l=>
   simp only [putAt,List.take_succ_cons,List.cons_append,Nat.succ_add,List.drop_succ_cons];rw [ih l us (by simp at h;omega)]
theorem foldl_set (us:List Value):∀(i off:Nat) (cells:Array Value),off+i+us.length≤cells.size→
  ((us.zipIdx i).foldl (fun cs (p:Value × Nat)=>cs.setIfInBounds (off+p.2) p.1) cells).toList=cells.toList.take (off+i)++us++cells.toList.drop (off+i+us.length):=by
 induction us with
 | nil=>intro i off cells _;simp
 | cons u us ih=>
  intro i off cells h;simp only [List.zipIdx_cons,List.foldl_cons];rw [ih (i+1) off _ (by simp at h ⊢;omega)]
  have hlt:off+i<cells.toList.length:=by simp at h ⊢;omega
  simp only [Array.toList_setIfInBounds];rw [List.take_set,List.drop_set,if_pos (by omega)];rw [show off+(i+1)=off+i+1 by omega,List.take_succ_eq_append_getElem hlt]
  have:(cells.toList.take (off+i)++[cells.toList[off+i]]).set (off+i) u=cells.toList.take (off+i)++[u]:=by
   rw [List.set_append_right _ _ (by simp;omega)]
   simp [show min (off+i) cells.size=off+i by simp at hlt;omega]
  rw [this];simp only [List.length_cons,List.append_assoc,List.cons_append,List.nil_append]
  congr 3
  simp;omega
theorem fill_eq (places:List (Nat × Nat)):∀(parts:List (Nat × Value)) (cells:Array Value),fillOk places cells.size parts=true→
  Instr.fill (fun i:Nat=>places[i]?) cells parts=some (fillV places cells.toList parts).toArray:=by
 intro parts
 induction parts with
 | nil=>intro cells _;simp [Instr.fill,fillV]
 | cons p r ih=>
  obtain ⟨i,v⟩:=p;intro cells h;simp only [fillOk] at h;simp only [Instr.fill,fillV]
  cases hp:places[i]? with
  | none=>rw [hp] at h;cases h
  | some q=>
   obtain ⟨off,size⟩:=q;rw [hp] at h;simp only [Bool.and_eq_true] at h;obtain ⟨⟨h1,h2⟩,h3⟩:=h;have e1:(cellsL v).length=size:=Nat.eq_of_beq_eq_true h1;have e2:off+(cellsL v).length≤cells.size:=Nat.le_of_ble_eq_true h2
   have hs:v.cells.size=(cellsL v).length:=by rw [← cellsL_eq];simp
   simp only
   rw [if_neg (by simp [hs,e1];omega)]
   have hfold:(v.cells.zipIdx.foldl (fun cs (c,j)=>cs.setIfInBounds (off+j) c) cells).toList=putAt cells.toList off (cellsL v):=by
    rw [← Array.foldl_toList,Array.toList_zipIdx,cellsL_eq]
    have:=foldl_set (cellsL v) 0 off cells (by omega)
    simp only [Nat.add_zero] at this;rw [putAt_eq off cells.toList (cellsL v) (by simpa using e2)];exact this
   rw [ih _ (by
    have:(v.cells.zipIdx.foldl (fun cs (c,j)=>cs.setIfInBounds (off+j) c) cells).size=cells.size:=by
     rw [← Array.length_toList,hfold,putAt_eq off _ _ (by simpa using e2)]
     simp;omega
    rw [this];exact h3)]
   rw [hfold]
structure BT (P:Program) (T:TypeId) (z:List Value) (places:List (Nat × Nat)):Prop where
 zero:∃v:Value,(∀w,(zeroValue T).run P w=.ok v w)∧v.cells=z.toArray
 und:∃fs:Array Field,P.underlying T=some (.struct fs)∧∀w,(fs.mapM fun f=>(do pure (f.offset,← sizeOf f.type):Sem (Nat × Nat))).run P w=.ok places.toArray w
section
variable {P:Program} {n:Nat} {kv:KV} {w:World} {K:KV→World→Prop}
variable {d:Tmp} {ty:TypeId} {pos:String} {af:Array Edge} {g:Option (Nat × Bool)} {T:TypeId}
def evParts (kv:KV):List (Nat × Operand)→Option (List (Nat × Value))
 | []=>some []
 | (i,x)::r=>match ev kv x with
  | none=>none
  | some v=>match evParts kv r with
   | none=>none
   | some vs=>some ((i,v)::vs)
theorem evParts_spec {kv:KV}:∀{ps:List (Nat × Operand)} {vs:List (Nat × Value)},evParts kv ps=some vs→ps.map (fun p=>(p.1,lkO kv p.2))=vs∧∀p∈ps,(ev kv p.2).isSome=true:=by
 intro ps
 induction ps with
 | nil=>intro vs h;simp [evParts] at h;subst h;simp
 | cons p r ih=>
  obtain ⟨i,x⟩:=p;intro vs h;simp only [evParts] at h
  cases hx:ev kv x with
  | none=>rw [hx] at h;cases h
  | some v=>
   rw [hx] at h
   cases hr:evParts kv r with
   | none=>rw [hr] at h;cases h
   | some us=>
    rw [hr] at h
    simp at h
    obtain ⟨h1,h2⟩:=ih hr;subst h;refine ⟨by simp [lkO_of hx,h1],fun p hp=>?_⟩
    rcases List.mem_cons.1 hp with rfl | hp
    ·
     simp [hx]
    exact h2 p hp
theorem PV.build {z:List Value} {places:List (Nat × Nat)} (hT:BT P T z places) {ps:List (Nat × Operand)} {vs:List (Nat × Value)} (hv:evParts kv ps=some vs) (hok:fillOk places z.length vs=true) :
  PV P (.build T ps.toArray) ty kv w (.agg (fillV places z vs).toArray):=by
 obtain ⟨⟨v,hz,hzc⟩,fs,hu,hm⟩:=hT;obtain ⟨h1,h2⟩:=evParts_spec hv;refine ⟨rfl,by simpa [known,opers] using h2,fun _ _ _ _=>?_⟩;have hf:=fill_eq places vs z.toArray (by simpa using hok)
 have e:(ps.toArray.map fun (i,x)=>(i,lkO kv x)).toList=vs:=by rw [← h1];simp
 simp only [execOp,Instr.build,Sem.run_bind,hz w,Result.andThen_ok,run_underlying hu,hm w,e];rw [hzc];rw [show (fun x:Nat=>places.toArray[x]?)=fun i=>places[i]? from by funext i;simp,hf]
 rfl
structure BS (P:Program) (T E k len:Nat) (z:List Value):Prop where
 und:P.underlying T=some (.slice E)
 size:∀w,(sizeOf E).run P w=.ok k w
 pos:len*k≠0
 small:len*k≤2 ^ 24
 zero:∃v:Value,(∀w,(zeroValue E).run P w=.ok v w)∧(Array.range (len*k)).map (v.cells[· % v.cells.size]!)=z.toArray
def bsOk (k:Nat):Nat→List (Nat × Value)→Bool
 | _,[]=>true
 | n,(i,v)::r=>Nat.beq (cellsL v).length k && Nat.ble (i*k+(cellsL v).length) n && bsOk k n r
def bsV (k:Nat):List Value→List (Nat × Value)→List Value
 | z,[]=>z
 | z,(i,v)::r=>bsV k (putAt z (i*k) (cellsL v)) r
theorem bs_eq (k:Nat):∀(parts:List (Nat × Value)) (cells:Array Value),bsOk k cells.size parts=true→
  Instr.fill (fun i=>some (i*k,k)) cells parts=some (bsV k cells.toList parts).toArray:=by
 intro parts
 induction parts with
 | nil=>intro cells _;simp [Instr.fill,bsV]
 | cons p r ih=>
  obtain ⟨i,v⟩:=p;intro cells h;simp only [bsOk,Bool.and_eq_true] at h;simp only [Instr.fill,bsV];obtain ⟨⟨h1,h2⟩,h3⟩:=h;have e1:(cellsL v).length=k:=Nat.eq_of_beq_eq_true h1;have e2:i*k+(cellsL v).length≤cells.size:=Nat.le_of_ble_eq_true h2
  have hs:v.cells.size=(cellsL v).length:=by rw [← cellsL_eq];simp
  rw [if_neg (by simp [hs,e1];omega)]
  have hfold:(v.cells.zipIdx.foldl (fun cs (c,j)=>cs.setIfInBounds (i*k+j) c) cells).toList=putAt cells.toList (i*k) (cellsL v):=by
   rw [← Array.foldl_toList,Array.toList_zipIdx,cellsL_eq]
   have:=foldl_set (cellsL v) 0 (i*k) cells (by omega)
   simp only [Nat.add_zero] at this;rw [putAt_eq (i*k) cells.toList (cellsL v) (by simpa using e2)];exact this
  rw [ih _ (by
   have:(v.cells.zipIdx.foldl (fun cs (c,j)=>cs.setIfInBounds (i*k+j) c) cells).size=cells.size:=by
    rw [← Array.length_toList,hfold,putAt_eq (i*k) _ _ (by simpa using e2)]
    simp;omega
   rw [this];exact h3),hfold]
theorem OX.bslice {E k len:Nat} {z:List Value} (hT:BS P T E k len z) {ps:List (Nat × Operand)} {vs:List (Nat × Value)} (hd:Nat.blt d n=true) (hv:evParts kv ps=some vs) (hok:bsOk k z.length vs=true)
  (h:∀b w',New w w' b→Blk w' b E (bsV k z vs)→K ((d,.slice (some ⟨b,0,none⟩) len len)::kv) w'):OX P ⟨some d,.buildSlice T len ps.toArray,ty,pos,af,g⟩ n kv w K:=by
 obtain ⟨v,hz,hzc⟩:=hT.zero;obtain ⟨h1,h2⟩:=evParts_spec hv;refine ⟨rfl,hd,by simpa [known,opers] using h2,?_⟩;have hf:=bs_eq k vs z.toArray (by simpa using hok)
 have e:(ps.toArray.map fun (i,x)=>(i,lkO kv x)).toList=vs:=by rw [← h1];simp
 have hr:(execOp (lkO kv) ⟨some d,.buildSlice T len ps.toArray,ty,pos,af,g⟩).run P w=.ok (.value (.slice (some ⟨w.heap.size,0,none⟩) len len)) (w.alloc (.cells (bsV k z vs).toArray E)):=by
  have hs:=hT.small;simp only [execOp,Instr.buildSlice,Sem.run_bind,run_underlying hT.und,Result.andThen_ok,hT.size w,e];rw [if_neg (by omega),if_neg hT.pos];simp only [Sem.run_bind,hz w,Result.andThen_ok,Sem.run_pure,hzc,hf]
  rfl
 rw [hr];exact h _ _ ⟨chg_alloc _ _,Nat.le_refl _,by simp⟩ (alloc_get _ _)
/-! ### bytes -/
theorem PV.sidx {x y:Operand} {s:ByteArray} {i:Nat} {b:UInt8} (hT:P.underlying T=some .string) (hx:ev kv x=some (.string s)) (hy:ev kv y=some (.int .i64 (i:Int))) (hi:s[i]?=some b) :
  PV P (.index T x y) ty kv w (.int .u8 (b.toNat:Int)):=
 ⟨rfl,by simp [known,opers,hx,hy],fun _ _ _ _=>by
  simp only [execOp,lkO_of hx,lkO_of hy,Instr.index]
  simp [asIntOf,run_underlying hT,hi]⟩
theorem PV.subu8 {U:TypeId} {x y:Operand} {p q:Int} (hx:ev kv x=some (.int .u8 p)) (hy:ev kv y=some (.int .u8 q)) (h1:0≤p - q) (h2:p - q≤255) :
  PV P (.binOp .sub T x y U) ty kv w (.int .u8 (p - q)):=
 ⟨rfl,by simp [known,opers,hx,hy],fun _ _ _ _=>run_binInt .sub (by simp) _ (by simp only [Op.intArith,IntWalk.u8_in _ ⟨h1,h2⟩];rfl) hx hy⟩
theorem PV.conv {U:TypeId} {x:Operand} {k:IntKind} {p:Int} (hT:∃de,P.underlying T=some de) (hU:P.underlying U=some (.int .i64)) (hx:ev kv x=some (.int k p)) (h1:-9223372036854775808≤p) (h2:p≤9223372036854775807) :
  PV P (.convert T U x) ty kv w (.int .i64 p):=by
 obtain ⟨de,hT⟩:=hT;refine ⟨rfl,by simp [known,opers,hx],fun _ _ _ _=>?_⟩;simp only [execOp,lkO_of hx,convert,Sem.run_bind,run_underlying hT,Result.andThen_ok,run_underlying hU]
 simp [Conv.intToInt,wrap_id h1 h2]
/-! ### keys compared -/
structure KeyT (P:Program) (T:TypeId):Prop where
 eq:∀(a b:Int) (s t:ByteArray) (w:World),(Op.equalIn 10000 T (.agg #[.int .i64 a,.string s]) (.agg #[.int .i64 b,.string t])).run P w=.ok (decide (a=b) && decide (s=t)) w
 guard:P.eqGuardType P.depth T=false
theorem KeyT_of {T0 T1:TypeId} {f0 f1:Field} (hu:P.underlying T=some (.struct #[f0,f1])) (ht0:f0.type=T0) (ht1:f1.type=T1) (ho0:f0.offset=0) (ho1:f1.offset=1) (hn0:f0.name≠ "_") (hn1:f1.name≠ "_")
  (h0:P.underlying T0=some (.int .i64)) (h1:P.underlying T1=some .string) (a0:∀w,(isAgg T0).run P w=.ok false w) (a1:∀w,(isAgg T1).run P w=.ok false w)
  (hs:P.stoodInHeld T=false) (hg:P.eqGuardType P.depth T=false):KeyT P T:=by
 refine ⟨fun a b s t w=>?_,hg⟩;subst ht0 ht1
 have hfo:P.fieldsOf T=#[f0,f1]:=by simp [Program.fieldsOf,hu]
 rw [show (10000:Nat)=9999+1 from rfl,run_equalIn_struct (P:=P) w 9999 T _ _ (by rw [hfo];exact hu) hs,hfo]
 have e:(s.toList == t.toList)=decide (s=t):=by
  by_cases e:s=t
  ·
   simp [e]
  have:s.toList≠t.toList:=fun h=>e (ByteArray.ext (Array.toList_inj.1 (by rw [← ByteArray.toList_eq,← ByteArray.toList_eq];exact h)))
  simp [e,this]
 have e2:(a == b)=decide (a=b):=by by_cases h:a=b <;> simp [h]
 have r0:=run_equalIn_int (P:=P) w 9998 f0.type .i64 .i64 a b h0;have r1:=run_equalIn_string (P:=P) w 9998 f1.type s t h1;rw [e2] at r0;rw [e] at r1;rw [show (9998+1:Nat)=9999 from rfl] at r0 r1;simp only [Op.eqFields,ho0,ho1,part,Sem.run_bind,a0,a1,Result.andThen_ok]
 by_cases hab:a=b
 ·
  subst hab
  by_cases hst:s=t
  ·
   subst hst;simp [hn0,hn1,a0,a1,r0,r1]
  simp [hn0,hn1,a0,a1,r0,r1,hst]
 simp [hn0,hn1,a0,a1,r0,r1,hab]
theorem PV.eqK (hT:KeyT P T) {U:TypeId} {x y:Operand} {p q:Key} (hx:ev kv x=some p.val) (hy:ev kv y=some q.val) :
  PV P (.binOp .eql T x y U) ty kv w (.bool (decide (p=q))):=by
 refine ⟨rfl,by simp [known,opers,hx,hy],fun _ _ _ _=>?_⟩
 have e:(decide (p.kind=q.kind) && decide (p.text=q.text))=decide (p=q):=by
  obtain ⟨a,s⟩:=p;obtain ⟨b,t⟩:=q;simp [Bool.decide_and]
 simp only [execOp,lkO_of hx,lkO_of hy,Key.val]
 simp [run_eqGuard_agg w .eql T _ _ _ _ hT.guard,run_eql_struct,hT.eq,e]
theorem PV.neK (hT:KeyT P T) {U:TypeId} {x y:Operand} {p q:Key} (hx:ev kv x=some p.val) (hy:ev kv y=some q.val) :
  PV P (.binOp .neq T x y U) ty kv w (.bool (decide (p≠q))):=by
 refine ⟨rfl,by simp [known,opers,hx,hy],fun _ _ _ _=>?_⟩
 have e:(decide (p.kind=q.kind) && decide (p.text=q.text))=decide (p=q):=by
  obtain ⟨a,s⟩:=p;obtain ⟨b,t⟩:=q;simp [Bool.decide_and]
 simp only [execOp,lkO_of hx,lkO_of hy,Key.val];simp only [Sem.run_bind,run_eqGuard_agg w .neq T _ _ _ _ hT.guard,run_neq_struct,hT.eq,e,Result.andThen_ok]
 by_cases h:p=q <;> simp [h]
end
end Go.Rc

namespace Go.Rc
open Go
def oblk:Option Addr→List Nat
 | some a=>[a.block]
 | none=>[]
def OL (base:Nat) (w:World) (E k:Nat) (a:Option Addr) (n c:Nat) (cs:List Value):Prop:=
 (∀u∈cs,u.oneCell'=true)∧w.ownsRow base E k (.slice a n c) n cs
variable {α:Type} {A:Nat→Prop} {w w':World} {base E k n c:Nat} {a:Option Addr} {cs:List Value}
theorem OL.nil (base:Nat) (w:World) (E k:Nat):OL base w E k none 0 0 []:=⟨by simp,World.ownsRow_nil _ _ _ _⟩
theorem OL.cases (h:OL base w E k a n c cs):(a=none∧n=0∧c=0∧cs=[])∨∃g cur,a=some ⟨g,0,none⟩∧base≤g∧w.heap[g]?=some (.cells cur E (0,0))∧n≤c∧c≤maxLen∧cur.size=c*k∧cur.toList.take (n*k)=cs:=by
 rcases h.2.2 with ⟨h1,h2⟩ | ⟨g,cap,cur,h1,h2⟩
 ·
  simp at h1;obtain ⟨h1,h3,h4⟩:=h1
  exact .inl ⟨h1,h2,h4,List.eq_nil_of_length_eq_zero (by rw [h.2.1,h2];simp)⟩
 simp at h1;obtain ⟨h1,h3⟩:=h1
 subst h3;exact .inr ⟨g,cur,h1,h2⟩
theorem OL.lt (h:OL base w E k a n c cs):∀x∈oblk a,x<w.heap.size:=by
 rcases h.cases with ⟨rfl,_⟩ | ⟨g,cur,rfl,hb,hg,_⟩
 ·
  simp [oblk]
 simp [oblk];exact (Array.getElem?_eq_some_iff.1 hg).1
theorem OL.sl (h:OL base w E k a n c cs) (hA:∀b,base≤b→A b) (hle:n≤140737488355328):SL A w k a n c cs:=by
 refine ⟨h.2.1,hle,h.1,?_⟩
 rcases h.cases with ⟨h1,h2,h3,_⟩ | ⟨g,cur,h1,h2,h3,h4,h5,h6,h7⟩
 ·
  exact .inl ⟨h1,h2,h3⟩
 refine .inr ⟨g,0,h1,h4,h5,hA g h2,(Array.getElem?_eq_some_iff.1 h3).1,fun j v hv=>?_⟩;rw [← h7,List.getElem?_take] at hv
 split at hv
 ·
  simp only [World.cell?,h3,Nat.zero_add];simpa using hv
 cases hv
theorem SL.blk {b e:Nat} {l:List Value} (h:Blk w b e l) (hA:A b) (m:Nat) (hl:l.length=m*k) (h1:∀u∈l,u.oneCell'=true) (hm:m≤140737488355328):SL A w k (some ⟨b,0,none⟩) m m l:=
 ⟨hl,hm,h1,.inr ⟨b,0,rfl,Nat.le_refl _,by simp [maxLen];omega,hA,h.lt,h.range⟩⟩
/-! ### append -/
structure AP (P:Program) (T E k bytes:Nat):Prop where
 und:P.underlying T=some (.slice E)
 info:∃i z,P.info? E=some i∧i.zero=some z∧i.size=k∧i.bytes=bytes∧z.cells.size=k
 pos:0<k
theorem run_app {P:Program} {T bytes:Nat} (hT:AP P T E k bytes) {ty:TypeId} {xs news:List Value} (hown:OL base w E k a n c xs) {a2:Option Addr} {m c2:Nat} {A:Nat→Prop} (hx:SL A w k a2 m c2 news)
  (hbytes:(n+m)*bytes≤140737488355328) (hnm:n+m≤140737488355328) (hbase:base≤w.heap.size) :
  ∃a' c' w',(Builtin.append_ #[T,T] ty #[.slice a n c,.slice a2 m c2]).run P w=.ok (.slice a' (n+m) c') w'∧OL base w' E k a' (n+m) c' (xs++news)∧Chg (oblk a) w w'∧(∀x∈oblk a',x∈oblk a∨w.heap.size≤x)∧
   (a'=none→a=none∧m=0)∧(m=0→a'=a)∧(Chg [] w w'∨(n+m≤c∧∃g,∃cur cur':Array Value,a=some ⟨g,0,none⟩∧w.heap[g]?=some (.cells cur E (0,0))∧w'.heap[g]?=some (.cells cur' E (0,0))∧cur'.size=cur.size∧cur.size=c*k∧cur'.toList.take (n*k)=cur.toList.take (n*k))):=by
 obtain ⟨i,z,hi,hz,rfl,rfl,hzs⟩:=hT.info;have hsz:=hT.pos
 have h1:∀u∈xs++news,u.oneCell'=true:=fun u hu=>by
  rcases List.mem_append.1 hu with h | h
  ·
   exact hown.1 u h
  exact hx.one u h
 rcases hx.at_ with ⟨rfl,rfl,rfl⟩ | ⟨b2,o2,rfl,hmc,hcm2,_,hb2,hr2⟩
 ·
  have hn:news=[]:=List.eq_nil_of_length_eq_zero (by rw [hx.len];simp);subst hn;refine ⟨a,c,w,run_append_owned_none (P:=P) w base T ty E i i.size hT.und hi _ n xs hown.2,by simpa using hown,Chg.refl _ _,fun x h=>.inl h,fun h=>⟨h,rfl⟩,fun _=>rfl,.inl (Chg.refl _ _)⟩
 have hnews:∀j u,news[j]?=some u→w.cell? ((⟨b2,o2,none⟩:Addr).add j)=some u:=fun j u hu=>by rw [Addr.add_at];exact hr2 j u hu
 have hl:=hx.len
 have hlen:(xs++news).length=(n+m)*i.size:=by rw [List.length_append,hown.2.1,hl,Nat.add_mul]
 have h1n:=hx.one;have grown:∀(old:Nat),old<n+m→
   OL base (w.drew.alloc (.cells (xs.toArray++news.toArray++Builtin.zeroCells z.cells (grownCap w (n+m) old E - (n+m))) E)) E i.size
    (some ⟨w.heap.size,0,none⟩) (n+m) (grownCap w (n+m) old E) (xs++news)∧
   ∀S,Chg S w (w.drew.alloc (.cells (xs.toArray++news.toArray++Builtin.zeroCells z.cells (grownCap w (n+m) old E - (n+m))) E)):=by
  intro old ho;have hge:=grownCap_ge w (n+m) old E;have hcm:grownCap w (n+m) old E≤maxLen:=grownCap_le_maxLen w (n+m) old E (by simp [maxLen];omega);refine ⟨⟨h1,hlen,.inr ⟨w.heap.size,_,_,rfl,hbase,heap_alloc_new w.drew _,hge,hcm,?_,?_⟩⟩,fun S=>⟨rfl,rfl,rfl,by simp,Nat.le_succ _,fun k hk _=>heap_alloc_old w.drew _ (h:=hk)⟩⟩
  ·
   simp only [Array.size_append,List.size_toArray,size_zeroCells,hzs,hown.2.1,hl,← Nat.add_mul]
   congr 1
   omega
  simp only [Array.toList_append,List.append_assoc];rw [← List.append_assoc,← hlen];exact List.take_left
 rcases hown.cases with ⟨rfl,rfl,rfl,rfl⟩ | ⟨g,cur,rfl,hbg,hg,hnc,hcm,hcs,htake⟩
 ·
  by_cases hm:m=0
  ·
   subst hm;have hn:news=[]:=List.eq_nil_of_length_eq_zero (by simpa using hl);subst hn;refine ⟨none,0,w,?_,OL.nil base w E i.size,Chg.refl _ _,by simp [oblk],by simp,fun _=>rfl,.inl (Chg.refl _ _)⟩
   simp [Builtin.append_,run_underlying hT.und,sizeOf,typeInfo,hi,Builtin.lenOf,Builtin.firstCells,loadCells,loadCellsFrom]
  have hr:=run_append_nil (P:=P) w T ty E i z hT.und hi hz ⟨b2,o2,none⟩ m c2 news hl hnews (by omega) (by omega) (by have hb:=hbytes;simp only [Nat.zero_add] at hb;omega);have hgr:=grown 0 (by omega);simp only [Nat.zero_add,List.nil_append,Array.empty_append] at hgr ⊢;exact ⟨_,_,_,hr,hgr.1,hgr.2 _,fun x hx=>.inr (by simp [oblk] at hx;omega),by simp,fun h=>absurd h hm,.inl (hgr.2 _)⟩
 by_cases hroom:n+m≤c
 ·
  have hfit:n*i.size+news.length≤cur.size:=by rw [hl,hcs,← Nat.add_mul];exact Nat.mul_le_mul_right _ hroom
  have hr:=run_append_room (P:=P) w T ty E i hT.und hi g n c cur hg ⟨b2,o2,none⟩ m c2 news hl hnews h1n hroom hfit;refine ⟨_,_,_,hr,⟨h1,hlen,.inr ⟨g,c,_,rfl,hbg,setRow_heap w g cur _ E _ hg,hroom,hcm,?_,?_⟩⟩,chg_setRow w g _,fun x hx=>.inl hx,by simp,fun _=>rfl,.inr ⟨hroom,g,cur,_,rfl,hg,setRow_heap w g cur _ E _ hg,?_,hcs,?_⟩⟩
  ·
   simp only [List.size_toArray,List.length_append,List.length_take,List.length_drop,Array.length_toList]
   omega
  ·
   rw [htake,← hlen];exact List.take_left
  ·
   simp only [List.size_toArray,List.length_append,List.length_take,List.length_drop,Array.length_toList]
   omega
  have hnk:n*i.size≤cur.toList.length:=by rw [Array.length_toList,hcs];exact Nat.mul_le_mul_right _ hnc
  show (cur.toList.take (n*i.size)++news++cur.toList.drop (n*i.size+news.length)).take (n*i.size)=_
  rw [List.append_assoc,List.take_append_of_le_length (by rw [List.length_take];omega),List.take_take,Nat.min_self]
 have holds:∀j u,xs[j]?=some u→w.cell? ((⟨g,0,none⟩:Addr).add j)=some u:=hown.2.cells (g:=g) rfl;have hr:=run_append_grow (P:=P) w T ty E i z hT.und hi hz ⟨g,0,none⟩ n c xs hown.2.1 holds ⟨b2,o2,none⟩ m c2 news hl hnews (by omega) (by omega) (growslice_fits (by omega) hbytes);have hgr:=grown c (by omega);exact ⟨_,_,_,hr,hgr.1,hgr.2 _,fun x hx=>.inr (by simp [oblk] at hx;omega),by simp,fun h=>absurd h (by omega),.inl (hgr.2 _)⟩
def OR (base:Nat) (w:World) (E k:Nat) (R:α→List Value→Prop) (a:Option Addr) (n c:Nat) (xs:List α):Prop:=
 n=xs.length∧∃rows:List (List Value),rows.length=xs.length∧(∀r∈rows,r.length=k)∧OL base w E k a n c rows.flatten∧∀(i:Nat) x r,xs[i]?=some x→rows[i]?=some r→R x r
variable {R R':α→List Value→Prop} {xs ys:List α}
theorem OR.nil (base:Nat) (w:World) (E k:Nat) (R:α→List Value→Prop):OR base w E k R none 0 0 []:=⟨rfl,[],rfl,by simp,OL.nil _ _ _ _,by simp⟩
theorem OR.lt (h:OR base w E k R a n c xs):∀x∈oblk a,x<w.heap.size:=by obtain ⟨_,_,_,_,h,_⟩:=h;exact h.lt
theorem OR.len (h:OR base w E k R a n c xs):n=xs.length:=h.1
theorem SR.blk1 {b e:Nat} {l:List Value} {x:α} (h:Blk w b e l) (hA:A b) (hl:l.length=k) (h1:∀u∈l,u.oneCell'=true) (hR:R x l):SR A w k R (some ⟨b,0,none⟩) 1 1 [x]:=
 ⟨rfl,[l],rfl,by simpa using hl,by simpa using SL.blk h hA 1 (by simpa using hl) h1 (by omega),fun i y r h1 h2=>by
  cases i with
  | zero=>simp at h1 h2;subst h1 h2;exact hR
  | succ i=>simp at h1⟩
section
variable {P:Program} {N:Nat} {kv:KV} {K:KV→World→Prop}
variable {d:Tmp} {ty:TypeId} {pos:String} {af:Array Edge} {g:Option (Nat × Bool)} {T bytes:Nat}
theorem OX.app (hT:AP P T E k bytes) {s x:Operand} {xs news:List Value} {a2:Option Addr} {m c2:Nat} (hd:Nat.blt d N=true) (hs:ev kv s=some (.slice a n c)) (hx:ev kv x=some (.slice a2 m c2))
  (hown:OL base w E k a n c xs) (hsrc:SL A w k a2 m c2 news) (hbytes:(n+m)*bytes≤140737488355328) (hnm:n+m≤140737488355328) (hbase:base≤w.heap.size)
  (h:∀a' c' w',OL base w' E k a' (n+m) c' (xs++news)→Chg (oblk a) w w'→(∀x∈oblk a',x∈oblk a∨w.heap.size≤x)→(a'=none→a=none∧m=0)→K ((d,.slice a' (n+m) c')::kv) w') :
  OX P ⟨some d,.call {callee:=.builtin .append,args:=#[s,x],argTypes:=#[T,T]},ty,pos,af,g⟩ N kv w K:=by
 refine ⟨rfl,hd,by simp [known,opers,hs,hx],?_⟩;obtain ⟨a',c',w',hr,h1,h2,h3,h4,_⟩:=run_app hT (ty:=ty) hown hsrc hbytes hnm hbase
 have hr':(execOp (lkO kv) ⟨some d,.call {callee:=.builtin .append,args:=#[s,x],argTypes:=#[T,T]},ty,pos,af,g⟩).run P w=.ok (.value (.slice a' (n+m) c')) w':=by
  simp only [execOp,resolve,invoke,builtin,Sem.run_bind,Sem.run_pure,Result.andThen_ok,List.map_toArray,List.map_cons,List.map_nil,lkO_of hs,lkO_of hx,hr]
 rw [hr'];exact h _ _ _ h1 h2 h3 h4
theorem OX.appR (hT:AP P T E k bytes) {s x:Operand} {a2:Option Addr} {m c2:Nat} (hd:Nat.blt d N=true) (hs:ev kv s=some (.slice a n c)) (hx:ev kv x=some (.slice a2 m c2))
  (hown:OR base w E k R a n c xs) (hsrc:SR A w k R a2 m c2 ys) (hbytes:(n+m)*bytes≤140737488355328) (hnm:n+m≤140737488355328) (hbase:base≤w.heap.size)
  (h:∀a' c' w',OR base w' E k R a' (n+m) c' (xs++ys)→Chg (oblk a) w w'→(∀x∈oblk a',x∈oblk a∨w.heap.size≤x)→(a'=none→a=none∧m=0)→K ((d,.slice a' (n+m) c')::kv) w') :
  OX P ⟨some d,.call {callee:=.builtin .append,args:=#[s,x],argTypes:=#[T,T]},ty,pos,af,g⟩ N kv w K:=by
 obtain ⟨hn,rows,hl,hk,hs1,hx1⟩:=hown;obtain ⟨hn2,rows2,hl2,hk2,hs2,hx2⟩:=hsrc
 refine OX.app hT hd hs hx hs1 hs2 hbytes hnm hbase fun a' c' w' h1 h2 h3 h4=>h a' c' w' ⟨by simp [hn,hn2],rows++rows2,by simp [hl,hl2],?_,by simpa using h1,?_⟩ h2 h3 h4
 ·
  intro r hr
  rcases List.mem_append.1 hr with h | h
  ·
   exact hk r h
  exact hk2 r h
 intro i x r hi hr
 rcases Nat.lt_or_ge i xs.length with hlt | hge
 ·
  rw [List.getElem?_append_left hlt] at hi;rw [List.getElem?_append_left (by omega)] at hr;exact hx1 i x r hi hr
 rw [List.getElem?_append_right hge] at hi;rw [List.getElem?_append_right (by omega)] at hr;exact hx2 (i - xs.length) x r hi (by rw [← hl];exact hr)
end
end Go.Rc

namespace Go.Rc
open Go
section
variable {κ:Type} [DecidableEq κ]
def mget:List (κ × Value)→κ→Option Value
 | [],_=>none
 | (k',v)::r,k=>if k'=k then some v else mget r k
def mput:List (κ × Value)→κ→Value→List (κ × Value)
 | [],k,v=>[(k,v)]
 | (k',v')::r,k,v=>if k'=k then (k',v)::r else (k',v')::mput r k v
def mdel:List (κ × Value)→κ→List (κ × Value)
 | [],_=>[]
 | (k',v')::r,k=>if k'=k then r else (k',v')::mdel r k
def midx:List (κ × Value)→κ→Nat→Option (Nat × Value)
 | [],_,_=>none
 | (k',v)::r,k,i=>if k'=k then some (i,v) else midx r k (i+1)
theorem mget_put (l:List (κ × Value)) (k k':κ) (v:Value):mget (mput l k v) k'=if k=k' then some v else mget l k':=by
 induction l with
 | nil=>simp [mput,mget]
 | cons p r ih=>
  obtain ⟨k0,v0⟩:=p;simp only [mput]
  by_cases h:k0=k
  ·
   subst h;simp only [if_true,mget];by_cases h2:k0=k' <;> simp [h2]
  rw [if_neg h];simp only [mget,ih]
  by_cases h2:k0=k'
  ·
   subst h2;rw [if_pos rfl,if_pos rfl,if_neg (fun e=>h e.symm)]
  simp [h2]
theorem mget_none {l:List (κ × Value)} {k:κ}:mget l k=none↔k∉l.map (·.1):=by
 induction l with
 | nil=>simp [mget]
 | cons p r ih=>
  obtain ⟨k0,v0⟩:=p;simp only [mget,List.map_cons,List.mem_cons,not_or]
  by_cases h:k0=k
  ·
   subst h;simp
  rw [if_neg h,ih];constructor
  ·
   exact fun h2=>⟨fun e=>h e.symm,h2⟩
  exact fun h2=>h2.2
theorem mget_mem {l:List (κ × Value)} (hn:(l.map (·.1)).Nodup) {k:κ} {v:Value}:mget l k=some v↔(k,v)∈l:=by
 induction l with
 | nil=>simp [mget]
 | cons p r ih=>
  obtain ⟨k0,v0⟩:=p;simp only [List.map_cons,List.nodup_cons] at hn;simp only [mget,List.mem_cons,Prod.mk.injEq]
  by_cases h:k0=k
  ·
   subst h;simp only [if_true,Option.some.injEq,true_and]
   constructor
   ·
    exact fun h=>.inl h.symm
   rintro (h | h)
   ·
    exact h.symm
   exact absurd (List.mem_map.2 ⟨_,h,rfl⟩) hn.1
  rw [if_neg h,ih hn.2]
  simp [show ¬(k=k0) from fun e=>h e.symm]
theorem mput_keys (l:List (κ × Value)) (k:κ) (v:Value):(mput l k v).map (·.1)=if k∈l.map (·.1) then l.map (·.1) else l.map (·.1)++[k]:=by
 induction l with
 | nil=>simp [mput]
 | cons p r ih=>
  obtain ⟨k0,v0⟩:=p;simp only [mput]
  by_cases h:k0=k
  ·
   subst h;simp
  rw [if_neg h];simp only [List.map_cons,ih,List.mem_cons,show ¬(k=k0) from fun e=>h e.symm,false_or]
  by_cases h2:k∈r.map (·.1) <;> simp [h2]
theorem mput_nodup {l:List (κ × Value)} (hn:(l.map (·.1)).Nodup) (k:κ) (v:Value):((mput l k v).map (·.1)).Nodup:=by
 rw [mput_keys]
 split
 ·
  exact hn
 rename_i h
 exact List.nodup_append.2 ⟨hn,by simp,fun a ha b hb e=>by simp at hb;subst hb;subst e;exact h ha⟩
theorem midx_none:∀{l:List (κ × Value)} {k:κ} {i:Nat},midx l k i=none→mget l k=none∧∀v,mput l k v=l++[(k,v)]:=by
 intro l
 induction l with
 | nil=>intro k i _;simp [mget,mput]
 | cons p r ih=>
  obtain ⟨k0,v0⟩:=p;intro k i h;simp only [midx] at h
  by_cases e:k0=k
  ·
   rw [if_pos e] at h;cases h
  rw [if_neg e] at h;obtain ⟨h1,h2⟩:=ih h
  simp [mget,mput,e,h1,h2]
theorem midx_some:∀{l:List (κ × Value)} {k:κ} {i j:Nat} {v:Value},midx l k i=some (j,v)→∃m,j=i+m∧l[m]?=some (k,v)∧mget l k=some v∧(∀u,mput l k u=l.set m (k,u))∧mdel l k=l.eraseIdx m:=by
 intro l
 induction l with
 | nil=>intro k i j v h;cases h
 | cons p r ih=>
  obtain ⟨k0,v0⟩:=p;intro k i j v h;simp only [midx] at h
  by_cases e:k0=k
  ·
   subst e;rw [if_pos rfl] at h
   simp at h
   obtain ⟨rfl,rfl⟩:=h;exact ⟨0,rfl,rfl,by simp [mget],by simp [mput],by simp [mdel]⟩
  rw [if_neg e] at h;obtain ⟨m,h1,h2,h3,h4,h5⟩:=ih h;exact ⟨m+1,by omega,by simpa using h2,by simp [mget,e,h3],fun u=>by simp [mput,e,h4 u],by simp [mdel,e,h5]⟩
theorem mdel_none {l:List (κ × Value)} {k:κ} (h:mget l k=none):mdel l k=l:=by
 induction l with
 | nil=>rfl
 | cons p r ih=>
  obtain ⟨k0,v0⟩:=p;simp only [mget] at h
  by_cases e:k0=k
  ·
   rw [if_pos e] at h;cases h
  rw [if_neg e] at h;simp [mdel,e,ih h]
theorem mget_del {l:List (κ × Value)} (hn:(l.map (·.1)).Nodup) (k k':κ):mget (mdel l k) k'=if k=k' then none else mget l k':=by
 induction l with
 | nil=>simp [mdel,mget]
 | cons p r ih=>
  obtain ⟨k0,v0⟩:=p;simp only [List.map_cons,List.nodup_cons] at hn;simp only [mdel]
  by_cases h:k0=k
  ·
   subst h;rw [if_pos rfl]
   by_cases h2:k0=k'
   ·
    subst h2;rw [if_pos rfl];exact mget_none.2 hn.1
   simp [mget,h2]
  rw [if_neg h];simp only [mget,ih hn.2]
  by_cases h2:k0=k'
  ·
   subst h2;rw [if_pos rfl,if_pos rfl,if_neg (fun e=>h e.symm)]
  simp [h2]
theorem mdel_sub (l:List (κ × Value)) (k:κ):(mdel l k).Sublist l:=by
 induction l with
 | nil=>simp [mdel]
 | cons p r ih=>
  obtain ⟨k0,v0⟩:=p;simp only [mdel]
  split
  ·
   exact List.sublist_cons_self _ _
  exact ih.cons_cons _
end
structure KK (P:Program) (kt:TypeId) {κ:Type} [DecidableEq κ] (enc:κ→Value):Prop where
 check:∀em k w,(Instr.checkKey em 10000 kt (enc k)).run P w=.ok () w
 find:∀(l:List (κ × Value)) (es:List MapEntry) k w,es.map (fun e=>(e.key,e.val))=l.map (fun p=>(enc p.1,p.2))→(Instr.findKey kt (enc k) es).run P w=.ok (midx l k 0) w
 same:∀k,Instr.sameBits 10000 (enc k) (enc k)=true
 inj:∀k k',enc k=enc k'→k=k'
def KM {κ:Type} (enc:κ→Value) (w:World) (b:Nat) (l:List (κ × Value)):Prop:=
 ∃es clock,w.heap[b]?=some (.map es clock)∧es.toList.map (fun e=>(e.key,e.val))=l.map (fun p=>(enc p.1,p.2))∧(l.map (·.1)).Nodup∧(∀e∈es.toList,e.born<clock)∧(es.toList.map (·.born)).Nodup
section
variable {κ:Type} [DecidableEq κ] {enc:κ→Value} {P:Program} {kt:TypeId} {w w':World} {b:Nat} {l:List (κ × Value)}
omit [DecidableEq κ] in
theorem KM.lt (h:KM enc w b l):b<w.heap.size:=by obtain ⟨es,c,h,_⟩:=h;exact (Array.getElem?_eq_some_iff.1 h).1
omit [DecidableEq κ] in
theorem KM.chg {S:List Nat} (h:KM enc w b l) (c:Chg S w w') (hS:b∉S):KM enc w' b l:=by
 obtain ⟨es,cl,h,r⟩:=h;exact ⟨es,cl,c.get h hS,r⟩
omit [DecidableEq κ] in
theorem KM.ext (h:KM enc w b l) (c:Chg [] w w'):KM enc w' b l:=h.chg c (by simp)
omit [DecidableEq κ] in
theorem KM.nodup (h:KM enc w b l):(l.map (·.1)).Nodup:=by obtain ⟨_,_,_,_,h,_⟩:=h;exact h
theorem chg_set (w:World) (b:Nat) (o:Obj):Chg [b] w {w with heap:=w.heap.setIfInBounds b o}:=
 ⟨rfl,rfl,rfl,by simp,Nat.le_refl _,fun k _ hk=>by simp at hk;simp [Array.getElem?_setIfInBounds_ne (fun e=>hk e.symm)]⟩
variable {n:Nat} {kv:KV} {K:KV→World→Prop}
variable {d:Tmp} {ty:TypeId} {pos:String} {af:Array Edge} {g:Option (Nat × Bool)} {T e:TypeId}
omit [DecidableEq κ] in
theorem OX.makeMap (enc:κ→Value) (hd:Nat.blt d n=true) (h:∀b w',New w w' b→KM enc w' b []→K ((d,.map (some b))::kv) w'):OX P ⟨some d,.makeMap T none,ty,pos,af,g⟩ n kv w K:=by
 refine ⟨rfl,hd,by simp [known,opers],?_⟩
 have hr:(execOp (lkO kv) ⟨some d,.makeMap T none,ty,pos,af,g⟩).run P w=.ok (.value (.map (some w.heap.size))) (w.alloc (.map #[] 0)):=by
  simp only [execOp,Instr.makeMap,Option.map_none];rfl
 rw [hr];exact h _ _ ⟨chg_alloc _ _,Nat.le_refl _,by simp⟩ ⟨#[],0,alloc_get _ _,by simp⟩
theorem run_look (hK:KK P kt enc) (hT:P.underlying T=some (.map kt e)) {z:Value} (hz:∀w,(zeroValue e).run P w=.ok z w) (hb:KM enc w b l) (k:κ) (ok:Bool) :
  (Instr.lookup T (.map (some b)) (enc k) ok).run P w=.ok (if ok then .tuple #[(mget l k).getD z,.bool (mget l k).isSome] else (mget l k).getD z) w:=by
 obtain ⟨es,clock,hm,he,_⟩:=hb;simp only [Instr.lookup,Sem.run_bind,run_underlying hT,Result.andThen_ok,MapKept.run_getObj_map hm,Sem.run_pure,hK.check,hK.find l es.toList k w he]
 cases hx:midx l k 0 with
 | none=>
  have:=(midx_none hx).1
  simp only [this]
  simp [hz w]
 | some p=>
  obtain ⟨j,v⟩:=p;obtain ⟨m,_,_,h3,_⟩:=midx_some hx;simp only [h3]
  simp
theorem PV.look (hK:KK P kt enc) (hT:P.underlying T=some (.map kt e)) {z:Value} (hz:∀w,(zeroValue e).run P w=.ok z w) (hb:KM enc w b l) {x y:Operand} {k:κ} (hx:ev kv x=some (.map (some b))) (hy:ev kv y=some (enc k)) :
  PV P (.lookup T x y false) ty kv w ((mget l k).getD z):=
 ⟨rfl,by simp [known,opers,hx,hy],fun _ _ _ _=>by simp only [execOp,lkO_of hx,lkO_of hy,Sem.run_bind,run_look hK hT hz hb k false,Result.andThen_ok];rfl⟩
theorem PV.lookOk (hK:KK P kt enc) (hT:P.underlying T=some (.map kt e)) {z:Value} (hz:∀w,(zeroValue e).run P w=.ok z w) (hb:KM enc w b l) {x y:Operand} {k:κ} (hx:ev kv x=some (.map (some b))) (hy:ev kv y=some (enc k)) :
  PV P (.lookup T x y true) ty kv w (.tuple #[(mget l k).getD z,.bool (mget l k).isSome]):=
 ⟨rfl,by simp [known,opers,hx,hy],fun _ _ _ _=>by simp only [execOp,lkO_of hx,lkO_of hy,Sem.run_bind,run_look hK hT hz hb k true,Result.andThen_ok];rfl⟩
omit [DecidableEq κ] in
theorem map_set_entries {u:Value} (es:Array MapEntry) (m:Nat) (k:κ) (v:Value) (f:MapEntry→MapEntry) (hf:∀e,(f e).key=enc k∧(f e).val=u∧(f e).born=e.born)
  (he:es.toList.map (fun e=>(e.key,e.val))=l.map (fun p=>(enc p.1,p.2))) (hm:l[m]?=some (k,v)) :
  (es.modify m f).toList.map (fun e=>(e.key,e.val))=(l.set m (k,u)).map (fun p=>(enc p.1,p.2))∧(es.modify m f).toList.map (·.born)=es.toList.map (·.born):=by
 have hlen:es.toList.length=l.length:=by simpa using congrArg List.length he
 have hml:m<l.length:=(List.getElem?_eq_some_iff.1 hm).1
 constructor
 ·
  apply List.ext_getElem?
  intro i;have hi:=congrArg (fun x=>x[i]?) he;simp only [List.getElem?_map,Array.getElem?_toList] at hi ⊢;rw [Array.getElem?_modify]
  by_cases e:m=i
  ·
   subst e
   have hms:m<es.size:=by simpa using (by omega:m<es.toList.length)
   simp [hml,hf,hms]
  simp [e,hi]
 apply List.ext_getElem?
 intro i;simp only [List.getElem?_map,Array.getElem?_toList];rw [Array.getElem?_modify]
 by_cases e:m=i
 ·
  subst e;rw [if_pos rfl]
  cases hx:es[m]? <;> simp [hf]
 simp [e]
theorem run_put (hK:KK P kt enc) (hT:P.underlying T=some (.map kt e)) (hb:KM enc w b l) (k:κ) (v:Value) :
  ∃w',(Instr.mapUpdate T (.map (some b)) (enc k) v).run P w=.ok () w'∧Chg [b] w w'∧KM enc w' b (mput l k v):=by
 obtain ⟨es,clock,hm,he,hn,hbo,hbn⟩:=hb;have hbs:b<w.heap.size:=(Array.getElem?_eq_some_iff.1 hm).1
 cases hx:midx l k 0 with
 | none=>
  obtain ⟨h1,h2⟩:=midx_none hx;refine ⟨_,?_,chg_set w b (.map (es.push {key:=enc k,val:=v,born:=clock}) (clock+1)),?_⟩
  ·
   simp only [Instr.mapUpdate,Sem.run_bind,run_underlying hT,Result.andThen_ok,MapKept.run_getObj_map hm,hK.check,hK.find l es.toList k w he,hx,MapKept.run_setObj_map _ hm]
  refine ⟨_,_,by first | (simp [hbs];done) | (simp [hbs];exact ⟨rfl,rfl⟩),?_,mput_nodup hn k v,?_,?_⟩
  ·
   rw [h2];simp [he]
  ·
   intro x hx
   simp at hx
   rcases hx with hx | rfl
   ·
    have:=hbo x (by simpa using hx);omega
   simp
  simp only [Array.toList_push,List.map_append,List.map_cons,List.map_nil];refine List.nodup_append.2 ⟨hbn,by simp,fun a ha c hc e=>?_⟩;simp only [List.mem_cons,List.not_mem_nil,or_false] at hc;obtain ⟨x,hx,rfl⟩:=List.mem_map.1 ha
  have:=hbo x hx
  omega
 | some p=>
  obtain ⟨j,v0⟩:=p;obtain ⟨m,h1,h2,h3,h4,_⟩:=midx_some hx
  have hjm:j=m:=by omega
  subst hjm
  have hkey:(((es[j]?).map (·.key)).getD (enc k))=enc k:=by
   have:=congrArg (fun x=>x[j]?) he
   simp only [List.getElem?_map,Array.getElem?_toList,h2,Option.map_some] at this
   cases hy:es[j]? with
   | none=>rfl
   | some y=>rw [hy] at this;simp at this;simp [this.1]
  refine ⟨_,?_,chg_set w b (.map (es.modify j fun e=>{e with key:=enc k,val:=v}) clock),?_⟩
  ·
   simp only [Instr.mapUpdate,Sem.run_bind,run_underlying hT,Result.andThen_ok,MapKept.run_getObj_map hm,hK.check,hK.find l es.toList k w he,hx,Instr.keyThatStays,hkey,hK.same,if_true,Sem.run_pure,MapKept.run_setObj_map _ hm]
  obtain ⟨h5,h6⟩:=map_set_entries (u:=v) es j k v0 (fun e=>{e with key:=enc k,val:=v}) (fun e=>⟨rfl,rfl,rfl⟩) he h2;refine ⟨_,_,by first | (simp [hbs];done) | (simp [hbs];exact ⟨rfl,rfl⟩),by rw [h4];exact h5,mput_nodup hn k v,?_,by rw [h6];exact hbn⟩;intro x hx
  have:x.born∈(es.modify j fun e=>{e with key:=enc k,val:=v}).toList.map (·.born):=List.mem_map.2 ⟨x,hx,rfl⟩
  rw [h6] at this;obtain ⟨y,hy,e⟩:=List.mem_map.1 this;rw [← e];exact hbo y hy
theorem OX.put (hK:KK P kt enc) (hT:P.underlying T=some (.map kt e)) (hb:KM enc w b l) {x y u:Operand} {k:κ} {v:Value} (hx:ev kv x=some (.map (some b))) (hy:ev kv y=some (enc k)) (hu:ev kv u=some v)
  (h:∀w',Chg [b] w w'→KM enc w' b (mput l k v)→K kv w'):OX P ⟨none,.mapUpdate T x y u,ty,pos,af,g⟩ n kv w K:=by
 obtain ⟨w',hr,h1,h2⟩:=run_put hK hT hb k v;refine ⟨rfl,rfl,by simp [known,opers,hx,hy,hu],?_⟩
 have hr':(execOp (lkO kv) ⟨none,.mapUpdate T x y u,ty,pos,af,g⟩).run P w=.ok .skip w':=by
  simp only [execOp,lkO_of hx,lkO_of hy,lkO_of hu,Sem.run_bind,hr,Result.andThen_ok];rfl
 rw [hr'];exact h _ h1 h2
theorem OX.ins (hK:KK P kt enc) (hT:P.underlying T=some (.map kt e)) (hb:KM enc w b l) {x y u:Operand} {k:κ} {v:Value} (hx:ev kv x=some (.map (some b))) (hy:ev kv y=some (enc k)) (hu:ev kv u=some v)
  (h:∀w',Chg [b] w w'→KM enc w' b (mput l k v)→K kv w'):OX P ⟨none,.insert T x y u,ty,pos,af,g⟩ n kv w K:=by
 obtain ⟨w',hr,h1,h2⟩:=run_put hK hT hb k v;refine ⟨rfl,rfl,by simp [known,opers,hx,hy,hu],?_⟩
 have hr':(execOp (lkO kv) ⟨none,.insert T x y u,ty,pos,af,g⟩).run P w=.ok .skip w':=by
  simp only [execOp,lkO_of hx,lkO_of hy,lkO_of hu,Sem.run_bind,hr,Result.andThen_ok];rfl
 rw [hr'];exact h _ h1 h2
theorem run_del (hK:KK P kt enc) (hT:P.underlying T=some (.map kt e)) (hb:KM enc w b l) (k:κ) (T2:TypeId) :
  ∃w',(Builtin.delete_ #[T,T2] ty #[.map (some b),enc k]).run P w=.ok (.tuple #[]) w'∧Chg [b] w w'∧KM enc w' b (mdel l k):=by
 obtain ⟨es,clock,hm,he,hn,hbo,hbn⟩:=hb;have hbs:b<w.heap.size:=(Array.getElem?_eq_some_iff.1 hm).1
 cases hx:midx l k 0 with
 | none=>
  obtain ⟨h1,h2⟩:=midx_none hx;refine ⟨_,?_,chg_set w b (.map es clock),?_⟩
  ·
   simp [Builtin.delete_,run_underlying hT,MapKept.run_getObj_map hm,hK.check,hK.find l es.toList k w he,hx,MapKept.run_setObj_map _ hm]
  rw [mdel_none h1];exact ⟨_,_,by first | (simp [hbs];done) | (simp [hbs];exact ⟨rfl,rfl⟩),he,hn,hbo,hbn⟩
 | some p=>
  obtain ⟨j,v0⟩:=p;obtain ⟨m,h1,h2,h3,_,h4⟩:=midx_some hx
  have hjm:j=m:=by omega
  subst hjm;refine ⟨_,?_,chg_set w b (.map (es.eraseIdxIfInBounds j) clock),?_⟩
  ·
   simp [Builtin.delete_,run_underlying hT,MapKept.run_getObj_map hm,hK.check,hK.find l es.toList k w he,hx,MapKept.run_setObj_map _ hm]
  have hes:(es.eraseIdxIfInBounds j).toList=es.toList.eraseIdx j:=by
   by_cases h:j<es.size
   ·
    simp [Array.eraseIdxIfInBounds,h]
   rw [List.eraseIdx_of_length_le (by simpa using h)];simp [Array.eraseIdxIfInBounds,h]
  refine ⟨_,_,by first | (simp [hbs];done) | (simp [hbs];exact ⟨rfl,rfl⟩),?_,?_,?_,?_⟩
  ·
   rw [hes,h4]
   have e1:∀{α β:Type} (f:α→β) (L:List α) (i:Nat),(L.eraseIdx i).map f=(L.map f).eraseIdx i:=fun f L=>by
    induction L with
    | nil=>intro i;rfl
    | cons x r ih=>intro i;cases i <;> simp [ih]
   rw [e1,e1,he]
  ·
   exact ((mdel_sub l k).map _).nodup hn
  ·
   intro x hx;rw [hes] at hx;exact hbo x (List.mem_of_mem_eraseIdx hx)
  rw [hes];exact ((List.eraseIdx_sublist _ _).map _).nodup hbn
theorem OX.del (hK:KK P kt enc) (hT:P.underlying T=some (.map kt e)) (hb:KM enc w b l) {x y:Operand} {k:κ} {T2:TypeId} (hx:ev kv x=some (.map (some b))) (hy:ev kv y=some (enc k))
  (h:∀w',Chg [b] w w'→KM enc w' b (mdel l k)→K kv w'):OX P ⟨none,.call {callee:=.builtin .delete,args:=#[x,y],argTypes:=#[T,T2]},ty,pos,af,g⟩ n kv w K:=by
 obtain ⟨w',hr,h1,h2⟩:=run_del (ty:=ty) hK hT hb k T2;refine ⟨rfl,rfl,by simp [known,opers,hx,hy],?_⟩
 have hr':(execOp (lkO kv) ⟨none,.call {callee:=.builtin .delete,args:=#[x,y],argTypes:=#[T,T2]},ty,pos,af,g⟩).run P w=.ok (.value (.tuple #[])) w':=by
  simp only [execOp,resolve,invoke,builtin,Sem.run_bind,Sem.run_pure,Result.andThen_ok,List.map_toArray,List.map_cons,List.map_nil,lkO_of hx,lkO_of hy,hr]
 rw [hr'];exact h _ h1 h2
end
/-! ### keys of whole numbers, and of structs of an int and a string -/
theorem KK_key {P:Program} {kt:TypeId} {f0 f1:Field} (hu:P.underlying kt=some (.struct #[f0,f1])) (hK:KeyT P kt) (hch:∀em (k:Key) w,(Instr.checkKey em 10000 kt k.val).run P w=.ok () w):KK P kt Key.val where
 check:=hch
 same k:=by
  have:∀n,Instr.sameBits (n+1) k.val k.val=true:=fun n=>by simp [Key.val,Instr.sameBits,MapKept.bytes_beq]
  exact this 9999
 inj k k' h:=by cases k;cases k';simpa [Key.val] using h
 find l es k w he:=by
  have hnow:∀(es:List MapEntry),es≠[]→(∃a,Instr.findNow (.struct #[f0,f1]) k.val es 0=a∧a=none):=by
   intro es hne
   cases es with
   | nil=>exact absurd rfl hne
   | cons x xs=>exact ⟨_,rfl,by simp [Instr.findNow,Instr.sameNow]⟩
  have key:∀(l:List (Key × Value)) (es:List MapEntry) (i:Nat),es.map (fun e=>(e.key,e.val))=l.map (fun p=>(p.1.val,p.2))→(Instr.findAsking kt k.val es i).run P w=.ok (midx l k i) w:=by
   intro l
   induction l with
   | nil=>
    intro es i he
    have:es=[]:=by simpa using he
    subst this;rfl
   | cons p r ih=>
    intro es i he
    cases es with
    | nil=>simp at he
    | cons x xs=>
     simp at he
     obtain ⟨⟨h1,h2⟩,h3⟩:=he
     have heq:(Op.equal kt k.val x.key).run P w=.ok (decide (k=p.1)) w:=by
      rw [h1]
      have:=hK.eq k.kind p.1.kind k.text p.1.text w
      simp only [Key.val]
      have e:(decide (k.kind=p.1.kind) && decide (k.text=p.1.text))=decide (k=p.1):=by
       obtain ⟨a,s⟩:=k;obtain ⟨q,_⟩:=p;obtain ⟨b,t⟩:=q;simp [Bool.decide_and]
      rw [e] at this;exact this
     simp only [Instr.findAsking,Sem.run_bind,heq,Result.andThen_ok,midx]
     by_cases e:k=p.1
     ·
      simp [e,h2]
     rw [if_neg (by simpa using e),if_neg (fun h=>e h.symm)];exact ih xs (i+1) h3
  simp only [Instr.findKey,Sem.run_bind,run_underlying hu,Result.andThen_ok]
  cases es with
  | nil=>
   have:l=[]:=by simpa using he.symm
   subst this;rfl
  | cons x xs=>
   obtain ⟨a,h1,h2⟩:=hnow (x::xs) (by simp);rw [h1,h2];exact key l _ 0 he
end Go.Rc

namespace Go.Rc
open Go
section
variable {α:Type} {A:Nat→Prop} {w w':World} {k n c:Nat} {a:Option Addr} {cs:List Value} {R:α→List Value→Prop} {xs:List α}
variable {P:Program} {N:Nat} {kv:KV} {K:KV→World→Prop}
variable {d:Tmp} {ty:TypeId} {pos:String} {af:Array Edge} {g:Option (Nat × Bool)} {T E:TypeId}
def dropA (a:Option Addr) (i k c:Nat):Option Addr:=if c=i then a else a.map fun x=>⟨x.block,x.off+i*k,x.spot⟩
theorem dropA_eq {i k c:Nat} (hs:∀x,a=some x→x.spot=none):(if c=i then a else a.map fun x=>x.add (i*k))=dropA a i k c:=by
 unfold dropA
 cases a with
 | none=>rfl
 | some x=>
  obtain ⟨b,o,s⟩:=x
  have:=hs _ rfl
  simp at this
  subst this
  simp [Addr.add_at]
theorem SL.spot (h:SL A w k a n c cs):∀x,a=some x→x.spot=none:=by
 intro x hx
 rcases h.at_ with ⟨rfl,_⟩ | ⟨b,o,rfl,_⟩
 ·
  cases hx
 simp at hx;subst hx;rfl
theorem SL.le_c (h:SL A w k a n c cs):n≤c:=by
 rcases h.at_ with ⟨_,rfl,rfl⟩ | ⟨_,_,_,h,_⟩
 ·
  omega
 exact h
theorem run_sliceH (hT:SlT P T E k) {i:Nat} (hi:i≤c) (hs:∀x,a=some x→x.spot=none):(Instr.sliceAt T (.slice a n c) none (some (.int .i64 (i:Int))) none).run P w=.ok (.slice a i c) w:=by
 have e:(if c=0 then a else a.map fun x=>x.add (0*k))=a:=by
  cases a with
  | none=>simp
  | some x=>obtain ⟨b,o,s⟩:=x;have:=hs _ rfl;simp at this;subst this;simp [Addr.add_at]
 simp only [Instr.sliceAt,Instr.slice,Sem.run_bind,run_underlying hT.und,Result.andThen_ok,Instr.sliceBounds,Sem.run_pure];rw [run_sliceBound (P:=P) _ _ _ _ _ (by omega) (by omega)];simp only [Result.andThen_ok,Int.toNat_natCast,Nat.sub_zero,hT.size w];rw [e]
theorem run_sliceL (hT:SlT P T E k) {i:Nat} (hi:i≤n) (hs:∀x,a=some x→x.spot=none):(Instr.sliceAt T (.slice a n c) (some (.int .i64 (i:Int))) none none).run P w=.ok (.slice (dropA a i k c) (n - i) (c - i)) w:=by
 simp only [Instr.sliceAt,Instr.slice,Sem.run_bind,run_underlying hT.und,Result.andThen_ok,Instr.sliceBounds,Sem.run_pure,Option.isSome_none,Bool.false_eq_true,if_false];rw [run_sliceBound (P:=P) _ _ _ _ _ (by omega) (by omega)];simp only [Result.andThen_ok,Int.toNat_natCast,hT.size w];rw [← dropA_eq hs]
theorem PV.sliceH (hT:SlT P T E k) {x y:Operand} {i:Nat} (h:SR A w k R a n c xs) (hx:ev kv x=some (.slice a n c)) (hy:ev kv y=some (.int .i64 (i:Int))) (hi:i≤n):PV P (.slice T x none (some y) none) ty kv w (.slice a i c):=by
 obtain ⟨_,rows,_,_,hs,_⟩:=h;refine ⟨rfl,by simp [known,opers,hx,hy],fun _ _ _ _=>?_⟩
 have:=hs.le_c
 simp only [execOp,lkO_of hx,lkO_of hy,Option.map_none,Option.map_some,Sem.run_bind,run_sliceH hT (show i≤c by omega) hs.spot,Result.andThen_ok];rfl
theorem PV.sliceL (hT:SlT P T E k) {x y:Operand} {i:Nat} (h:SR A w k R a n c xs) (hx:ev kv x=some (.slice a n c)) (hy:ev kv y=some (.int .i64 (i:Int))) (hi:i≤n):PV P (.slice T x (some y) none none) ty kv w (.slice (dropA a i k c) (n - i) (c - i)):=by
 obtain ⟨_,rows,_,_,hs,_⟩:=h;refine ⟨rfl,by simp [known,opers,hx,hy],fun _ _ _ _=>?_⟩;simp only [execOp,lkO_of hx,lkO_of hy,Option.map_none,Option.map_some,Sem.run_bind,run_sliceL hT hi hs.spot,Result.andThen_ok];rfl
theorem flatten_take:∀(rows:List (List Value)) (k i:Nat),(∀r∈rows,r.length=k)→i≤rows.length→(rows.take i).flatten=rows.flatten.take (i*k):=by
 intro rows
 induction rows with
 | nil=>intro k i _ h;simp at h;subst h;simp
 | cons x xs ih=>
  intro k i hk hi
  cases i with
  | zero=>simp
  | succ i=>
   have hx:x.length=k:=hk x (by simp);simp only [List.take_succ_cons,List.flatten_cons];have h1:x.take (i*k+k)=x:=List.take_of_length_le (by omega);rw [ih k i (fun r hr=>hk r (by simp [hr])) (by simpa using hi),List.take_append,Nat.succ_mul,h1]
   congr 2
   omega
theorem flatten_drop:∀(rows:List (List Value)) (k i:Nat),(∀r∈rows,r.length=k)→i≤rows.length→(rows.drop i).flatten=rows.flatten.drop (i*k):=by
 intro rows
 induction rows with
 | nil=>intro k i _ h;simp at h;subst h;simp
 | cons x xs ih=>
  intro k i hk hi
  cases i with
  | zero=>simp
  | succ i=>
   have hx:x.length=k:=hk x (by simp);simp only [List.drop_succ_cons,List.flatten_cons];have h1:x.drop (i*k+k)=[]:=List.drop_of_length_le (by omega);rw [ih k i (fun r hr=>hk r (by simp [hr])) (by simpa using hi),List.drop_append,Nat.succ_mul,h1];simp only [List.nil_append]
   congr 1
   omega
theorem SR.take (h:SR A w k R a n c xs) {i:Nat} (hi:i≤n):SR A w k R a i c (xs.take i):=by
 obtain ⟨hn,rows,hl,hk,hs,hx⟩:=h;refine ⟨by simp;omega,rows.take i,by simp [hl],fun r hr=>hk r (List.mem_of_mem_take hr),?_,?_⟩
 ·
  rw [flatten_take rows k i hk (by omega)];refine ⟨by rw [List.length_take,hs.len];exact Nat.min_eq_left (Nat.mul_le_mul_right _ hi),by have:=hs.le;omega,fun u hu=>hs.one u (List.mem_of_mem_take hu),?_⟩
  rcases hs.at_ with ⟨h1,h2,h3⟩ | ⟨b,o,h1,h2,h3,h4,h5,h6⟩
  ·
   exact .inl ⟨h1,by omega,h3⟩
  refine .inr ⟨b,o,h1,by omega,h3,h4,h5,fun j v hv=>h6 j v ?_⟩;rw [List.getElem?_take] at hv
  split at hv
  ·
   exact hv
  cases hv
 intro j x r h1 h2;rw [List.getElem?_take] at h1 h2
 split at h1
 ·
  rename_i h;rw [if_pos h] at h2;exact hx j x r h1 h2
 cases h1
theorem SR.drop (h:SR A w k R a n c xs) {i:Nat} (hi:i≤n):SR A w k R (dropA a i k c) (n - i) (c - i) (xs.drop i):=by
 obtain ⟨hn,rows,hl,hk,hs,hx⟩:=h;refine ⟨by simp;omega,rows.drop i,by simp [hl],fun r hr=>hk r (List.mem_of_mem_drop hr),?_,?_⟩
 ·
  rw [flatten_drop rows k i hk (by omega)];refine ⟨by rw [List.length_drop,hs.len,Nat.sub_mul],by have:=hs.le;omega,fun u hu=>hs.one u (List.mem_of_mem_drop hu),?_⟩
  rcases hs.at_ with ⟨h1,h2,h3⟩ | ⟨b,o,h1,h2,h3,h4,h5,h6⟩
  ·
   refine .inl ⟨?_,by omega,by omega⟩
   subst h1;unfold dropA;split <;> rfl
  by_cases e:c=i
  ·
   refine .inr ⟨b,o,by rw [dropA,if_pos e];exact h1,by omega,by omega,h4,h5,fun j v hv=>?_⟩
   have:n=i:=by omega
   have:(rows.flatten.drop (i*k))=[]:=List.drop_eq_nil_of_le (by rw [hs.len,this];exact Nat.le_refl _)
   rw [this] at hv;simp at hv
  refine .inr ⟨b,o+i*k,by rw [dropA,if_neg e,h1];rfl,by omega,by omega,h4,h5,fun j v hv=>?_⟩;rw [Nat.add_assoc];exact h6 (i*k+j) v (by simpa using hv)
 intro j x r h1 h2;rw [List.getElem?_drop] at h1 h2;exact hx _ x r h1 h2
theorem PV.fieldOf {f off:Nat} {fs:Array Field} {fd:Field} (hu:P.underlying T=some (.struct fs)) (hf:fs[f]?=some fd) (ho:fd.offset=off) (h1:∀w,(isAgg fd.type).run P w=.ok false w)
  {x:Operand} {us:List Value} {v:Value} (hx:ev kv x=some (.agg us.toArray)) (hv:us[off]?=some v):PV P (.field T x f) ty kv w v:=by
 subst ho;refine ⟨rfl,by simp [known,opers,hx],fun _ _ _ _=>?_⟩
 simp [execOp,lkO_of hx,Instr.field,run_underlying hu,hf,part,h1 w,asAgg,hv]
theorem PV.minI {x y:Operand} {p q:Int} {i:IntKind} {ats:Array TypeId} (hx:ev kv x=some (.int i p)) (hy:ev kv y=some (.int i q)):PV P (.call {callee:=.builtin .min,args:=#[x,y],argTypes:=ats}) ty kv w (.int i (min p q)):=by
 refine ⟨rfl,by simp [known,opers,hx,hy],fun _ _ _ _=>?_⟩;simp only [execOp,resolve,invoke,builtin,Sem.run_bind,Sem.run_pure,Result.andThen_ok,List.map_toArray,List.map_cons,List.map_nil,lkO_of hx,lkO_of hy]
 have:(if q<p then q else p)=min p q:=by rw [Int.min_def];split <;> split <;> omega
 simp [Builtin.min_,Builtin.min2,this]
theorem PV.maxI {x y:Operand} {p q:Int} {i:IntKind} {ats:Array TypeId} (hx:ev kv x=some (.int i p)) (hy:ev kv y=some (.int i q)):PV P (.call {callee:=.builtin .max,args:=#[x,y],argTypes:=ats}) ty kv w (.int i (max p q)):=by
 refine ⟨rfl,by simp [known,opers,hx,hy],fun _ _ _ _=>?_⟩;simp only [execOp,resolve,invoke,builtin,Sem.run_bind,Sem.run_pure,Result.andThen_ok,List.map_toArray,List.map_cons,List.map_nil,lkO_of hx,lkO_of hy]
 have:(if q > p then q else p)=max p q:=by rw [Int.max_def];split <;> split <;> omega
 simp [Builtin.max_,Builtin.max2,this]
theorem PV.func {fn:Fn} {fs cs:List Operand} {us vs:List Value} (hf:fs.map (ev kv)=us.map some) (hc:cs.map (ev kv)=vs.map some):PV P (.makeFunc fn fs.toArray cs.toArray) ty kv w (.func fn us.toArray vs.toArray):=by
 have key:∀(l:List Operand) (vs:List Value),l.map (ev kv)=vs.map some→l.map (lkO kv)=vs∧∀x∈l,(ev kv x).isSome=true:=by
  intro l
  induction l with
  | nil=>intro vs h;simp at h;simp [h]
  | cons x r ih=>
   intro vs h
   cases vs with
   | nil=>simp at h
   | cons v vs=>
    simp at h
    obtain ⟨h1,h2⟩:=ih vs h.2;exact ⟨by simp [lkO_of h.1,h1],fun y hy=>by rcases List.mem_cons.1 hy with rfl | hy;simp [h.1];exact h2 y hy⟩
 obtain ⟨h1,h2⟩:=key fs us hf;obtain ⟨h3,h4⟩:=key cs vs hc;refine ⟨rfl,?_,fun _ _ _ _=>?_⟩
 ·
  simp only [known,opers];simp only [List.all_eq_true];intro x hx
  simp at hx
  rcases hx with hx | hx
  ·
   exact h2 x hx
  exact h4 x hx
 simp only [execOp,Instr.makeFunc,List.map_toArray,h1,h3];rfl
end
/-! ### places in maps -/
def KE {κ:Type} (enc:κ→Value) (w:World) (b:Nat) (l:List (κ × Value)) (k:κ) (st:Nat):Prop:=
 ∃es clock,w.heap[b]?=some (Obj.map es clock)∧es.toList.map (fun e=>(e.key,e.val))=l.map (fun p=>(enc p.1,p.2))∧(l.map (·.1)).Nodup∧(∀e∈es.toList,e.born<clock)∧(es.toList.map (·.born)).Nodup∧
  ∃(m:Nat) (e:MapEntry) (v:Value),es.toList[m]?=some e∧e.born=st∧l[m]?=some (k,v)
section
variable {κ:Type} [DecidableEq κ] {enc:κ→Value} {P:Program} {kt:TypeId} {w w':World} {b:Nat} {l:List (κ × Value)}
variable {n:Nat} {kv:KV} {K:KV→World→Prop}
variable {d:Tmp} {ty:TypeId} {pos:String} {af:Array Edge} {g:Option (Nat × Bool)} {T e:TypeId}
omit [DecidableEq κ] in
theorem KE.km {k:κ} {st:Nat} (h:KE enc w b l k st):KM enc w b l:=by obtain ⟨es,c,h1,h2,h3,h4,h5,_⟩:=h;exact ⟨es,c,h1,h2,h3,h4,h5⟩
theorem mput_at:∀{l:List (κ × Value)} {m:Nat} {k:κ} {v:Value},(l.map (·.1)).Nodup→l[m]?=some (k,v)→∀u,mput l k u=l.set m (k,u):=by
 intro l
 induction l with
 | nil=>intro m k v _ h;simp at h
 | cons p r ih=>
  obtain ⟨k0,v0⟩:=p;intro m k v hn h u;simp only [List.map_cons,List.nodup_cons] at hn
  cases m with
  | zero=>simp at h;obtain ⟨rfl,rfl⟩:=h;simp [mput]
  | succ m=>
   simp at h
   have hne:k0≠k:=fun e=>hn.1 (by subst e;exact List.mem_map.2 ⟨_,List.mem_of_getElem? h,rfl⟩);simp only [mput,if_neg hne,List.set_cons_succ,ih hn.2 h u]
theorem run_ment (hK:KK P kt enc) (hT:P.underlying T=some (.map kt e)) {z:Value} (hz:∀w,(zeroValue e).run P w=.ok z w) (hb:KM enc w b l) (k:κ) :
  ∃(w':World) (st:Nat) (v:Value),(Instr.mapEntry T (.map (some b)) (enc k)).run P w=.ok (.tuple #[v,.int .i64 (st:Int)]) w'∧Chg [b] w w'∧w'.heap.size=w.heap.size∧KE enc w' b (mput l k ((mget l k).getD z)) k st:=by
 obtain ⟨es,clock,hm,he,hn,hbo,hbn⟩:=hb;have hbs:b<w.heap.size:=(Array.getElem?_eq_some_iff.1 hm).1
 have hlen:es.toList.length=l.length:=by simpa using congrArg List.length he
 cases hx:midx l k 0 with
 | none=>
  obtain ⟨h1,h2⟩:=midx_none hx;refine ⟨_,clock,z,?_,chg_set w b (.map (es.push {key:=enc k,val:=z,born:=clock}) (clock+1)),by simp,?_⟩
  ·
   simp only [Instr.mapEntry,Sem.run_bind,run_underlying hT,Result.andThen_ok,MapKept.run_getObj_map hm,hK.check,hK.find l es.toList k w he,hx,hz,MapKept.run_setObj_map _ hm]
   first | done | rfl
  refine ⟨_,_,by simp [hbs];exact ⟨rfl,rfl⟩,?_,mput_nodup hn k _,?_,?_,l.length,{key:=enc k,val:=z,born:=clock},z,?_,rfl,?_⟩
  ·
   rw [h2,h1];simp [he]
  ·
   intro x hx
   simp at hx
   rcases hx with hx | rfl
   ·
    have:=hbo x (by simpa using hx);omega
   simp
  ·
   simp only [Array.toList_push,List.map_append,List.map_cons,List.map_nil];refine List.nodup_append.2 ⟨hbn,by simp,fun a ha c hc e=>?_⟩;simp only [List.mem_cons,List.not_mem_nil,or_false] at hc;obtain ⟨x,hx,rfl⟩:=List.mem_map.1 ha
   have:=hbo x hx
   omega
  ·
   simp [← hlen]
  rw [h2,h1];simp
 | some p=>
  obtain ⟨j,v0⟩:=p;obtain ⟨m,h1,h2,h3,h4,_⟩:=midx_some hx
  have hjm:j=m:=by omega
  subst hjm
  have hjl:j<es.toList.length:=by have:=(List.getElem?_eq_some_iff.1 h2).1;omega
  have hkey:(((es[j]?).map (·.key)).getD (enc k))=enc k:=by
   have:=congrArg (fun x=>x[j]?) he
   simp only [List.getElem?_map,Array.getElem?_toList,h2,Option.map_some] at this
   cases hy:es[j]? with
   | none=>rfl
   | some y=>rw [hy] at this;simp at this;simp [this.1]
  have hvj:(es[j]'(by simpa using hjl)).val=v0:=by
   have:=congrArg (fun x=>x[j]?) he
   simp only [List.getElem?_map,Array.getElem?_toList,h2,Option.map_some] at this;rw [Array.getElem?_eq_getElem (by simpa using hjl)] at this
   simp at this
   exact this.2
  obtain ⟨h5,h6⟩:=map_set_entries (u:=v0) es j k v0 (fun e=>{e with key:=enc k,val:=v0}) (fun e=>⟨rfl,rfl,rfl⟩) he h2
  have hmod:(es.modify j fun e=>{e with key:=enc k})=es.modify j fun e=>{e with key:=enc k,val:=v0}:=by
   apply Array.ext_getElem?
   intro i;rw [Array.getElem?_modify,Array.getElem?_modify]
   by_cases e:j=i
   ·
    subst e;rw [if_pos rfl,if_pos rfl,Array.getElem?_eq_getElem (by simpa using hjl)];simp [← hvj]
   rw [if_neg e,if_neg e]
  refine ⟨_,((es[j]?).map (·.born)).getD 0,v0,?_,chg_set w b (.map (es.modify j fun e=>{e with key:=enc k}) clock),by simp,?_⟩
  ·
   simp only [Instr.mapEntry,Sem.run_bind,run_underlying hT,Result.andThen_ok,MapKept.run_getObj_map hm,hK.check,hK.find l es.toList k w he,hx,Instr.keyThatStays,hkey,hK.same,if_true,Sem.run_pure,MapKept.run_setObj_map _ hm];rw [Array.getElem?_eq_getElem (show j<es.size by simpa using hjl)]
   rfl
  rw [hmod];refine ⟨_,_,by simp [hbs];exact ⟨rfl,rfl⟩,by rw [h4,h3];exact h5,mput_nodup hn k _,?_,by rw [h6];exact hbn,j,{es[j]'(by simpa using hjl) with key:=enc k,val:=v0},v0,?_,?_,?_⟩
  ·
   intro x hx
   have:x.born∈(es.modify j fun e=>{e with key:=enc k,val:=v0}).toList.map (·.born):=List.mem_map.2 ⟨x,hx,rfl⟩
   rw [h6] at this;obtain ⟨y,hy,e⟩:=List.mem_map.1 this;rw [← e];exact hbo y hy
  ·
   rw [Array.getElem?_toList,Array.getElem?_modify,if_pos rfl,Array.getElem?_eq_getElem (by simpa using hjl)];rfl
  ·
   rw [Array.getElem?_eq_getElem (by simpa using hjl)];rfl
  rw [h4,List.getElem?_set,if_pos rfl,if_pos (by omega),h3];rfl
theorem OX.ment (hK:KK P kt enc) (hT:P.underlying T=some (.map kt e)) {z:Value} (hz:∀w,(zeroValue e).run P w=.ok z w) (hb:KM enc w b l) {x y:Operand} {k:κ} (hd:Nat.blt d n=true) (hx:ev kv x=some (.map (some b))) (hy:ev kv y=some (enc k))
  (h:∀(w':World) (st:Nat) (v:Value),Chg [b] w w'→w'.heap.size=w.heap.size→KE enc w' b (mput l k ((mget l k).getD z)) k st→K ((d,.tuple #[v,.int .i64 (st:Int)])::kv) w'):OX P ⟨some d,.mapEntry T x y,ty,pos,af,g⟩ n kv w K:=by
 obtain ⟨w',st,v,hr,h1,h2,h3⟩:=run_ment hK hT hz hb k;refine ⟨rfl,hd,by simp [known,opers,hx,hy],?_⟩
 have hr':(execOp (lkO kv) ⟨some d,.mapEntry T x y,ty,pos,af,g⟩).run P w=.ok (.value (.tuple #[v,.int .i64 (st:Int)])) w':=by
  simp only [execOp,lkO_of hx,lkO_of hy,Sem.run_bind,hr,Result.andThen_ok];rfl
 rw [hr'];exact h _ _ _ h1 h2 h3
theorem OX.estore {k:κ} {st:Nat} (hb:KE enc w b l k st) {x y u:Operand} {v:Value} (hx:ev kv x=some (.map (some b))) (hy:ev kv y=some (.int .i64 (st:Int))) (hu:ev kv u=some v)
  (h:∀w',Chg [b] w w'→w'.heap.size=w.heap.size→KM enc w' b (mput l k v)→K kv w'):OX P ⟨none,.entryStore T x y u,ty,pos,af,g⟩ n kv w K:=by
 obtain ⟨es,clock,hm,he,hn,hbo,hbn,m,en,v0,hme,hst,hlm⟩:=hb;have hbs:b<w.heap.size:=(Array.getElem?_eq_some_iff.1 hm).1
 have hmlt:m<es.size:=by have:=(List.getElem?_eq_some_iff.1 hme).1;simpa using this
 have hfi:es.findIdx? (fun e=>(e.born:Int) == (st:Int))=some m:=by
  rw [Array.findIdx?_eq_some_iff_getElem]
  have hem:es[m]=en:=by have:=hme;rw [Array.getElem?_toList,Array.getElem?_eq_getElem hmlt] at this;simpa using this
  refine ⟨hmlt,by simp [hem,hst],fun j hj=>?_⟩
  have hjlt:j<es.size:=by omega
  simp only [beq_iff_eq,Int.natCast_inj];intro e
  have h1:(es.toList.map (·.born))[j]?=some st:=by simp [hjlt,e]
  have h2:(es.toList.map (·.born))[m]?=some st:=by simp [hmlt,hem,hst]
  have:=(List.getElem?_inj (i:=j) (j:=m) (by simp [hjlt]) hbn).1 (h1.trans h2.symm)
  omega
 obtain ⟨h5,h6⟩:=map_set_entries (u:=v) es m k v0 (fun e=>{e with key:=enc k,val:=v}) (fun e=>⟨rfl,rfl,rfl⟩) he hlm
 have hkm:(es[m]).key=enc k:=by
  have:=congrArg (fun x=>x[m]?) he
  simp only [List.getElem?_map,Array.getElem?_toList,hlm,Option.map_some] at this;rw [Array.getElem?_eq_getElem hmlt] at this
  simp at this
  exact this.1
 have hmod:(es.modify m fun e=>{e with val:=v})=es.modify m fun e=>{e with key:=enc k,val:=v}:=by
  apply Array.ext_getElem?
  intro i;rw [Array.getElem?_modify,Array.getElem?_modify]
  by_cases e:m=i
  ·
   subst e;rw [if_pos rfl,if_pos rfl,Array.getElem?_eq_getElem hmlt];simp [← hkm]
  rw [if_neg e,if_neg e]
 refine ⟨rfl,rfl,by simp [known,opers,hx,hy,hu],?_⟩
 have hr':(execOp (lkO kv) ⟨none,.entryStore T x y u,ty,pos,af,g⟩).run P w=.ok .skip {w with heap:=w.heap.setIfInBounds b (.map (es.modify m fun e=>{e with val:=v}) clock)}:=by
  simp only [execOp,lkO_of hx,lkO_of hy,lkO_of hu,Sem.run_bind,Instr.entryStore,MapKept.run_getObj_map hm,Result.andThen_ok,asInt,asIntOf,Sem.run_pure,hfi,MapKept.run_setObj_map _ hm]
 rw [hr'];refine h _ (chg_set w b _) (by simp) ?_;rw [hmod];refine ⟨_,_,by simp [hbs];exact ⟨rfl,rfl⟩,by rw [mput_at hn hlm v];exact h5,mput_nodup hn k v,?_,by rw [h6];exact hbn⟩;intro x hx
 have:x.born∈(es.modify m fun e=>{e with key:=enc k,val:=v}).toList.map (·.born):=List.mem_map.2 ⟨x,hx,rfl⟩
 rw [h6] at this;obtain ⟨y,hy,e⟩:=List.mem_map.1 this;rw [← e];exact hbo y hy
end
end Go.Rc

namespace Go.Rc
open Go
section
variable {α:Type} {A:Nat→Prop} {w w':World} {k n c base:Nat} {a:Option Addr} {cs:List Value} {R:α→List Value→Prop} {xs:List α}
variable {P:Program} {N:Nat} {kv:KV} {K:KV→World→Prop}
variable {d:Tmp} {ty:TypeId} {pos:String} {af:Array Edge} {g:Option (Nat × Bool)} {T E:TypeId}
theorem PV.build' {z us:List Value} {places:List (Nat × Nat)} (hT:BT P T z places) {ps:List (Nat × Operand)} {vs:List (Nat × Value)} (hv:evParts kv ps=some vs) (hok:fillOk places z.length vs=true) (hu:fillV places z vs=us) :
  PV P (.build T ps.toArray) ty kv w (.agg us.toArray):=by subst hu;exact PV.build hT hv hok
theorem OX.bslice' {len:Nat} {z us:List Value} (hT:BS P T E k len z) {ps:List (Nat × Operand)} {vs:List (Nat × Value)} (hd:Nat.blt d N=true) (hv:evParts kv ps=some vs) (hok:bsOk k z.length vs=true) (hu:bsV k z vs=us)
  (h:∀b w',New w w' b→Blk w' b E us→K ((d,.slice (some ⟨b,0,none⟩) len len)::kv) w'):OX P ⟨some d,.buildSlice T len ps.toArray,ty,pos,af,g⟩ N kv w K:=by
 subst hu;exact OX.bslice hT hd hv hok h
theorem OL.blk {b m:Nat} {l:List Value} (h:Blk w b E l) (hb:base≤b) (hl:l.length=m*k) (h1:∀u∈l,u.oneCell'=true) (hm:m≤140737488355328):OL base w E k (some ⟨b,0,none⟩) m m l:=
 ⟨h1,hl,.inr ⟨b,m,l.toArray,rfl,hb,h,Nat.le_refl _,by simp [maxLen];omega,by simpa using hl,by rw [← hl];simp⟩⟩
theorem OR.blk1 {b:Nat} {l:List Value} {x:α} (h:Blk w b E l) (hb:base≤b) (hl:l.length=k) (h1:∀u∈l,u.oneCell'=true) (hR:R x l):OR base w E k R (some ⟨b,0,none⟩) 1 1 [x]:=
 ⟨rfl,[l],rfl,by simpa using hl,by simpa using OL.blk (k:=k) h hb (m:=1) (by simpa using hl) h1 (by omega),fun i y r h1 h2=>by
  cases i with
  | zero=>simp at h1 h2;subst h1 h2;exact hR
  | succ i=>simp at h1⟩
theorem OX.callV {f:FuncId} (hf:CF P f) {t:Tmp} {fs cs:Array Value} {xs:List Operand} {ats:Array TypeId} {args:List Value} (hd:Nat.blt d N=true) (ht:look kv t=some (.func (.func f) fs cs)) (hx:xs.map (ev kv)=args.map some)
  (h:Calls P f (fs++args.toArray++cs) w fun e w'=>∃v,e=.returned v∧K ((d,v)::kv) w'):OX P ⟨some d,.call {callee:=.value (.tmp t),args:=xs.toArray,argTypes:=ats},ty,pos,af,g⟩ N kv w K:=by
 have key:∀(l:List Operand) (vs:List Value),l.map (ev kv)=vs.map some→l.map (lkO kv)=vs∧∀x∈l,(ev kv x).isSome=true:=by
  intro l
  induction l with
  | nil=>intro vs h;simp at h;simp [h]
  | cons x r ih=>
   intro vs h
   cases vs with
   | nil=>simp at h
   | cons v vs=>
    simp at h
    obtain ⟨h1,h2⟩:=ih vs h.2;exact ⟨by simp [lkO_of h.1,h1],fun y hy=>by rcases List.mem_cons.1 hy with rfl | hy;simp [h.1];exact h2 y hy⟩
 obtain ⟨h1,h2⟩:=key xs args hx;have hev:ev kv (.tmp t)=some (.func (.func f) fs cs):=ht;refine ⟨rfl,hd,?_,?_⟩
 ·
  simp only [known,opers,List.all_eq_true];intro x hx
  simp at hx
  rcases hx with rfl | hx
  ·
   simp [hev]
  exact h2 x hx
 have hr:(execOp (lkO kv) ⟨some d,.call {callee:=.value (.tmp t),args:=xs.toArray,argTypes:=ats},ty,pos,af,g⟩).run P w=.ok (.enter f (fs++args.toArray++cs)) w:=by
  simp only [execOp,resolve,Deferred.ofValue,lkO_of hev,Sem.run_bind,List.map_toArray,h1]
  first
   | (simp only [Sem.run_pure,Result.andThen_ok,invoke];exact hf _ w)
   | (simp only [invoke];exact hf _ w)
 rw [hr];exact h
end
def Tab (P:Program) (A:Nat→Prop) (w:World):Prop:=(∃b,A b∧b<w.heap.size∧∀w',w'.heap[b]?=w.heap[b]?→Lib.TabIs P w' "internal/strconv.uint64pow10" .u64 Lib.pow10Tab)∧∀n,n = "strconv.ErrSyntax"∨n = "strconv.ErrRange"→∀g,P.globalNamed n=some g→A g∧g<w.heap.size∧∃ev:Value,(ev=.nilIface∨∃t p,ev=.iface t p)∧∀w':World,w'.heap[g]?=w.heap[g]?→w'.cell? ⟨g,0,none⟩=some ev
theorem Tab.err {P:Program} {A:Nat→Prop} {w:World} (h:Tab P A w) {n:String} (hn:n = "strconv.ErrSyntax"∨n = "strconv.ErrRange") {g:Nat} (hg:P.globalNamed n=some g):∃ev:Value,w.cell? ⟨g,0,none⟩=some ev∧(ev=.nilIface∨∃t p,ev=.iface t p):=by
 obtain ⟨_,_,ev,h1,h2⟩:=h.2 n hn g hg;exact ⟨ev,h2 w rfl,h1⟩
theorem Tab.of {P:Program} {A A':Nat→Prop} {w w':World} (h:Tab P A w) (hA:∀x,A x→A' x) (hs:w.heap.size≤w'.heap.size) (hb:∀x,A x→x<w.heap.size→w'.heap[x]?=w.heap[x]?):Tab P A' w':=by
 obtain ⟨⟨b,h1,h2,h3⟩,h4⟩:=h;refine ⟨⟨b,hA b h1,Nat.lt_of_lt_of_le h2 hs,fun w2 e=>h3 w2 (e.trans (hb b h1 h2))⟩,fun n hn g hg=>?_⟩;obtain ⟨h5,h6,ev,h7,h8⟩:=h4 n hn g hg;exact ⟨hA g h5,Nat.lt_of_lt_of_le h6 hs,ev,h7,fun w2 e=>h8 w2 (e.trans (hb g h5 h6))⟩
theorem Tab.chg {P:Program} {A:Nat→Prop} {w w':World} {S:List Nat} (h:Tab P A w) (c:Chg S w w') (hS:∀b∈S,¬A b):Tab P A w':=
 h.of (fun _ h=>h) c.size fun x hx hlt=>c.block x hlt fun hm=>hS x hm hx
theorem Tab.ext {P:Program} {A:Nat→Prop} {w w':World} (h:Tab P A w) (c:Chg [] w w'):Tab P A w':=h.chg c (by simp)
def itoa (n:Int):ByteArray:=⟨(Lib.itoa n).toArray⟩
end Go.Rc

namespace Go.Rc
open Go
def PL (P:Program):List Field→List (Nat × Nat)→Prop
 | [],[]=>True
 | f::fs,(o,s)::ps=>f.offset=o∧(∀w,(sizeOf f.type).run P w=.ok s w)∧PL P fs ps
 | _,_=>False
theorem PL_run {P:Program}:∀{fs:List Field} {ps:List (Nat × Nat)},PL P fs ps→∀w,(fs.mapM fun f=>(do pure (f.offset,← sizeOf f.type):Sem (Nat × Nat))).run P w=.ok ps w:=by
 intro fs
 induction fs with
 | nil=>intro ps h w;cases ps with
  | nil=>rfl
  | cons p r=>cases h
 | cons f fs ih=>
  intro ps h w
  cases ps with
  | nil=>cases h
  | cons p r=>
   obtain ⟨o,s⟩:=p;obtain ⟨h1,h2,h3⟩:=h;subst h1;simp only [List.mapM_cons,Sem.run_bind,h2 w,Result.andThen_ok,Sem.run_pure,ih h3 w]
theorem BT_of {P:Program} {T:TypeId} {v:Value} {z:List Value} {fs:List Field} {places:List (Nat × Nat)} (h1:∀w,(zeroValue T).run P w=.ok v w) (h2:v.cells=z.toArray) (h3:P.underlying T=some (.struct fs.toArray)) (h4:PL P fs places) :
  BT P T z places:=by
 refine ⟨⟨v,h1,h2⟩,fs.toArray,h3,fun w=>?_⟩
 have:=PL_run h4 w
 rw [List.mapM_toArray];rw [map_eq_pure_bind];simp only [Sem.run_bind,this,Result.andThen_ok]
 rfl
theorem check_key {P:Program} {T T0 T1:TypeId} {f0 f1:Field} (hu:P.underlying T=some (.struct #[f0,f1])) (ht0:f0.type=T0) (ht1:f1.type=T1) (ho0:f0.offset=0) (ho1:f1.offset=1)
  (h0:P.underlying T0=some (.int .i64)) (h1:P.underlying T1=some .string) (a0:∀w,(isAgg T0).run P w=.ok false w) (a1:∀w,(isAgg T1).run P w=.ok false w) :
  ∀em (k:Key) w,(Instr.checkKey em 10000 T k.val).run P w=.ok () w:=by
 intro em k w;subst ht0 ht1
 have r0:∀n v w,(Instr.checkKey em (n+1) f0.type (.int .i64 v)).run P w=.ok () w:=fun n v w=>by simp [Instr.checkKey,run_underlying h0]
 have r1:∀n v w,(Instr.checkKey em (n+1) f1.type (.string v)).run P w=.ok () w:=fun n v w=>by simp [Instr.checkKey,run_underlying h1]
 have key:∀n,(Instr.checkKey em (n+2) T k.val).run P w=.ok () w:=fun n=>by
  rw [show n+2=(n+1)+1 from rfl]
  unfold Instr.checkKey
  simp only [Key.val,Sem.run_bind,run_underlying hu,Result.andThen_ok]
  by_cases e0:f0.name = "_" <;> by_cases e1:f1.name = "_" <;> simp [part,a0,a1,ho0,ho1,r0 n,r1 n,e0,e1]
 exact key 9998
end Go.Rc
namespace Go.Rc
open Go
theorem AP_of {P:Program} {T E k bytes:Nat} {z:Value} (hu:P.underlying T=some (.slice E)) (hi:(P.info? E).map (fun i=>(i.zero,i.size,i.bytes))=some (some z,k,bytes)) (hz:z.cells.size=k) (hp:0<k):AP P T E k bytes:=by
 cases h:P.info? E with
 | none=>rw [h] at hi;cases hi
 | some i=>
  rw [h] at hi;simp only [Option.map_some,Option.some.injEq,Prod.mk.injEq] at hi;exact ⟨hu,⟨i,z,rfl.trans h,hi.1,hi.2.1,hi.2.2,hz⟩,hp⟩
end Go.Rc

namespace Go.Rc
open Go
class CFA (P:Program) (T f:Nat) (off:outParam Nat):Prop where
 h:FA P T f off
class CSl (P:Program) (T:Nat) (E k:outParam Nat):Prop where
 h:SlT P T E k
class CKey (P:Program) (T:Nat):Prop where
 h:KeyT P T
class CBT (P:Program) (T:Nat) (z:outParam (List Value)) (pl:outParam (List (Nat × Nat))):Prop where
 h:BT P T z pl
class CUnd (P:Program) (T:Nat) (d:outParam TypeDesc):Prop where
 h:P.underlying T=some d
class CCF (P:Program) (f:FuncId):Prop where
 h:CF P f
class CSz (P:Program) (T:Nat) (k:outParam Nat):Prop where
 h:(P.info? T).map (·.size)=some k
class CZV (P:Program) (T:Nat) (l:outParam (List Value)):Prop where
 h:ZV P T l
class CAP (P:Program) (T:Nat) (E k bytes:outParam Nat):Prop where
 h:AP P T E k bytes
theorem PV.zero {P:Program} {kv:KV} {w:World} {T ty:TypeId} {z:List Value} {pl:List (Nat × Nat)} (hT:BT P T z pl):PV P (.build T #[]) ty kv w (.agg z.toArray):=PV.build' (ps:=[]) (vs:=[]) hT rfl rfl rfl
end Go.Rc

namespace Go.Rc
def ringAt (l:List Rule) (i:Nat):Bool:=(l[i]?).any (·.ring)
def blockLo (l:List Rule):Nat→Nat
 | 0=>0
 | k+1=>if ringAt l k then blockLo l k else k+1
def hiFrom (l:List Rule) (m:Nat):Nat:=m+((l.drop m).takeWhile (·.ring)).length
def block (l:List Rule) (n:Int):Int × Int:=
 if n<0∨(l.length:Int)≤n then (0,0) else if ringAt l n.toNat then (blockLo l n.toNat,hiFrom l (n.toNat+1)) else (n,n+1)
theorem block_out (l:List Rule) (n:Int) (h:n<0∨l.length≤n):block l n=(0,0):=if_pos h
theorem getElem_some {α:Type} {l:List α} {i:Nat} (h:i<l.length):l[i]?=some l[i]:=by simp [h]
theorem ringAt_get {l:List Rule} {i:Nat} (h:i<l.length):ringAt l i=l[i].ring:=by simp [ringAt,h]
theorem hiFrom_step {l:List Rule} {m:Nat} (h:ringAt l m=true):hiFrom l m=hiFrom l (m+1):=by
 unfold ringAt at h
 have hm:m<l.length:=by
  rcases Nat.lt_or_ge m l.length with h' | h'
  ·
   exact h'
  rw [List.getElem?_eq_none h'] at h;simp at h
 rw [getElem_some hm] at h;simp only [Option.any_some] at h
 unfold hiFrom
 rw [List.drop_eq_getElem_cons hm,List.takeWhile_cons,if_pos h]
 simp;omega
theorem hiFrom_end {l:List Rule} {m:Nat} (h:ringAt l m=false):hiFrom l m=m:=by
 unfold hiFrom
 rcases Nat.lt_or_ge m l.length with hm | hm
 ·
  rw [ringAt_get hm] at h;rw [List.drop_eq_getElem_cons hm,List.takeWhile_cons,if_neg (by simp [h])]
  simp
 rw [List.drop_eq_nil_of_le hm];simp
theorem ringAt_out {l:List Rule} {m:Nat} (h:l.length≤m):ringAt l m=false:=by simp [ringAt,List.getElem?_eq_none h]
theorem blockLo_step {l:List Rule} {k:Nat} (h:ringAt l k=true):blockLo l (k+1)=blockLo l k:=by simp [blockLo,h]
theorem blockLo_end {l:List Rule} {k:Nat} (h:k=0∨ringAt l (k - 1)=false):blockLo l k=k:=by
 cases k with
 | zero=>rfl
 | succ k=>simp [blockLo] at *;intro h';rw [h'] at h;cases h
theorem tmod_emod (n m:Int):n.tmod m % m=n % m:=by
 have h:=Int.tmod_add_mul_tdiv n m
 have:n % m=(n.tmod m+m*n.tdiv m) % m:=by rw [h]
 rw [this,Int.add_mul_emod_self_left]
end Go.Rc
namespace Go.Rc
theorem below_succ {α:Type} {l:List α} {k:Nat} (hk:k<l.length) {P:Nat→α→Prop} (h:∀j x,j<k→l[j]?=some x→P j x) (hP:P k l[k]):∀j x,j<k+1→l[j]?=some x→P j x:=by
 intro j x hj hx
 rcases Nat.lt_or_ge j k with h1 | h1
 ·
  exact h j x h1 hx
 have e:j=k:=by omega
 subst e;rw [List.getElem?_eq_getElem hk] at hx
 simp at hx
 subst hx;exact hP
end Go.Rc

