/- Base of the proof: frames, memory, ownership, and the plain meaning of rule systems. Conditions: as each lemma says. -/
import Derived.Test.YtjpagoacbadijaaGreatDoorVBa
import Derived.Laws.StructEq
import Derived.Laws.OwnMore
import Derived.MapKept
import Derived.Maps.RangeRun
import Derived.Laws.Slices
import Derived.Lib.LaidTab
import Derived.Lib.ItoaNum
import Derived.Lib.ItoaMem
import Derived.Shelf.Small.Strs
set_option linter.all false
namespace Go.Rc
open Go
def nC:Nat→KV→KV
 | 0,kv=>kv
 | _+1,[]=>[]
 | k+1,_::r=>nC k r
def Dn(t:Nat):KV→Bool
 | []=>false
 | (s,_)::r=>match Nat.beq s t with
  | true=>true
  | false=>Dn t r
def r9:Nat→KV→KV→Bool
 | 0,_,_=>true
 | _+1,[],_=>true
 | k+1,(t,_)::r,kv=>match Dn t kv with
  | true=>false
  | false=>r9 k r kv
theorem ua{t:Nat}:∀{kv:KV},Dn t kv=false→look kv t=none:=by
 intro kv
 induction kv with
 | nil=>intro _;rfl
 | cons p r ih=>grind [Dn,look]
theorem Lv{t:Nat}{v:Value}:∀(k:Nat) (ot kv:KV),nC k ot=kv→r9 k ot kv=true→look kv t=some v→look ot t=some v:=by
 intro k
 induction k with
 | zero=>grind [nC]
 | succ k ih=>
  intro ot kv h hd hl
  cases ot with
  | nil=>grind [nC]
  | cons p r=>grind [nC,r9,Nat.eq_of_beq_eq_true,ua,look]
theorem Il{t:Nat}{v:Value}:∀(k:Nat) (ot kv:KV) {kve:KV},nC k ot=kv→r9 k ot kve=true→(∀s u,look kve s=some u→look kv s=some u)→look kve t=some v→look ot t=some v:=by
 intro k
 induction k with
 | zero=>grind [nC]
 | succ k ih=>
  intro ot kv kve h hd he hl
  cases ot with
  | nil=>grind [nC]
  | cons p r=>grind [nC,r9,Nat.eq_of_beq_eq_true,ua,look]
def kf(t:Nat):KV→KV
 | []=>[]
 | (s,v)::r=>match Nat.beq s t with
  | true=>kf t r
  | false=>(s,v)::kf t r
theorem FU{t:Nat}:∀{kv:KV},look (kf t kv) t=none:=by
 intro kv
 induction kv with
 | nil=>rfl
 | cons p r ih=>grind [kf,look]
theorem Im{t s:Nat}{u:Value}:∀{kv:KV},look (kf t kv) s=some u→look kv s=some u:=by
 intro kv
 induction kv with
 | nil=>intro h;cases h
 | cons p r ih=>grind [kf,Nat.eq_of_beq_eq_true,look,FU]
theorem Fr.drop{n:Nat}{a:Act}{ot kv:KV}(h:Fr n a ot) (k:Nat) (hd:nC k ot=kv) (hj:r9 k ot kv=true):Fr n a kv:=
 ⟨h.size,h.mE,fun t v hl=>h.val t v (Lv k ot kv hd hj hl)⟩
theorem Fr.add{n:Nat}{a:Act}{kv:KV}(h:Fr n a kv) {t:Nat}{v:Value}(hv:a.tmps.getD t undef=v):Fr n a ((t,v)::kv):=
 ⟨h.size,h.mE,fun s u hl=>by
  simp only [look] at hl
  cases hb:Nat.beq t s with
  | true=>simp_all
  | false=>rw [hb] at hl;exact h.val s u hl⟩
theorem Sub.nil{kv:KV}:Sub kv []:=trivial
theorem Sub.cons{kv r:KV}{t:Nat}{v:Value}(h:Rc.look kv t=some v) (hr:Sub kv r):Sub kv ((t,v)::r):=⟨h,hr⟩
theorem Sub.kN{kv r:KV}{t:Nat}{k:IntKind}{z z':Int}(h:Rc.look kv t=some (.int k z)) (hz:z=z') (hr:Sub kv r):Sub kv ((t,.int k z')::r):=⟨by rw [h,hz],hr⟩
theorem Sub.aaQ{kv r:KV}{t:Nat}{v v':Value}(h:Rc.look kv t=some v) (hz:v=v') (hr:Sub kv r):Sub kv ((t,v')::r):=⟨by rw [h,hz],hr⟩
section
variable {P:Program}{ops:Array Oper}{Q:Exit→Act→World→Prop}{n:Nat}{kv:KV}{w:World}
def wG(n t:Nat) (v:Value) (kv:KV) (J:World→Prop):Exit→Act→World→Prop:=fun e a w'=>e=.normal∧Fr n a ((t,v)::kv)∧J w'
theorem WC.mI{c:Code}{t:Nat}{v:Value}(J:World→Prop) (h:WC P c (wG n t v kv J) n kv w) (hJ:∀w',J w'→EX Q .normal n ((t,v)::kv) w'):WC P c Q n kv w:=
 fun a hF=>wp_mono (h a hF) fun e a' w' ⟨he,Nc,hj⟩=>by subst he;exact hJ w' hj a' Nc
theorem EX.aaR{ot:KV}{t:Nat}{v v':Value}{J:World→Prop}(k:Nat) (hd:nC k ot=kv) (hj:r9 k ot kv=true) (hv:look ot t=some v') (he:v'=v) (hJ:J w) :
  EX (wG n t v kv J) .normal n ot w:=fun _ hF=>⟨rfl,(hF.drop k hd hj).add (by rw [← he];exact hF.val t v' hv),hJ⟩
theorem WC.ou{c:Code}{t:Nat}{v:Value}(J:World→Prop) (h:WC P c (wG n t v (kf t kv) J) n kv w) (hJ:∀w',J w'→EX Q .normal n ((t,v)::kf t kv) w'):WC P c Q n kv w:=
 fun a hF=>wp_mono (h a hF) fun e a' w' ⟨he,Nc,hj⟩=>by subst he;exact hJ w' hj a' Nc
theorem EX.Vr{ot:KV}{t:Nat}{v v':Value}{J:World→Prop}(k:Nat) (hd:nC k ot=kv) (hj:r9 k ot (kf t kv)=true) (hv:look ot t=some v') (he:v'=v) (hJ:J w) :
  EX (wG n t v (kf t kv) J) .normal n ot w:=fun a hF=>⟨rfl,Fr.add ⟨hF.size,hF.mE,fun s u hl=>hF.val s u (Il k ot kv hd hj (fun s u h=>Im h) hl)⟩ (by rw [← he];exact hF.val t v' hv),hJ⟩
theorem WL.iZ{l:List Oper}{t:Nat}{b:Bool}(ht:look kv t=some (.bool b)) (hT:b=true→WL P ops Q l n ((t,.bool true)::kv) w) (hF:b=false→WL P ops Q l n ((t,.bool false)::kv) w) :
  WL P ops Q l n kv w:=fun a Nc=>by
 cases b
 ·
  exact hF rfl a (Nc.add (Nc.val t _ ht))
 exact hT rfl a (Nc.add (Nc.val t _ ht))
def qj(kv j8:KV):Prop:=∀t,look kv t=look j8 t
theorem qj.nN{kv j8:KV}(h:qj kv j8) (d:Option Tmp) (v:Value):qj (nN kv d v) (nN j8 d v):=by
 intro t
 cases d with
 | none=>exact h t
 | some d=>simp only [Rc.nN,look];cases Nat.beq d t <;> simp [h t]
theorem qj.ev{kv j8:KV}(h:qj kv j8) (x:Operand):ev kv x=ev j8 x:=by cases x <;> simp [Rc.ev,h _]
theorem qj.lX{kv j8:KV}(h:qj kv j8):lX kv=lX j8:=funext fun x=>by simp [Rc.lX,h.ev x]
theorem qj.known{kv j8:KV}(h:qj kv j8) (op:Op):known kv op=known j8 op:=by simp [Rc.known,h.ev]
theorem qj.gd{kv j8:KV}(h:qj kv j8) (ops:Array Oper) (o:Oper):gd ops kv o=gd ops j8 o:=by
 unfold Rc.gd
 cases o.guard with
 | none=>rfl
 | some g=>
  simp only
  cases (ops[g.1]?).bind (·.dst) with
  | none=>rfl
  | some t=>simp [h t]
theorem DW.aaS{n:Nat}{C:World→Prop}{T:Nat→World→World→Prop}{E:Nat→Option (Value→World→Prop)}{Fin:KV→World→Prop}(Re:∀kv j8 w,qj kv j8→Fin kv w→Fin j8 w) :
  ∀(l:List Oper) (i:Nat) (kv j8:KV) (F:mF),qj kv j8→DW P ops n C T E Fin i l kv F→DW P ops n C T E Fin i l j8 F:=by
 intro l
 induction l with
 | nil=>intro i kv j8 F h hd w hC hF;exact Re _ _ _ h (hd w hC hF)
 | cons o r ih=>
  intro i kv j8 F h hd;obtain⟨h1,h2,h3⟩:=hd;refine⟨h1,h2,?_⟩;rw [← h.gd,← h.known,← h.lX]
  rcases h3 with⟨a,b⟩ | ⟨a,b,c,e,d,f⟩ | ⟨a,b,S,c,d,f⟩
  ·
   exact .inl ⟨a,ih _ _ _ _ (h.nN _ _) b⟩
  ·
   exact .inr (.inl ⟨a,b,c,e,d,ih _ _ _ _ (h.nN _ _) f⟩)
  exact .inr (.inr ⟨a,b,S,c,d,fun v w hC hS=>ih _ _ _ _ (h.nN _ _) (f v w hC hS)⟩)
theorem qj.fr{a:Act}{kv j8:KV}(h:qj kv j8) (hF:Fr n a j8):Fr n a kv:=⟨hF.size,hF.mE,fun t v hv=>hF.val t v (by rw [← h t];exact hv)⟩
theorem DW.iZ{m i:Nat}{C:World→Prop}{T:Nat→World→World→Prop}{E:Nat→Option (Value→World→Prop)}{Dp:Array Oper}{l l':List Oper}{F:mF}{t:Nat}{b:Bool}
  (ht:look kv t=some (.bool b)) (hT:b=true→DW P ops m C T E (fun kv w=>WL P Dp Q l' n kv w) i l ((t,.bool true)::kv) F)
  (hF:b=false→DW P ops m C T E (fun kv w=>WL P Dp Q l' n kv w) i l ((t,.bool false)::kv) F):DW P ops m C T E (fun kv w=>WL P Dp Q l' n kv w) i l kv F:=by
 have key:∀c:Bool,look kv t=some (.bool c)→qj ((t,.bool c)::kv) kv:=fun c hc s=>by
  simp only [look]
  cases hb:Nat.beq t s with
  | true=>simp_all
  | false=>rfl
 have Re:∀(kv j8:KV) (w:World),qj kv j8→WL P Dp Q l' n kv w→WL P Dp Q l' n j8 w:=fun _ _ _ h hw a hF=>hw a (h.fr hF)
 cases b
 ·
  exact DW.aaS Re _ _ _ _ _ (key false ht) (hF rfl)
 exact DW.aaS Re _ _ _ _ _ (key true ht) (hT rfl)
theorem Io:∀{l:List (Nat × (Value→World→Prop))}{i S},dm l i=some S→∃p∈l,p.2=S:=by
 intro l
 induction l with
 | nil=>intro i S h;simp [dm] at h
 | cons p r ih=>grind [dm]
def StE(C:World→Prop) (T:Nat→World→World→Prop):List (Nat × (Value→World→Prop))→Prop
 | []=>True
 | (_,S)::r=>(∀j v w w',C w→C w'→T j w w'→S v w→S v w')∧StE C T r
theorem bK{C:World→Prop}{T:Nat→World→World→Prop}{l:List (Nat × (Value→World→Prop))}{ops:Array Oper}(h:StE C T l) :
  ∀i S,dm l i=some S→∀j S',dm l j=some S'→j≠i→j∉jI ops i→∀v w w',C w→C w'→T j w w'→S v w→S v w':=by
 intro i S hi j S' hj _ _;obtain⟨p,hp,hS⟩:=Io hi
 clear hi hj
 induction l with
 | nil=>cases hp
 | cons q r ih=>
  rcases List.mem_cons.1 hp with rfl | hp
  ·
   subst hS;exact h.1 j
  exact ih h.2 hp
def StP(C:World→Prop) (T:Nat→World→World→Prop) (ops:Array Oper) (i:Nat) (S:Value→World→Prop):List (Nat × (Value→World→Prop))→Prop
 | []=>True
 | (j,_)::r=>(match Nat.beq j i || l9 j (jI ops i) with
  | true=>True
  | false=>∀v w w',C w→C w'→T j w w'→S v w→S v w')∧StP C T ops i S r
def StQ(C:World→Prop) (T:Nat→World→World→Prop) (ops:Array Oper) (all:List (Nat × (Value→World→Prop))):List (Nat × (Value→World→Prop))→Prop
 | []=>True
 | (i,S)::r=>StP C T ops i S all∧StQ C T ops all r
theorem yF:∀{l:List (Nat × (Value→World→Prop))}{i S},dm l i=some S→(i,S)∈l:=by
 intro l
 induction l with
 | nil=>intro i S h;cases h
 | cons q r ih=>grind [dm,Nat.eq_of_beq_eq_true]
theorem NU{C:World→Prop}{T:Nat→World→World→Prop}{ops:Array Oper}{i:Nat}{S:Value→World→Prop}:∀{l:List (Nat × (Value→World→Prop))},StP C T ops i S l→
  ∀j S',(j,S')∈l→j≠i→j∉jI ops i→∀v w w',C w→C w'→T j w w'→S v w→S v w':=by
 intro l
 induction l with
 | nil=>intro _ j S' h;cases h
 | cons q r ih=>
  obtain⟨j',S''⟩:=q;intro h j S' hm kV wF
  rcases List.mem_cons.1 hm with e | hm
  ·
   simp at e
   obtain⟨rfl,_⟩:=e;have h1:=h.1
   grind [Nat.eq_of_beq_eq_true,kU]
  exact ih h.2 j S' hm kV wF
theorem NV{C:World→Prop}{T:Nat→World→World→Prop}{ops:Array Oper}{all:List (Nat × (Value→World→Prop))}:∀{l:List (Nat × (Value→World→Prop))},StQ C T ops all l→
  ∀i S,(i,S)∈l→StP C T ops i S all:=by
 intro l
 induction l with
 | nil=>intro _ i S h;cases h
 | cons q r ih=>
  obtain⟨i',S''⟩:=q;intro h i S hm
  rcases List.mem_cons.1 hm with e | hm
  ·
   simp at e;obtain⟨rfl,rfl⟩:=e;exact h.1
  exact ih h.2 i S hm
theorem ov{C:World→Prop}{T:Nat→World→World→Prop}{l:List (Nat × (Value→World→Prop))}{ops:Array Oper}(h:StQ C T ops l l) :
  ∀i S,dm l i=some S→∀j S',dm l j=some S'→j≠i→j∉jI ops i→∀v w w',C w→C w'→T j w w'→S v w→S v w':=
 fun i S hi j S' hj kV wF=>NU (NV h i S (yF hi)) j S' (yF hj) kV wF
theorem FM.j9{S:List Nat}{w0 w w':World}{b:Nat}(h:FM w w' b) (c:aV S w0 w):w0.heap.size≤b:=Nat.le_trans c.size h.ge
theorem aV.own{S:List Nat}{a w w':World}{b:Nat}(c:aV S a w) (s:aV [b] w w') (hb:a.heap.size≤b):aV S a w':=
 c.trans' s fun x hx=>.inr (by simp at hx;subst hx;exact hb)
theorem FM.ne{w w':World}{b x:Nat}(h:FM w w' b) (hx:x<w.heap.size):x≠b:=by have:=h.ge;omega
/-! ### results that lie in memory -/
inductive RS (P:Program) (kv:KV) (w:World):List ResultVar→List Value→Prop where
 | nil:RS P kv w [] []
 | tmp {t v r vs} (h:look kv t=some v) (hr:RS P kv w r vs):RS P kv w (.tmp t::r) (v::vs)
 | cell {t T k b us r vs} (hT:wE P T k) (h:look kv t=some (.pointer (some ⟨b,0,none⟩))) (hc:w.rangeAt b 0 us) (hl:us.length=k) (hr:RS P kv w r vs):RS P kv w (.cell t T::r) (.agg us.toArray::vs)
def Rf(tmps:Array Value):ResultVar→Sem Value
 | .tmp t=>pure (tmps.getD t undef)
 | .cell x t=>do loadVar t (← asAddr (tmps.getD x undef))
theorem FW{a:Act}(hF:Fr n a kv):∀{rs:List ResultVar}{vs:List Value},RS P kv w rs vs→(rs.mapM (Rf a.tmps)).run P w=.ok vs w:=by
 intro rs vs h
 induction h with
 | nil=>rfl
 | tmp h hr ih=>
  have:=hF.val _ _ h
  grind [Sem.run_bind,Rf,Sem.run_pure,Result.andThen_ok]
 | cell hT h hc hl hr ih=>
  have:=hF.val _ _ h
  obtain⟨de,hu,hrw⟩:=hT.row;have TN:=run_loadVar_mid (P:=P) w _ 0 _ _ de hc hu hrw (by rw [hT.2,hl])
  grind [Sem.run_bind,Rf,asAddr,Sem.run_pure,Result.andThen_ok]
theorem wH{fn:Func}{a:Act}(hF:Fr n a kv) {rs:List ResultVar}{vs:List Value}(hr:fn.results=rs.toArray) (h:RS P kv w rs vs) :
  (results fn a.tmps).run P w=.ok (if h:vs.toArray.size=1 then vs.toArray[0] else .tuple vs.toArray) w:=by
 have e:results fn a.tmps=(do let vs ← fn.results.mapM (Rf a.tmps);pure (if h:vs.size=1 then vs[0] else .tuple vs)):=rfl;rw [e,hr,List.mapM_toArray];simp only [Sem.run_bind,map_eq_pure_bind,FW hF h,Result.andThen_ok,Sem.run_pure]
theorem EX.iT{fn:Func}{R:Ending→World→Prop}{rs:List ResultVar}{vs:List Value}(hr:fn.results=rs.toArray) (h:RS P kv w rs vs) (hl:Nat.beq vs.length 1=false)
  (hR:R (.returned (.tuple vs.toArray)) w):EX (bodyPost P fn R) .ret n kv w:=fun a hF=>by
 refine⟨hF.mE,_,wH hF hr h,?_⟩
 have:¬vs.toArray.size=1:=fun e=>by simp at e;rw [e] at hl;cases hl
 rw [dif_neg this];exact hR
theorem EX.ag6{fn:Func}{R:Ending→World→Prop}{t T k b:Nat}{us:List Value}(hT:wE P T k) (hr:fn.results=#[.cell t T]) (ht:look kv t=some (.pointer (some ⟨b,0,none⟩))) (hc:w.rangeAt b 0 us) (hl:us.length=k)
  (hR:R (.returned (.agg us.toArray)) w):EX (bodyPost P fn R) .ret n kv w:=fun a hF=>
 ⟨hF.mE,_,wH hF (rs:=[.cell t T]) hr (.cell hT ht hc hl .nil),by simpa using hR⟩
end
end Go.Rc

namespace Go.Rc
open Go
structure SL (A:Nat→Prop) (w:World) (k:Nat) (a:Option Addr) (n c:Nat) (cs:List Value):Prop where
 len:cs.length=n*k
 le:n≤140737488355328
 one:∀u∈cs,u.oneCell'=true
 at_:(a=none∧n=0∧c=0)∨∃b o,a=some ⟨b,o,none⟩∧n≤c∧c≤maxLen∧A b∧b<w.heap.size∧w.rangeAt b o cs
variable {α:Type}{A:Nat→Prop}{w w':World}{k n c:Nat}{a:Option Addr}{cs:List Value}
theorem SL.nil(A:Nat→Prop) (w:World) (k:Nat):SL A w k none 0 0 []:=⟨by simp,by omega,by simp,.inl ⟨rfl,rfl,rfl⟩⟩
theorem SL.cW{S:List Nat}(h:SL A w k a n c cs) (hc:aV S w w') (hS:∀b∈S,¬A b):SL A w' k a n c cs:=by
 refine⟨h.len,h.le,h.one,?_⟩
 rcases h.at_ with h1 | ⟨b,o,h1,h2,h3,h4,h5,h6⟩
 ·
  exact .inl h1
 exact .inr ⟨b,o,h1,h2,h3,h4,Nat.lt_of_lt_of_le h5 hc.size,bH h6 hc fun hm=>hS b hm h4⟩
theorem SL.mono{A':Nat→Prop}(h:SL A w k a n c cs) (hA:∀b,A b→b<w.heap.size→A' b):SL A' w k a n c cs:=by
 refine⟨h.len,h.le,h.one,?_⟩
 rcases h.at_ with h1 | ⟨b,o,h1,h2,h3,h4,h5,h6⟩
 ·
  exact .inl h1
 exact .inr ⟨b,o,h1,h2,h3,hA b h4 h5,h5,h6⟩
def SR(A:Nat→Prop) (w:World) (k:Nat) (R:α→List Value→Prop) (a:Option Addr) (n c:Nat) (xs:List α):Prop:=
 n=xs.length∧∃rows:List (List Value),rows.length=xs.length∧(∀r∈rows,r.length=k)∧SL A w k a n c rows.flatten∧∀(i:Nat) x r,xs[i]?=some x→rows[i]?=some r→R x r
theorem qk:∀(rows:List (List Value)) (k i:Nat) (r:List Value),(∀r∈rows,r.length=k)→rows[i]?=some r→∀j v,r[j]?=some v→rows.flatten[i*k+j]?=some v:=by
 intro rows
 induction rows with
 | nil=>intro k i r _ h;simp at h
 | cons x xs ih=>
  intro k i r hk h j v hv;have hx:x.length=k:=hk x (by simp)
  cases i with
  | zero=>
   simp at h;subst h
   have hj:j<x.length:=(List.getElem?_eq_some_iff.1 hv).1;simp only [Nat.zero_mul,Nat.zero_add,List.flatten_cons];rw [List.getElem?_append_left hj];exact hv
  | succ i=>
   have:=ih k i r (fun r hr=>hk r (by simp [hr])) (by simpa using h) j v hv
   simp only [List.flatten_cons];rw [List.getElem?_append_right (by rw [hx,Nat.succ_mul];omega),hx,← this]
   congr 1
   rw [Nat.succ_mul];omega
theorem SR.at{R:α→List Value→Prop}{xs:List α}(h:SR A w k R a n c xs) {i:Nat}{x:α}(hi:xs[i]?=some x) :
  ∃b o r,a=some ⟨b,o,none⟩∧r.length=k∧R x r∧w.rangeAt b (o+i*k) r∧A b:=by
 obtain⟨hn,rows,hl,hk,hs,hR⟩:=h;have dZ:i<xs.length:=(List.getElem?_eq_some_iff.1 hi).1;obtain⟨r,hr⟩:∃r,rows[i]?=some r:=⟨rows[i],by simp [hl,dZ]⟩
 rcases hs.at_ with⟨_,h0,_⟩ | ⟨b,o,h1,_,_,h4,_,h6⟩
 ·
  omega
 exact⟨b,o,r,h1,hk r (List.mem_of_getElem? hr),hR i x r hi hr,sL h6 (i*k) r (qk rows k i r hk hr),h4⟩
theorem SR.cW{R R':α→List Value→Prop}{xs:List α}{S:List Nat}(h:SR A w k R a n c xs) (hc:aV S w w') (hS:∀b∈S,¬A b) (hR:∀x r,R x r→R' x r):SR A w' k R' a n c xs:=by
 obtain⟨hn,rows,hl,hk,hs,hx⟩:=h;exact⟨hn,rows,hl,hk,hs.cW hc hS,fun i x r h1 h2=>hR x r (hx i x r h1 h2)⟩
theorem SR.ext{R:α→List Value→Prop}{xs:List α}(h:SR A w k R a n c xs) (hc:aV [] w w'):SR A w' k R a n c xs:=h.cW hc (by simp) fun _ _ h=>h
theorem SR.mono{R R':α→List Value→Prop}{xs:List α}{A':Nat→Prop}(h:SR A w k R a n c xs) (hA:∀b,A b→b<w.heap.size→A' b) (hR:∀x r,R x r→R' x r):SR A' w k R' a n c xs:=by
 obtain⟨hn,rows,hl,hk,hs,hx⟩:=h;exact⟨hn,rows,hl,hk,hs.mono hA,fun i x r h1 h2=>hR x r (hx i x r h1 h2)⟩
theorem SR.nil(A:Nat→Prop) (w:World) (k:Nat) (R:α→List Value→Prop):SR A w k R none 0 0 []:=⟨rfl,[],rfl,by simp,SL.nil A w k,by simp⟩
theorem SR.le{R:α→List Value→Prop}{xs:List α}(h:SR A w k R a n c xs):n≤140737488355328:=by obtain⟨_,_,_,_,h,_⟩:=h;exact h.le
theorem SR.len{R:α→List Value→Prop}{xs:List α}(h:SR A w k R a n c xs):n=xs.length:=h.1
theorem PV.fO{P:Program}{kv:KV}{T E k:Nat}{ty:TypeId}{w:World}(hT:Cc P T E k) {x y:Operand}{a:Option Addr}{b o m c i:Nat}(ha:a=some ⟨b,o,none⟩) (hx:ev kv x=some (.slice a m c)) (hy:ev kv y=some (.int .i64 (i:Int))) (hi:i<m) :
  PV P (.indexAddr T x y) ty kv w (.pointer (some ⟨b,o+i*k,none⟩)):=by
 subst ha;exact PV.ix hT hx hy hi
theorem PV.Kk{P:Program}{kv:KV}{T E k:Nat}{ty:TypeId}{w:World}(hT:Cc P T E k) {x y:Operand}{a:Option Addr}{b o m c:Nat}{z:Int}(i:Nat) (ha:a=some ⟨b,o,none⟩) (hx:ev kv x=some (.slice a m c)) (hy:ev kv y=some (.int .i64 z)) (hz:z=(i:Int)) (hi:i<m) :
  PV P (.indexAddr T x y) ty kv w (.pointer (some ⟨b,o+i*k,none⟩)):=by
 subst ha hz;exact PV.ix hT hx hy hi
/-! things of a fixed shape -/
structure Key where
 kind:Int
 text:ByteArray
 deriving DecidableEq
instance:Inhabited Key:=⟨⟨0,⟨#[]⟩⟩⟩
def Key.cells(k:Key):List Value:=[.int .i64 k.kind,.string k.text]
def Key.val(k:Key):Value:=.agg #[.int .i64 k.kind,.string k.text]
def Dq(A:Nat→Prop) (w:World) (a:Option Addr) (n c:Nat) (l:List Key):Prop:=SR A w 2 (fun k r=>r=Key.cells k) a n c l
def Strs(A:Nat→Prop) (w:World) (a:Option Addr) (n c:Nat) (l:List ByteArray):Prop:=SR A w 1 (fun s r=>r=[.string s]) a n c l
structure Ask where
 cell:Bool
 pick:Bool
 n:Int
 Ip:Int
 deriving DecidableEq
def Ask.cells(x:Ask):List Value:=[.bool x.cell,.bool x.pick,.int .i64 x.n,.int .i64 x.Ip]
structure aG where
 ring:Bool
 asks:List Ask
 final:Int
 c:Int
 deriving DecidableEq
def FX(A:Nat→Prop) (w:World) (x:aG) (r:List Value):Prop:=
 ∃a n c,r=[.bool x.ring,.slice a n c,.int .i64 x.final,.int .i64 x.c]∧SR A w 4 (fun k r=>r=Ask.cells k) a n c x.asks
def ik(A:Nat→Prop) (w:World) (a:Option Addr) (n c:Nat) (l:List aG):Prop:=SR A w 4 (FX A w) a n c l
theorem Dq.cW{S:List Nat}{l:List Key}(h:Dq A w a n c l) (hc:aV S w w') (hS:∀b∈S,¬A b):Dq A w' a n c l:=SR.cW h hc hS fun _ _ h=>h
theorem Dq.ext{l:List Key}(h:Dq A w a n c l) (hc:aV [] w w'):Dq A w' a n c l:=Dq.cW h hc (by simp)
theorem Strs.cW{S:List Nat}{l:List ByteArray}(h:Strs A w a n c l) (hc:aV S w w') (hS:∀b∈S,¬A b):Strs A w' a n c l:=SR.cW h hc hS fun _ _ h=>h
theorem Strs.ext{l:List ByteArray}(h:Strs A w a n c l) (hc:aV [] w w'):Strs A w' a n c l:=Strs.cW h hc (by simp)
theorem FX.cW{S:List Nat}{x:aG}{r:List Value}(h:FX A w x r) (hc:aV S w w') (hS:∀b∈S,¬A b):FX A w' x r:=by
 obtain⟨a,n,c,h1,h2⟩:=h;exact⟨a,n,c,h1,h2.cW hc hS fun _ _ h=>h⟩
theorem ik.cW{S:List Nat}{l:List aG}(h:ik A w a n c l) (hc:aV S w w') (hS:∀b∈S,¬A b):ik A w' a n c l:=SR.cW h hc hS fun _ _ h=>h.cW hc hS
theorem ik.ext{l:List aG}(h:ik A w a n c l) (hc:aV [] w w'):ik A w' a n c l:=ik.cW h hc (by simp)
end Go.Rc

namespace Go.Rc
open Go
/-! ### literals -/
def FY:List Value→List Value→List Value
 | _::l,u::us=>u::FY l us
 | l,[]=>l
 | [],_::_=>[]
def putAt:List Value→Nat→List Value→List Value
 | l,0,us=>FY l us
 | [],_+1,_=>[]
 | x::l,n+1,us=>x::putAt l n us
def i6:Value→List Value
 | .agg cs=>cs.toList
 | v=>[v]
theorem rp(v:Value):v.cells.toList=i6 v:=by cases v <;> rfl
def Ch(places:List (Nat × Nat)):List Value→List (Nat × Value)→List Value
 | z,[]=>z
 | z,(i,v)::r=>match places[i]? with
  | none=>z
  | some (off,_)=>Ch places (putAt z off (i6 v)) r
def yG(places:List (Nat × Nat)):Nat→List (Nat × Value)→Bool
 | _,[]=>true
 | n,(i,v)::r=>match places[i]? with
  | none=>false
  | some (off,size)=>Nat.beq (i6 v).length size && Nat.ble (off+(i6 v).length) n && yG places n r
theorem NW:∀(us l:List Value),us.length≤l.length→FY l us=us++l.drop us.length:=by
 intro us
 induction us with
 | nil=>grind [FY]
 | cons u us ih=>
  intro l h
  cases l with
  | nil=>simp at h
  | cons x l=>grind [FY]
theorem ub:∀(n:Nat) (l us:List Value),n+us.length≤l.length→putAt l n us=l.take n++us++l.drop (n+us.length):=by
 intro n
 induction n with
 | zero=>grind [putAt,NW]
 | succ n ih=>
  intro l us h
  cases l with
  | nil=>simp at h
  | cons x l=>grind [putAt]
theorem Ci(us:List Value):∀(i off:Nat) (cells:Array Value),off+i+us.length≤cells.size→
  ((us.zipIdx i).foldl (fun cs (p:Value × Nat)=>cs.setIfInBounds (off+p.2) p.1) cells).toList=cells.toList.take (off+i)++us++cells.toList.drop (off+i+us.length):=by
 induction us with
 | nil=>intro i off cells _;simp
 | cons u us ih=>
  intro i off cells h;simp only [List.zipIdx_cons,List.foldl_cons];rw [ih (i+1) off _ (by simp at h ⊢;omega)]
  have dZ:off+i<cells.toList.length:=by simp at h ⊢;omega
  simp only [Array.toList_setIfInBounds];rw [List.take_set,List.drop_set,if_pos (by omega)];rw [show off+(i+1)=off+i+1 by omega,List.take_succ_eq_append_getElem dZ]
  have:(cells.toList.take (off+i)++[cells.toList[off+i]]).set (off+i) u=cells.toList.take (off+i)++[u]:=by
   rw [List.set_append_right _ _ (by simp;omega)]
   simp [show min (off+i) cells.size=off+i by simp at dZ;omega]
  grind
theorem fill_eq(places:List (Nat × Nat)):∀(parts:List (Nat × Value)) (cells:Array Value),yG places cells.size parts=true→
  Instr.fill (fun i:Nat=>places[i]?) cells parts=some (Ch places cells.toList parts).toArray:=by
 intro parts
 induction parts with
 | nil=>intro cells _;simp [Instr.fill,Ch]
 | cons p r ih=>
  obtain⟨i,v⟩:=p;intro cells h;simp only [yG] at h;simp only [Instr.fill,Ch]
  cases hp:places[i]? with
  | none=>rw [hp] at h;cases h
  | some q=>
   obtain⟨off,size⟩:=q;rw [hp] at h;simp only [Bool.and_eq_true] at h;obtain⟨⟨h1,h2⟩,h3⟩:=h;have e1:(i6 v).length=size:=Nat.eq_of_beq_eq_true h1;have e2:off+(i6 v).length≤cells.size:=Nat.le_of_ble_eq_true h2
   have hs:v.cells.size=(i6 v).length:=by rw [← rp];simp
   simp only
   rw [if_neg (by simp [hs,e1];omega)]
   have aaT:(v.cells.zipIdx.foldl (fun cs (c,j)=>cs.setIfInBounds (off+j) c) cells).toList=putAt cells.toList off (i6 v):=by
    rw [← Array.foldl_toList,Array.toList_zipIdx,rp]
    have:=Ci (i6 v) 0 off cells (by omega)
    simp only [Nat.add_zero] at this
    grind [ub]
   grind [Array.length_toList,ub]
structure BT (P:Program) (T:TypeId) (z:List Value) (places:List (Nat × Nat)):Prop where
 zero:∃v:Value,(∀w,(zeroValue T).run P w=.ok v w)∧v.cells=z.toArray
 Lq:∃fs:Array Field,P.underlying T=some (.struct fs)∧∀w,(fs.mapM fun f=>(do pure (f.offset,← sizeOf f.type):Sem (Nat × Nat))).run P w=.ok places.toArray w
section
variable {P:Program}{n:Nat}{kv:KV}{w:World}{K:KV→World→Prop}
variable {d:Tmp}{ty:TypeId}{pos:String}{af:Array Edge}{g:Option (Nat × Bool)}{T:TypeId}
def nD(kv:KV):List (Nat × Operand)→Option (List (Nat × Value))
 | []=>some []
 | (i,x)::r=>match ev kv x with
  | none=>none
  | some v=>match nD kv r with
   | none=>none
   | some vs=>some ((i,v)::vs)
theorem uc{kv:KV}:∀{ps:List (Nat × Operand)}{vs:List (Nat × Value)},nD kv ps=some vs→ps.map (fun p=>(p.1,lX kv p.2))=vs∧∀p∈ps,(ev kv p.2).isSome=true:=by
 intro ps
 induction ps with
 | nil=>grind [nD]
 | cons p r ih=>grind [nD,aK]
theorem PV.build{z:List Value}{places:List (Nat × Nat)}(hT:BT P T z places) {ps:List (Nat × Operand)}{vs:List (Nat × Value)}(hv:nD kv ps=some vs) (eV:yG places z.length vs=true) :
  PV P (.build T ps.toArray) ty kv w (.agg (Ch places z vs).toArray):=by
 obtain⟨⟨v,hz,hzc⟩,fs,hu,hm⟩:=hT;obtain⟨h1,h2⟩:=uc hv;refine⟨rfl,by simpa [known,opers] using h2,fun _ _ _ _=>?_⟩;have hf:=fill_eq places vs z.toArray (by simpa using eV)
 have e:(ps.toArray.map fun(i,x)=>(i,lX kv x)).toList=vs:=by rw [← h1];simp
 simp only [execOp,Instr.build,Sem.run_bind,hz w,Result.andThen_ok,run_underlying hu,hm w,e]
 simp_all
structure BS (P:Program) (T E k len:Nat) (z:List Value):Prop where
 Lq:P.underlying T=some (.slice E)
 size:∀w,(sizeOf E).run P w=.ok k w
 pos:len*k≠0
 small:len*k≤2 ^ 24
 zero:∃v:Value,(∀w,(zeroValue E).run P w=.ok v w)∧(Array.range (len*k)).map (v.cells[· % v.cells.size]!)=z.toArray
def NX(k:Nat):Nat→List (Nat × Value)→Bool
 | _,[]=>true
 | n,(i,v)::r=>Nat.beq (i6 v).length k && Nat.ble (i*k+(i6 v).length) n && NX k n r
def Vs(k:Nat):List Value→List (Nat × Value)→List Value
 | z,[]=>z
 | z,(i,v)::r=>Vs k (putAt z (i*k) (i6 v)) r
theorem aaU(k:Nat):∀(parts:List (Nat × Value)) (cells:Array Value),NX k cells.size parts=true→
  Instr.fill (fun i=>some (i*k,k)) cells parts=some (Vs k cells.toList parts).toArray:=by
 intro parts
 induction parts with
 | nil=>intro cells _;simp [Instr.fill,Vs]
 | cons p r ih=>
  obtain⟨i,v⟩:=p;intro cells h;simp only [NX,Bool.and_eq_true] at h;simp only [Instr.fill,Vs];obtain⟨⟨h1,h2⟩,h3⟩:=h;have e1:(i6 v).length=k:=Nat.eq_of_beq_eq_true h1;have e2:i*k+(i6 v).length≤cells.size:=Nat.le_of_ble_eq_true h2
  have hs:v.cells.size=(i6 v).length:=by rw [← rp];simp
  rw [if_neg (by simp [hs,e1];omega)]
  have aaT:(v.cells.zipIdx.foldl (fun cs (c,j)=>cs.setIfInBounds (i*k+j) c) cells).toList=putAt cells.toList (i*k) (i6 v):=by
   rw [← Array.foldl_toList,Array.toList_zipIdx,rp]
   have:=Ci (i6 v) 0 (i*k) cells (by omega)
   simp only [Nat.add_zero] at this
   grind [ub]
  grind [Array.length_toList,ub]
theorem OX.Vt{E k len:Nat}{z:List Value}(hT:BS P T E k len z) {ps:List (Nat × Operand)}{vs:List (Nat × Value)}(hd:Nat.blt d n=true) (hv:nD kv ps=some vs) (eV:NX k z.length vs=true)
  (h:∀b w',FM w w' b→cV w' b E (Vs k z vs)→K ((d,.slice (some ⟨b,0,none⟩) len len)::kv) w'):OX P ⟨some d,.buildSlice T len ps.toArray,ty,pos,af,g⟩ n kv w K:=by
 obtain⟨v,hz,hzc⟩:=hT.zero;obtain⟨h1,h2⟩:=uc hv;refine⟨rfl,hd,by simpa [known,opers] using h2,?_⟩;have hf:=aaU k vs z.toArray (by simpa using eV)
 have e:(ps.toArray.map fun(i,x)=>(i,lX kv x)).toList=vs:=by rw [← h1];simp
 have hr:(execOp (lX kv) ⟨some d,.buildSlice T len ps.toArray,ty,pos,af,g⟩).run P w=.ok (.value (.slice (some ⟨w.heap.size,0,none⟩) len len)) (w.alloc (.cells (Vs k z vs).toArray E)):=by
  have hs:=hT.small;simp only [execOp,Instr.buildSlice,Sem.run_bind,run_underlying hT.Lq,Result.andThen_ok,hT.size w,e];rw [if_neg (by omega),if_neg hT.pos];simp only [Sem.run_bind,hz w,Result.andThen_ok,Sem.run_pure,hzc,hf]
  rfl
 rw [hr];exact h _ _ ⟨mw _ _,Nat.le_refl _,by simp⟩ (oo _ _)
/-! ### bytes -/
theorem PV.Rg{x y:Operand}{s:ByteArray}{i:Nat}{b:UInt8}(hT:P.underlying T=some .string) (hx:ev kv x=some (.string s)) (hy:ev kv y=some (.int .i64 (i:Int))) (hi:s[i]?=some b) :
  PV P (.index T x y) ty kv w (.int .u8 (b.toNat:Int)):=
 ⟨rfl,by simp [known,opers,hx,hy],fun _ _ _ _=>by
  simp only [execOp,aK hx,aK hy,Instr.index]
  simp [asIntOf,run_underlying hT,hi]⟩
theorem PV.aaV{U:TypeId}{x y:Operand}{p q:Int}(hx:ev kv x=some (.int .u8 p)) (hy:ev kv y=some (.int .u8 q)) (h1:0≤p - q) (h2:p - q≤255) :
  PV P (.binOp .sub T x y U) ty kv w (.int .u8 (p - q)):=
 ⟨rfl,by simp [known,opers,hx,hy],fun _ _ _ _=>ff .sub (by simp) _ (by simp only [Op.intArith,IntWalk.u8_in _ ⟨h1,h2⟩];rfl) hx hy⟩
theorem PV.conv{U:TypeId}{x:Operand}{k:IntKind}{p:Int}(hT:∃de,P.underlying T=some de) (hU:P.underlying U=some (.int .i64)) (hx:ev kv x=some (.int k p)) (h1:-9223372036854775808≤p) (h2:p≤9223372036854775807) :
  PV P (.convert T U x) ty kv w (.int .i64 p):=by
 obtain⟨de,hT⟩:=hT;refine⟨rfl,by simp [known,opers,hx],fun _ _ _ _=>?_⟩;simp only [execOp,aK hx,convert,Sem.run_bind,run_underlying hT,Result.andThen_ok,run_underlying hU]
 simp [Conv.intToInt,rl h1 h2]
/-! ### keys compared -/
structure Ly (P:Program) (T:TypeId):Prop where
 eq:∀(a b:Int) (s t:ByteArray) (w:World),(Op.equalIn 10000 T (.agg #[.int .i64 a,.string s]) (.agg #[.int .i64 b,.string t])).run P w=.ok (decide (a=b) && decide (s=t)) w
 guard:P.eqGuardType P.depth T=false
theorem Rh{T0 T1:TypeId}{f0 f1:Field}(hu:P.underlying T=some (.struct #[f0,f1])) (sR:f0.type=T0) (Lz:f1.type=T1) (Vu:f0.offset=0) (Ri:f1.offset=1) (hn0:f0.name≠ "_") (hn1:f1.name≠ "_")
  (h0:P.underlying T0=some (.int .i64)) (h1:P.underlying T1=some .string) (a0:∀w,(isAgg T0).run P w=.ok false w) (a1:∀w,(isAgg T1).run P w=.ok false w)
  (hs:P.stoodInHeld T=false) (hg:P.eqGuardType P.depth T=false):Ly P T:=by
 refine⟨fun a b s t w=>?_,hg⟩;subst sR Lz
 have yh:P.fieldsOf T=#[f0,f1]:=by simp [Program.fieldsOf,hu]
 rw [show(10000:Nat)=9999+1 from rfl,run_equalIn_struct (P:=P) w 9999 T _ _ (by rw [yh];exact hu) hs,yh]
 have e:(s.toList == t.toList)=decide (s=t):=by
  by_cases e:s=t
  ·
   simp [e]
  grind [ByteArray.ext,Array.toList_inj,ByteArray.toList_eq]
 have e2:(a == b)=decide (a=b):=by by_cases h:a=b <;> simp [h]
 have r0:=run_equalIn_int (P:=P) w 9998 f0.type .i64 .i64 a b h0;have r1:=run_equalIn_string (P:=P) w 9998 f1.type s t h1;rw [e2] at r0;rw [e] at r1;rw [show(9998+1:Nat)=9999 from rfl] at r0 r1;simp only [Op.eqFields,Vu,Ri,part,Sem.run_bind,a0,a1,Result.andThen_ok]
 by_cases Vv:a=b
 ·
  subst Vv
  by_cases bJ:s=t
  ·
   simp_all
  simp_all
 simp_all
theorem PV.Kl(hT:Ly P T) {U:TypeId}{x y:Operand}{p q:Key}(hx:ev kv x=some p.val) (hy:ev kv y=some q.val) :
  PV P (.binOp .eql T x y U) ty kv w (.bool (decide (p=q))):=by
 refine⟨rfl,by simp [known,opers,hx,hy],fun _ _ _ _=>?_⟩
 have e:(decide (p.kind=q.kind) && decide (p.text=q.text))=decide (p=q):=by
  obtain⟨a,s⟩:=p;obtain⟨b,t⟩:=q;simp [Bool.decide_and]
 simp only [execOp,aK hx,aK hy,Key.val]
 simp [run_eqGuard_agg w .eql T _ _ _ _ hT.guard,run_eql_struct,hT.eq,e]
theorem PV.NY(hT:Ly P T) {U:TypeId}{x y:Operand}{p q:Key}(hx:ev kv x=some p.val) (hy:ev kv y=some q.val) :
  PV P (.binOp .neq T x y U) ty kv w (.bool (decide (p≠q))):=by
 refine⟨rfl,by simp [known,opers,hx,hy],fun _ _ _ _=>?_⟩
 have e:(decide (p.kind=q.kind) && decide (p.text=q.text))=decide (p=q):=by
  obtain⟨a,s⟩:=p;obtain⟨b,t⟩:=q;simp [Bool.decide_and]
 simp only [execOp,aK hx,aK hy,Key.val];simp only [Sem.run_bind,run_eqGuard_agg w .neq T _ _ _ _ hT.guard,run_neq_struct,hT.eq,e,Result.andThen_ok]
 by_cases h:p=q <;> simp [h]
end
end Go.Rc

namespace Go.Rc
open Go
def aI:Option Addr→List Nat
 | some a=>[a.block]
 | none=>[]
def OL(base:Nat) (w:World) (E k:Nat) (a:Option Addr) (n c:Nat) (cs:List Value):Prop:=
 (∀u∈cs,u.oneCell'=true)∧w.ownsRow base E k (.slice a n c) n cs
variable {α:Type}{A:Nat→Prop}{w w':World}{base E k n c:Nat}{a:Option Addr}{cs:List Value}
theorem OL.nil(base:Nat) (w:World) (E k:Nat):OL base w E k none 0 0 []:=⟨by simp,World.ownsRow_nil _ _ _ _⟩
theorem OL.cases(h:OL base w E k a n c cs):(a=none∧n=0∧c=0∧cs=[])∨∃g cur,a=some ⟨g,0,none⟩∧base≤g∧w.heap[g]?=some (.cells cur E (0,0))∧n≤c∧c≤maxLen∧cur.size=c*k∧cur.toList.take (n*k)=cs:=by
 rcases h.2.2 with⟨h1,h2⟩ | ⟨g,cap,cur,h1,h2⟩
 ·
  simp at h1;obtain⟨h1,h3,h4⟩:=h1
  exact .inl ⟨h1,h2,h4,List.eq_nil_of_length_eq_zero (by rw [h.2.1,h2];simp)⟩
 grind
theorem OL.lt(h:OL base w E k a n c cs):∀x∈aI a,x<w.heap.size:=by
 rcases h.cases with⟨rfl,_⟩ | ⟨g,cur,rfl,hb,hg,_⟩
 ·
  simp [aI]
 grind [aI]
theorem OL.sl(h:OL base w E k a n c cs) (hA:∀b,base≤b→A b) (hle:n≤140737488355328):SL A w k a n c cs:=by
 refine⟨h.2.1,hle,h.1,?_⟩
 rcases h.cases with⟨h1,h2,h3,_⟩ | ⟨g,cur,h1,h2,h3,h4,h5,h6,h7⟩
 ·
  exact .inl ⟨h1,h2,h3⟩
 refine .inr ⟨g,0,h1,h4,h5,hA g h2,(Array.getElem?_eq_some_iff.1 h3).1,fun j v hv=>?_⟩;rw [← h7,List.getElem?_take] at hv
 split at hv
 ·
  simp only [World.cell?,h3,Nat.zero_add];simpa using hv
 cases hv
theorem SL.blk{b e:Nat}{l:List Value}(h:cV w b e l) (hA:A b) (m:Nat) (hl:l.length=m*k) (h1:∀u∈l,u.oneCell'=true) (hm:m≤140737488355328):SL A w k (some ⟨b,0,none⟩) m m l:=
 ⟨hl,hm,h1,.inr ⟨b,0,rfl,Nat.le_refl _,by simp [maxLen];omega,hA,h.lt,h.range⟩⟩
/-! ### append -/
structure AP (P:Program) (T E k bytes:Nat):Prop where
 Lq:P.underlying T=some (.slice E)
 info:∃i z,P.info? E=some i∧i.zero=some z∧i.size=k∧i.bytes=bytes∧z.cells.size=k
 pos:0<k
theorem Dr{P:Program}{T bytes:Nat}(hT:AP P T E k bytes) {ty:TypeId}{xs news:List Value}(mJ:OL base w E k a n c xs) {a2:Option Addr}{m c2:Nat}{A:Nat→Prop}(hx:SL A w k a2 m c2 news)
  (lY:(n+m)*bytes≤140737488355328) (Iq:n+m≤140737488355328) (wI:base≤w.heap.size) :
  ∃a' c' w',(Builtin.append_ #[T,T] ty #[.slice a n c,.slice a2 m c2]).run P w=.ok (.slice a' (n+m) c') w'∧OL base w' E k a' (n+m) c' (xs++news)∧aV (aI a) w w'∧(∀x∈aI a',x∈aI a∨w.heap.size≤x)∧
   (a'=none→a=none∧m=0)∧(m=0→a'=a)∧(aV [] w w'∨(n+m≤c∧∃g,∃cur sS:Array Value,a=some ⟨g,0,none⟩∧w.heap[g]?=some (.cells cur E (0,0))∧w'.heap[g]?=some (.cells sS E (0,0))∧sS.size=cur.size∧cur.size=c*k∧sS.toList.take (n*k)=cur.toList.take (n*k))):=by
 obtain⟨i,z,hi,hz,rfl,rfl,hzs⟩:=hT.info;have hsz:=hT.pos
 have h1:∀u∈xs++news,u.oneCell'=true:=fun u hu=>by
  rcases List.mem_append.1 hu with h | h
  ·
   exact mJ.1 u h
  exact hx.one u h
 rcases hx.at_ with⟨rfl,rfl,rfl⟩ | ⟨b2,o2,rfl,hmc,apv,_,fl,yj⟩
 ·
  have hn:news=[]:=List.eq_nil_of_length_eq_zero (by rw [hx.len];simp);subst hn;refine⟨a,c,w,run_append_owned_none (P:=P) w base T ty E i i.size hT.Lq hi _ n xs mJ.2,by simpa using mJ,aV.refl _ _,fun x h=>.inl h,fun h=>⟨h,rfl⟩,fun _=>rfl,.inl (aV.refl _ _)⟩
 have TP:∀j u,news[j]?=some u→w.cell? ((⟨b2,o2,none⟩:Addr).add j)=some u:=fun j u hu=>by rw [Addr.yz];exact yj j u hu
 have hl:=hx.len
 have hlen:(xs++news).length=(n+m)*i.size:=by rw [List.length_append,mJ.2.1,hl,Nat.add_mul]
 have h1n:=hx.one;have grown:∀(vq:Nat),vq<n+m→
   OL base (w.drew.alloc (.cells (xs.toArray++news.toArray++Builtin.zeroCells z.cells (grownCap w (n+m) vq E - (n+m))) E)) E i.size
    (some ⟨w.heap.size,0,none⟩) (n+m) (grownCap w (n+m) vq E) (xs++news)∧
   ∀S,aV S w (w.drew.alloc (.cells (xs.toArray++news.toArray++Builtin.zeroCells z.cells (grownCap w (n+m) vq E - (n+m))) E)):=by
  intro vq ho;have qi:=grownCap_ge w (n+m) vq E;have Vw:grownCap w (n+m) vq E≤maxLen:=grownCap_le_maxLen w (n+m) vq E (by simp [maxLen];omega);refine⟨⟨h1,hlen,.inr ⟨w.heap.size,_,_,rfl,wI,heap_alloc_new w.drew _,qi,Vw,?_,?_⟩⟩,fun S=>⟨rfl,rfl,rfl,by simp,Nat.le_succ _,fun k hk _=>heap_alloc_old w.drew _ (h:=hk)⟩⟩
  ·
   simp only [Array.size_append,List.size_toArray,size_zeroCells,hzs,mJ.2.1,hl,← Nat.add_mul]
   congr 1
   omega
  grind
 rcases mJ.cases with⟨rfl,rfl,rfl,rfl⟩ | ⟨g,cur,rfl,Vx,hg,hnc,Vw,ZR,ana⟩
 ·
  by_cases hm:m=0
  ·
   subst hm;have hn:news=[]:=List.eq_nil_of_length_eq_zero (by simpa using hl);subst hn;refine⟨none,0,w,?_,OL.nil base w E i.size,aV.refl _ _,by simp [aI],by simp,fun _=>rfl,.inl (aV.refl _ _)⟩
   simp [Builtin.append_,run_underlying hT.Lq,sizeOf,typeInfo,hi,Builtin.lenOf,Builtin.firstCells,loadCells,loadCellsFrom]
  have hr:=run_append_nil (P:=P) w T ty E i z hT.Lq hi hz ⟨b2,o2,none⟩ m c2 news hl TP (by omega) (by omega) (by grind);have F0:=grown 0 (by omega);simp only [Nat.zero_add,List.nil_append,Array.empty_append] at F0 ⊢
  grind [aI]
 by_cases yH:n+m≤c
 ·
  have ag8:n*i.size+news.length≤cur.size:=by rw [hl,ZR,← Nat.add_mul];exact Nat.mul_le_mul_right _ yH
  have hr:=run_append_room (P:=P) w T ty E i hT.Lq hi g n c cur hg ⟨b2,o2,none⟩ m c2 news hl TP h1n yH ag8;refine⟨_,_,_,hr,⟨h1,hlen,.inr ⟨g,c,_,rfl,Vx,setRow_heap w g cur _ E _ hg,yH,Vw,?_,?_⟩⟩,oV w g _,fun x hx=>.inl hx,by simp,fun _=>rfl,.inr ⟨yH,g,cur,_,rfl,hg,setRow_heap w g cur _ E _ hg,?_,ZR,?_⟩⟩
  ·
   grind
  ·
   grind
  ·
   grind
  grind
 have holds:∀j u,xs[j]?=some u→w.cell? ((⟨g,0,none⟩:Addr).add j)=some u:=mJ.2.cells (g:=g) rfl
 grind [run_append_grow,AP.Lq,growslice_fits,aI]
def OR(base:Nat) (w:World) (E k:Nat) (R:α→List Value→Prop) (a:Option Addr) (n c:Nat) (xs:List α):Prop:=
 n=xs.length∧∃rows:List (List Value),rows.length=xs.length∧(∀r∈rows,r.length=k)∧OL base w E k a n c rows.flatten∧∀(i:Nat) x r,xs[i]?=some x→rows[i]?=some r→R x r
variable {R R':α→List Value→Prop}{xs ys:List α}
theorem OR.nil(base:Nat) (w:World) (E k:Nat) (R:α→List Value→Prop):OR base w E k R none 0 0 []:=⟨rfl,[],rfl,by simp,OL.nil _ _ _ _,by simp⟩
theorem OR.lt(h:OR base w E k R a n c xs):∀x∈aI a,x<w.heap.size:=by obtain⟨_,_,_,_,h,_⟩:=h;exact h.lt
theorem OR.len(h:OR base w E k R a n c xs):n=xs.length:=h.1
theorem SR.ek{b e:Nat}{l:List Value}{x:α}(h:cV w b e l) (hA:A b) (hl:l.length=k) (h1:∀u∈l,u.oneCell'=true) (hR:R x l):SR A w k R (some ⟨b,0,none⟩) 1 1 [x]:=
 ⟨rfl,[l],rfl,by simpa using hl,by grind [SL.blk],fun i y r h1 h2=>by grind⟩
section
variable {P:Program}{N:Nat}{kv:KV}{K:KV→World→Prop}
variable {d:Tmp}{ty:TypeId}{pos:String}{af:Array Edge}{g:Option (Nat × Bool)}{T bytes:Nat}
theorem OX.app(hT:AP P T E k bytes) {s x:Operand}{xs news:List Value}{a2:Option Addr}{m c2:Nat}(hd:Nat.blt d N=true) (hs:ev kv s=some (.slice a n c)) (hx:ev kv x=some (.slice a2 m c2))
  (mJ:OL base w E k a n c xs) (Ds:SL A w k a2 m c2 news) (lY:(n+m)*bytes≤140737488355328) (Iq:n+m≤140737488355328) (wI:base≤w.heap.size)
  (h:∀a' c' w',OL base w' E k a' (n+m) c' (xs++news)→aV (aI a) w w'→(∀x∈aI a',x∈aI a∨w.heap.size≤x)→(a'=none→a=none∧m=0)→K ((d,.slice a' (n+m) c')::kv) w') :
  OX P ⟨some d,.call {callee:=.builtin .append,args:=#[s,x],argTypes:=#[T,T]},ty,pos,af,g⟩ N kv w K:=by
 refine⟨rfl,hd,by simp [known,opers,hs,hx],?_⟩;obtain⟨a',c',w',hr,h1,h2,h3,h4,_⟩:=Dr hT (ty:=ty) mJ Ds lY Iq wI
 have jg:(execOp (lX kv) ⟨some d,.call {callee:=.builtin .append,args:=#[s,x],argTypes:=#[T,T]},ty,pos,af,g⟩).run P w=.ok (.value (.slice a' (n+m) c')) w':=by grind [execOp,resolve,invoke,builtin,Sem.run_bind,Sem.run_pure,Result.andThen_ok,aK]
 rw [jg];exact h _ _ _ h1 h2 h3 h4
theorem OX.ox(hT:AP P T E k bytes) {s x:Operand}{a2:Option Addr}{m c2:Nat}(hd:Nat.blt d N=true) (hs:ev kv s=some (.slice a n c)) (hx:ev kv x=some (.slice a2 m c2))
  (mJ:OR base w E k R a n c xs) (Ds:SR A w k R a2 m c2 ys) (lY:(n+m)*bytes≤140737488355328) (Iq:n+m≤140737488355328) (wI:base≤w.heap.size)
  (h:∀a' c' w',OR base w' E k R a' (n+m) c' (xs++ys)→aV (aI a) w w'→(∀x∈aI a',x∈aI a∨w.heap.size≤x)→(a'=none→a=none∧m=0)→K ((d,.slice a' (n+m) c')::kv) w') :
  OX P ⟨some d,.call {callee:=.builtin .append,args:=#[s,x],argTypes:=#[T,T]},ty,pos,af,g⟩ N kv w K:=by
 obtain⟨hn,rows,hl,hk,nj,ZS⟩:=mJ;obtain⟨Cj,F1,qm,nc,rq,sa⟩:=Ds
 refine OX.app hT hd hs hx nj rq lY Iq wI fun a' c' w' h1 h2 h3 h4=>h a' c' w' ⟨by simp [hn,Cj],rows++F1,by simp [hl,qm],?_,by simpa using h1,?_⟩ h2 h3 h4
 ·
  grind
 grind
end
end Go.Rc

namespace Go.Rc
open Go
section
variable {κ:Type} [DecidableEq κ]
def bX:List (κ × Value)→κ→Option Value
 | [],_=>none
 | (k',v)::r,k=>if k'=k then some v else bX r k
def dC:List (κ × Value)→κ→Value→List (κ × Value)
 | [],k,v=>[(k,v)]
 | (k',v')::r,k,v=>if k'=k then (k',v)::r else (k',v')::dC r k v
def jJ:List (κ × Value)→κ→List (κ × Value)
 | [],_=>[]
 | (k',v')::r,k=>if k'=k then r else (k',v')::jJ r k
def sT:List (κ × Value)→κ→Nat→Option (Nat × Value)
 | [],_,_=>none
 | (k',v)::r,k,i=>if k'=k then some (i,v) else sT r k (i+1)
theorem fy(l:List (κ × Value)) (k k':κ) (v:Value):bX (dC l k v) k'=if k=k' then some v else bX l k':=by
 induction l with
 | nil=>simp [dC,bX]
 | cons p r ih=>
  obtain⟨k0,v0⟩:=p;simp only [dC]
  by_cases h:k0=k
  ·
   subst h;simp only [if_true,bX];grind
  rw [if_neg h];simp only [bX,ih]
  grind
theorem Ck{l:List (κ × Value)}{k:κ}:bX l k=none↔k∉l.map (·.1):=by
 induction l with
 | nil=>simp [bX]
 | cons p r ih=>
  obtain⟨k0,v0⟩:=p;simp only [bX,List.map_cons,List.mem_cons,not_or]
  grind
theorem F2{l:List (κ × Value)}(hn:(l.map (·.1)).Nodup) {k:κ}{v:Value}:bX l k=some v↔(k,v)∈l:=by
 induction l with
 | nil=>simp [bX]
 | cons p r ih=>
  obtain⟨k0,v0⟩:=p;simp only [List.map_cons,List.nodup_cons] at hn;simp only [bX,List.mem_cons,Prod.mk.injEq]
  grind
theorem LA(l:List (κ × Value)) (k:κ) (v:Value):(dC l k v).map (·.1)=if k∈l.map (·.1) then l.map (·.1) else l.map (·.1)++[k]:=by
 induction l with
 | nil=>simp [dC]
 | cons p r ih=>
  obtain⟨k0,v0⟩:=p;simp only [dC]
  grind
theorem iq{l:List (κ × Value)}(hn:(l.map (·.1)).Nodup) (k:κ) (v:Value):((dC l k v).map (·.1)).Nodup:=by grind [LA]
theorem mx:∀{l:List (κ × Value)}{k:κ}{i:Nat},sT l k i=none→bX l k=none∧∀v,dC l k v=l++[(k,v)]:=by
 intro l
 induction l with
 | nil=>intro k i _;simp [bX,dC]
 | cons p r ih=>
  obtain⟨k0,v0⟩:=p;intro k i h;simp only [sT] at h
  by_cases e:k0=k
  ·
   rw [if_pos e] at h;cases h
  rw [if_neg e] at h
  grind [bX,dC]
theorem kW:∀{l:List (κ × Value)}{k:κ}{i j:Nat}{v:Value},sT l k i=some (j,v)→∃m,j=i+m∧l[m]?=some (k,v)∧bX l k=some v∧(∀u,dC l k u=l.set m (k,u))∧jJ l k=l.eraseIdx m:=by
 intro l
 induction l with
 | nil=>intro k i j v h;cases h
 | cons p r ih=>
  obtain⟨k0,v0⟩:=p;intro k i j v h;simp only [sT] at h
  by_cases e:k0=k
  ·
   subst e;rw [if_pos rfl] at h
   simp at h
   obtain⟨rfl,rfl⟩:=h;exact⟨0,rfl,rfl,by simp [bX],by simp [dC],by simp [jJ]⟩
  rw [if_neg e] at h;obtain⟨m,h1,h2,h3,h4,h5⟩:=ih h;exact⟨m+1,by omega,by simpa using h2,by simp [bX,e,h3],fun u=>by simp [dC,e,h4 u],by simp [jJ,e,h5]⟩
theorem LD{l:List (κ × Value)}{k:κ}(h:bX l k=none):jJ l k=l:=by
 induction l with
 | nil=>rfl
 | cons p r ih=>
  obtain⟨k0,v0⟩:=p;simp only [bX] at h
  by_cases e:k0=k
  ·
   rw [if_pos e] at h;cases h
  rw [if_neg e] at h;simp [jJ,e,ih h]
theorem F3{l:List (κ × Value)}(hn:(l.map (·.1)).Nodup) (k k':κ):bX (jJ l k) k'=if k=k' then none else bX l k':=by
 induction l with
 | nil=>simp [jJ,bX]
 | cons p r ih=>
  obtain⟨k0,v0⟩:=p;simp only [List.map_cons,List.nodup_cons] at hn;simp only [jJ]
  by_cases h:k0=k
  ·
   subst h;rw [if_pos rfl]
   by_cases h2:k0=k'
   ·
    subst h2;rw [if_pos rfl];exact Ck.2 hn.1
   simp [bX,h2]
  rw [if_neg h];simp only [bX,ih hn.2]
  grind
theorem NZ(l:List (κ × Value)) (k:κ):(jJ l k).Sublist l:=by
 induction l with
 | nil=>simp [jJ]
 | cons p r ih=>grind [jJ]
end
structure KK (P:Program) (kt:TypeId) {κ:Type} [DecidableEq κ] (enc:κ→Value):Prop where
 check:∀em k w,(Instr.checkKey em 10000 kt (enc k)).run P w=.ok () w
 find:∀(l:List (κ × Value)) (es:List MapEntry) k w,es.map (fun e=>(e.key,e.val))=l.map (fun p=>(enc p.1,p.2))→(Instr.findKey kt (enc k) es).run P w=.ok (sT l k 0) w
 same:∀k,Instr.sameBits 10000 (enc k) (enc k)=true
 inj:∀k k',enc k=enc k'→k=k'
def KM{κ:Type}(enc:κ→Value) (w:World) (b:Nat) (l:List (κ × Value)):Prop:=
 ∃es clock,w.heap[b]?=some (.map es clock)∧es.toList.map (fun e=>(e.key,e.val))=l.map (fun p=>(enc p.1,p.2))∧(l.map (·.1)).Nodup∧(∀e∈es.toList,e.born<clock)∧(es.toList.map (·.born)).Nodup
section
variable {κ:Type} [DecidableEq κ] {enc:κ→Value}{P:Program}{kt:TypeId}{w w':World}{b:Nat}{l:List (κ × Value)}
omit [DecidableEq κ] in
theorem KM.lt(h:KM enc w b l):b<w.heap.size:=by obtain⟨es,c,h,_⟩:=h;grind
omit [DecidableEq κ] in
theorem KM.cW{S:List Nat}(h:KM enc w b l) (c:aV S w w') (hS:b∉S):KM enc w' b l:=by
 obtain⟨es,cl,h,r⟩:=h;exact⟨es,cl,c.get h hS,r⟩
omit [DecidableEq κ] in
theorem KM.ext(h:KM enc w b l) (c:aV [] w w'):KM enc w' b l:=h.cW c (by simp)
omit [DecidableEq κ] in
theorem KM.nodup(h:KM enc w b l):(l.map (·.1)).Nodup:=by obtain⟨_,_,_,_,h,_⟩:=h;exact h
theorem kg(w:World) (b:Nat) (o:Obj):aV [b] w {w with heap:=w.heap.setIfInBounds b o}:=
 ⟨rfl,rfl,rfl,by simp,Nat.le_refl _,fun k _ hk=>by grind⟩
variable {n:Nat}{kv:KV}{K:KV→World→Prop}
variable {d:Tmp}{ty:TypeId}{pos:String}{af:Array Edge}{g:Option (Nat × Bool)}{T e:TypeId}
omit [DecidableEq κ] in
theorem OX.makeMap(enc:κ→Value) (hd:Nat.blt d n=true) (h:∀b w',FM w w' b→KM enc w' b []→K ((d,.map (some b))::kv) w'):OX P ⟨some d,.makeMap T none,ty,pos,af,g⟩ n kv w K:=by
 refine⟨rfl,hd,by simp [known,opers],?_⟩
 have hr:(execOp (lX kv) ⟨some d,.makeMap T none,ty,pos,af,g⟩).run P w=.ok (.value (.map (some w.heap.size))) (w.alloc (.map #[] 0)):=by
  simp only [execOp,Instr.makeMap,Option.map_none];rfl
 rw [hr];exact h _ _ ⟨mw _ _,Nat.le_refl _,by simp⟩ ⟨#[],0,oo _ _,by simp⟩
theorem F4(hK:KK P kt enc) (hT:P.underlying T=some (.map kt e)) {z:Value}(hz:∀w,(zeroValue e).run P w=.ok z w) (hb:KM enc w b l) (k:κ) (ok:Bool) :
  (Instr.lookup T (.map (some b)) (enc k) ok).run P w=.ok (if ok then .tuple #[(bX l k).getD z,.bool (bX l k).isSome] else (bX l k).getD z) w:=by
 obtain⟨es,clock,hm,he,_⟩:=hb;simp only [Instr.lookup,Sem.run_bind,run_underlying hT,Result.andThen_ok,MapKept.run_getObj_map hm,Sem.run_pure,hK.check,hK.find l es.toList k w he]
 cases hx:sT l k 0 with
 | none=>
  have:=(mx hx).1
  simp only [this]
  simp [hz w]
 | some p=>
  obtain⟨j,v⟩:=p;obtain⟨m,_,_,h3,_⟩:=kW hx;simp only [h3]
  simp
theorem PV.look(hK:KK P kt enc) (hT:P.underlying T=some (.map kt e)) {z:Value}(hz:∀w,(zeroValue e).run P w=.ok z w) (hb:KM enc w b l) {x y:Operand}{k:κ}(hx:ev kv x=some (.map (some b))) (hy:ev kv y=some (enc k)) :
  PV P (.lookup T x y false) ty kv w ((bX l k).getD z):=
 ⟨rfl,by simp [known,opers,hx,hy],fun _ _ _ _=>by simp only [execOp,aK hx,aK hy,Sem.run_bind,F4 hK hT hz hb k false,Result.andThen_ok];rfl⟩
theorem PV.vw(hK:KK P kt enc) (hT:P.underlying T=some (.map kt e)) {z:Value}(hz:∀w,(zeroValue e).run P w=.ok z w) (hb:KM enc w b l) {x y:Operand}{k:κ}(hx:ev kv x=some (.map (some b))) (hy:ev kv y=some (enc k)) :
  PV P (.lookup T x y true) ty kv w (.tuple #[(bX l k).getD z,.bool (bX l k).isSome]):=
 ⟨rfl,by simp [known,opers,hx,hy],fun _ _ _ _=>by simp only [execOp,aK hx,aK hy,Sem.run_bind,F4 hK hT hz hb k true,Result.andThen_ok];rfl⟩
omit [DecidableEq κ] in
theorem lZ{u:Value}(es:Array MapEntry) (m:Nat) (k:κ) (v:Value) (f:MapEntry→MapEntry) (hf:∀e,(f e).key=enc k∧(f e).val=u∧(f e).born=e.born)
  (he:es.toList.map (fun e=>(e.key,e.val))=l.map (fun p=>(enc p.1,p.2))) (hm:l[m]?=some (k,v)) :
  (es.modify m f).toList.map (fun e=>(e.key,e.val))=(l.set m (k,u)).map (fun p=>(enc p.1,p.2))∧(es.modify m f).toList.map (·.born)=es.toList.map (·.born):=by
 have hlen:es.toList.length=l.length:=by simpa using congrArg List.length he
 have jD:m<l.length:=(List.getElem?_eq_some_iff.1 hm).1
 constructor
 ·
  apply List.ext_getElem?
  intro i;have hi:=congrArg (fun x=>x[i]?) he
  grind
 apply List.ext_getElem?
 grind
theorem Km(hK:KK P kt enc) (hT:P.underlying T=some (.map kt e)) (hb:KM enc w b l) (k:κ) (v:Value) :
  ∃w',(Instr.mapUpdate T (.map (some b)) (enc k) v).run P w=.ok () w'∧aV [b] w w'∧KM enc w' b (dC l k v):=by
 obtain⟨es,clock,hm,he,hn,ZT,F5⟩:=hb;have yI:b<w.heap.size:=(Array.getElem?_eq_some_iff.1 hm).1
 cases hx:sT l k 0 with
 | none=>
  obtain⟨h1,h2⟩:=mx hx;refine⟨_,?_,kg w b (.map (es.push {key:=enc k,val:=v,born:=clock}) (clock+1)),?_⟩
  ·
   simp only [Instr.mapUpdate,Sem.run_bind,run_underlying hT,Result.andThen_ok,MapKept.run_getObj_map hm,hK.check,hK.find l es.toList k w he,hx,MapKept.run_setObj_map _ hm]
  refine⟨_,_,by first | (simp [yI];done) | (simp [yI];exact⟨rfl,rfl⟩),?_,iq hn k v,?_,?_⟩
  ·
   rw [h2];simp [he]
  ·
   grind
  grind
 | some p=>
  obtain⟨j,v0⟩:=p;obtain⟨m,h1,h2,h3,h4,_⟩:=kW hx
  have pD:j=m:=by omega
  subst pD
  have Ir:(((es[j]?).map (·.key)).getD (enc k))=enc k:=by
   have:=congrArg (fun x=>x[j]?) he
   grind
  refine⟨_,?_,kg w b (.map (es.modify j fun e=>{e with key:=enc k,val:=v}) clock),?_⟩
  ·
   simp only [Instr.mapUpdate,Sem.run_bind,run_underlying hT,Result.andThen_ok,MapKept.run_getObj_map hm,hK.check,hK.find l es.toList k w he,hx,Instr.keyThatStays,Ir,hK.same,if_true,Sem.run_pure,MapKept.run_setObj_map _ hm]
  obtain⟨h5,h6⟩:=lZ (u:=v) es j k v0 (fun e=>{e with key:=enc k,val:=v}) (fun e=>⟨rfl,rfl,rfl⟩) he h2;refine⟨_,_,by first | (simp [yI];done) | (simp [yI];exact⟨rfl,rfl⟩),by rw [h4];exact h5,iq hn k v,?_,by rw [h6];exact F5⟩;intro x hx
  have:x.born∈(es.modify j fun e=>{e with key:=enc k,val:=v}).toList.map (·.born):=List.mem_map.2 ⟨x,hx,rfl⟩
  grind
theorem OX.put(hK:KK P kt enc) (hT:P.underlying T=some (.map kt e)) (hb:KM enc w b l) {x y u:Operand}{k:κ}{v:Value}(hx:ev kv x=some (.map (some b))) (hy:ev kv y=some (enc k)) (hu:ev kv u=some v)
  (h:∀w',aV [b] w w'→KM enc w' b (dC l k v)→K kv w'):OX P ⟨none,.mapUpdate T x y u,ty,pos,af,g⟩ n kv w K:=by
 obtain⟨w',hr,h1,h2⟩:=Km hK hT hb k v;refine⟨rfl,rfl,by simp [known,opers,hx,hy,hu],?_⟩
 have jg:(execOp (lX kv) ⟨none,.mapUpdate T x y u,ty,pos,af,g⟩).run P w=.ok .skip w':=by
  simp only [execOp,aK hx,aK hy,aK hu,Sem.run_bind,hr,Result.andThen_ok];rfl
 rw [jg];exact h _ h1 h2
theorem OX.ins(hK:KK P kt enc) (hT:P.underlying T=some (.map kt e)) (hb:KM enc w b l) {x y u:Operand}{k:κ}{v:Value}(hx:ev kv x=some (.map (some b))) (hy:ev kv y=some (enc k)) (hu:ev kv u=some v)
  (h:∀w',aV [b] w w'→KM enc w' b (dC l k v)→K kv w'):OX P ⟨none,.insert T x y u,ty,pos,af,g⟩ n kv w K:=by
 obtain⟨w',hr,h1,h2⟩:=Km hK hT hb k v;refine⟨rfl,rfl,by simp [known,opers,hx,hy,hu],?_⟩
 have jg:(execOp (lX kv) ⟨none,.insert T x y u,ty,pos,af,g⟩).run P w=.ok .skip w':=by
  simp only [execOp,aK hx,aK hy,aK hu,Sem.run_bind,hr,Result.andThen_ok];rfl
 rw [jg];exact h _ h1 h2
theorem Rj(hK:KK P kt enc) (hT:P.underlying T=some (.map kt e)) (hb:KM enc w b l) (k:κ) (T2:TypeId) :
  ∃w',(Builtin.delete_ #[T,T2] ty #[.map (some b),enc k]).run P w=.ok (.tuple #[]) w'∧aV [b] w w'∧KM enc w' b (jJ l k):=by
 obtain⟨es,clock,hm,he,hn,ZT,F5⟩:=hb;have yI:b<w.heap.size:=(Array.getElem?_eq_some_iff.1 hm).1
 cases hx:sT l k 0 with
 | none=>
  obtain⟨h1,h2⟩:=mx hx;refine⟨_,?_,kg w b (.map es clock),?_⟩
  ·
   simp [Builtin.delete_,run_underlying hT,MapKept.run_getObj_map hm,hK.check,hK.find l es.toList k w he,hx,MapKept.run_setObj_map _ hm]
  rw [LD h1];exact⟨_,_,by grind,he,hn,ZT,F5⟩
 | some p=>
  obtain⟨j,v0⟩:=p;obtain⟨m,h1,h2,h3,_,h4⟩:=kW hx
  have pD:j=m:=by omega
  subst pD;refine⟨_,?_,kg w b (.map (es.eraseIdxIfInBounds j) clock),?_⟩
  ·
   simp [Builtin.delete_,run_underlying hT,MapKept.run_getObj_map hm,hK.check,hK.find l es.toList k w he,hx,MapKept.run_setObj_map _ hm]
  have Ij:(es.eraseIdxIfInBounds j).toList=es.toList.eraseIdx j:=by
   by_cases h:j<es.size
   ·
    simp [Array.eraseIdxIfInBounds,h]
   grind [List.eraseIdx_of_length_le]
  refine⟨_,_,by first | (simp [yI];done) | (simp [yI];exact⟨rfl,rfl⟩),?_,?_,?_,?_⟩
  ·
   rw [Ij,h4]
   have e1:∀{α β:Type}(f:α→β) (L:List α) (i:Nat),(L.eraseIdx i).map f=(L.map f).eraseIdx i:=fun f L=>by
    induction L with
    | nil=>intro i;rfl
    | cons x r ih=>intro i;cases i <;> simp [ih]
   rw [e1,e1,he]
  ·
   grind
  ·
   grind
  grind
theorem OX.del(hK:KK P kt enc) (hT:P.underlying T=some (.map kt e)) (hb:KM enc w b l) {x y:Operand}{k:κ}{T2:TypeId}(hx:ev kv x=some (.map (some b))) (hy:ev kv y=some (enc k))
  (h:∀w',aV [b] w w'→KM enc w' b (jJ l k)→K kv w'):OX P ⟨none,.call {callee:=.builtin .delete,args:=#[x,y],argTypes:=#[T,T2]},ty,pos,af,g⟩ n kv w K:=by
 obtain⟨w',hr,h1,h2⟩:=Rj (ty:=ty) hK hT hb k T2;refine⟨rfl,rfl,by simp [known,opers,hx,hy],?_⟩
 have jg:(execOp (lX kv) ⟨none,.call {callee:=.builtin .delete,args:=#[x,y],argTypes:=#[T,T2]},ty,pos,af,g⟩).run P w=.ok (.value (.tuple #[])) w':=by grind [execOp,resolve,invoke,builtin,Sem.run_bind,Sem.run_pure,Result.andThen_ok,aK]
 rw [jg];exact h _ h1 h2
end
/-! ### keys of whole numbers, and of structs of an int and a string -/
theorem Vy{P:Program}{kt:TypeId}{f0 f1:Field}(hu:P.underlying kt=some (.struct #[f0,f1])) (hK:Ly P kt) (pP:∀em (k:Key) w,(Instr.checkKey em 10000 kt k.val).run P w=.ok () w):KK P kt Key.val where
 check:=pP
 same k:=by
  have:∀n,Instr.sameBits (n+1) k.val k.val=true:=fun n=>by simp [Key.val,Instr.sameBits,MapKept.bytes_beq]
  exact this 9999
 inj k k' h:=by cases k;cases k';simpa [Key.val] using h
 find l es k w he:=by
  have Rk:∀(es:List MapEntry),es≠[]→(∃a,Instr.findNow (.struct #[f0,f1]) k.val es 0=a∧a=none):=by
   intro es kV
   cases es with
   | nil=>exact absurd rfl kV
   | cons x xs=>exact⟨_,rfl,by simp [Instr.findNow,Instr.sameNow]⟩
  have key:∀(l:List (Key × Value)) (es:List MapEntry) (i:Nat),es.map (fun e=>(e.key,e.val))=l.map (fun p=>(p.1.val,p.2))→(Instr.findAsking kt k.val es i).run P w=.ok (sT l k i) w:=by
   intro l
   induction l with
   | nil=>
    intro es i he
    have:es=[]:=by simpa using he
    subst this;rfl
   | cons p r ih=>
    intro es i he
    cases es with
    | nil=>simp at he
    | cons x xs=>
     simp at he
     obtain⟨⟨h1,h2⟩,h3⟩:=he
     have heq:(Op.equal kt k.val x.key).run P w=.ok (decide (k=p.1)) w:=by
      rw [h1]
      have:=hK.eq k.kind p.1.kind k.text p.1.text w
      simp only [Key.val]
      have e:(decide (k.kind=p.1.kind) && decide (k.text=p.1.text))=decide (k=p.1):=by
       obtain⟨a,s⟩:=k;obtain⟨q,_⟩:=p;obtain⟨b,t⟩:=q;simp [Bool.decide_and]
      rw [e] at this;exact this
     simp only [Instr.findAsking,Sem.run_bind,heq,Result.andThen_ok,sT]
     by_cases e:k=p.1
     ·
      simp [e,h2]
     grind
  simp only [Instr.findKey,Sem.run_bind,run_underlying hu,Result.andThen_ok]
  cases es with
  | nil=>
   have:l=[]:=by simpa using he.symm
   subst this;rfl
  | cons x xs=>
   obtain⟨a,h1,h2⟩:=Rk (x::xs) (by simp)
   grind
end Go.Rc

namespace Go.Rc
open Go
section
variable {α:Type}{A:Nat→Prop}{w w':World}{k n c:Nat}{a:Option Addr}{cs:List Value}{R:α→List Value→Prop}{xs:List α}
variable {P:Program}{N:Nat}{kv:KV}{K:KV→World→Prop}
variable {d:Tmp}{ty:TypeId}{pos:String}{af:Array Edge}{g:Option (Nat × Bool)}{T E:TypeId}
def pE(a:Option Addr) (i k c:Nat):Option Addr:=if c=i then a else a.map fun x=>⟨x.block,x.off+i*k,x.spot⟩
theorem N0{i k c:Nat}(hs:∀x,a=some x→x.spot=none):(if c=i then a else a.map fun x=>x.add (i*k))=pE a i k c:=by
 unfold pE
 cases a with
 | none=>rfl
 | some x=>
  obtain⟨b,o,s⟩:=x
  have:=hs _ rfl
  grind [Addr.yz]
theorem SL.spot(h:SL A w k a n c cs):∀x,a=some x→x.spot=none:=by grind [at_]
theorem SL.ag9(h:SL A w k a n c cs):n≤c:=by grind [at_]
theorem Is(hT:Cc P T E k) {i:Nat}(hi:i≤c) (hs:∀x,a=some x→x.spot=none):(Instr.sliceAt T (.slice a n c) none (some (.int .i64 (i:Int))) none).run P w=.ok (.slice a i c) w:=by
 have e:(if c=0 then a else a.map fun x=>x.add (0*k))=a:=by
  cases a with
  | none=>simp
  | some x=>obtain⟨b,o,s⟩:=x;have:=hs _ rfl;grind [Addr.yz]
 simp only [Instr.sliceAt,Instr.slice,Sem.run_bind,run_underlying hT.Lq,Result.andThen_ok,Instr.sliceBounds,Sem.run_pure];rw [run_sliceBound (P:=P) _ _ _ _ _ (by omega) (by omega)];simp only [Result.andThen_ok,Int.toNat_natCast,Nat.sub_zero,hT.size w];rw [e]
theorem It(hT:Cc P T E k) {i:Nat}(hi:i≤n) (hs:∀x,a=some x→x.spot=none):(Instr.sliceAt T (.slice a n c) (some (.int .i64 (i:Int))) none none).run P w=.ok (.slice (pE a i k c) (n - i) (c - i)) w:=by
 simp only [Instr.sliceAt,Instr.slice,Sem.run_bind,run_underlying hT.Lq,Result.andThen_ok,Instr.sliceBounds,Sem.run_pure,Option.isSome_none,Bool.false_eq_true,if_false];rw [run_sliceBound (P:=P) _ _ _ _ _ (by omega) (by omega)];simp only [Result.andThen_ok,Int.toNat_natCast,hT.size w];rw [← N0 hs]
theorem PV.yJ(hT:Cc P T E k) {x y:Operand}{i:Nat}(h:SR A w k R a n c xs) (hx:ev kv x=some (.slice a n c)) (hy:ev kv y=some (.int .i64 (i:Int))) (hi:i≤n):PV P (.slice T x none (some y) none) ty kv w (.slice a i c):=by
 obtain⟨_,rows,_,_,hs,_⟩:=h;refine⟨rfl,by simp [known,opers,hx,hy],fun _ _ _ _=>?_⟩
 have:=hs.ag9
 simp only [execOp,aK hx,aK hy,Option.map_none,Option.map_some,Sem.run_bind,Is hT (show i≤c by omega) hs.spot,Result.andThen_ok];rfl
theorem PV.Dt(hT:Cc P T E k) {x y:Operand}{i:Nat}(h:SR A w k R a n c xs) (hx:ev kv x=some (.slice a n c)) (hy:ev kv y=some (.int .i64 (i:Int))) (hi:i≤n):PV P (.slice T x (some y) none none) ty kv w (.slice (pE a i k c) (n - i) (c - i)):=by
 obtain⟨_,rows,_,_,hs,_⟩:=h;refine⟨rfl,by simp [known,opers,hx,hy],fun _ _ _ _=>?_⟩;simp only [execOp,aK hx,aK hy,Option.map_none,Option.map_some,Sem.run_bind,It hT hi hs.spot,Result.andThen_ok];rfl
theorem Du:∀(rows:List (List Value)) (k i:Nat),(∀r∈rows,r.length=k)→i≤rows.length→(rows.take i).flatten=rows.flatten.take (i*k):=by
 intro rows
 induction rows with
 | nil=>grind
 | cons x xs ih=>
  intro k i hk hi
  cases i with
  | zero=>simp
  | succ i=>
   have hx:x.length=k:=hk x (by simp);simp only [List.take_succ_cons,List.flatten_cons];have h1:x.take (i*k+k)=x:=List.take_of_length_le (by omega);rw [ih k i (fun r hr=>hk r (by simp [hr])) (by simpa using hi),List.take_append,Nat.succ_mul,h1]
   congr 2
   omega
theorem Dv:∀(rows:List (List Value)) (k i:Nat),(∀r∈rows,r.length=k)→i≤rows.length→(rows.drop i).flatten=rows.flatten.drop (i*k):=by
 intro rows
 induction rows with
 | nil=>grind
 | cons x xs ih=>
  intro k i hk hi
  cases i with
  | zero=>simp
  | succ i=>
   have hx:x.length=k:=hk x (by simp);simp only [List.drop_succ_cons,List.flatten_cons];have h1:x.drop (i*k+k)=[]:=List.drop_of_length_le (by omega);rw [ih k i (fun r hr=>hk r (by simp [hr])) (by simpa using hi),List.drop_append,Nat.succ_mul,h1]
   grind
theorem SR.take(h:SR A w k R a n c xs) {i:Nat}(hi:i≤n):SR A w k R a i c (xs.take i):=by
 obtain⟨hn,rows,hl,hk,hs,hx⟩:=h;refine⟨by simp;omega,rows.take i,by simp [hl],fun r hr=>hk r (List.mem_of_mem_take hr),?_,?_⟩
 ·
  rw [Du rows k i hk (by omega)];refine⟨by grind [SL.len,Nat.mul_le_mul_right],by have:=hs.le;omega,fun u hu=>hs.one u (List.mem_of_mem_take hu),?_⟩
  rcases hs.at_ with⟨h1,h2,h3⟩ | ⟨b,o,h1,h2,h3,h4,h5,h6⟩
  ·
   exact .inl ⟨h1,by omega,h3⟩
  refine .inr ⟨b,o,h1,by omega,h3,h4,h5,fun j v hv=>h6 j v ?_⟩
  grind
 grind
theorem SR.drop(h:SR A w k R a n c xs) {i:Nat}(hi:i≤n):SR A w k R (pE a i k c) (n - i) (c - i) (xs.drop i):=by
 obtain⟨hn,rows,hl,hk,hs,hx⟩:=h;refine⟨by simp;omega,rows.drop i,by simp [hl],fun r hr=>hk r (List.mem_of_mem_drop hr),?_,?_⟩
 ·
  rw [Dv rows k i hk (by omega)];refine⟨by grind [SL.len,Nat.sub_mul],by have:=hs.le;omega,fun u hu=>hs.one u (List.mem_of_mem_drop hu),?_⟩
  rcases hs.at_ with⟨h1,h2,h3⟩ | ⟨b,o,h1,h2,h3,h4,h5,h6⟩
  ·
   grind [pE]
  by_cases e:c=i
  ·
   refine .inr ⟨b,o,by rw [pE,if_pos e];exact h1,by omega,by omega,h4,h5,fun j v hv=>?_⟩
   have:n=i:=by omega
   have:(rows.flatten.drop (i*k))=[]:=List.drop_eq_nil_of_le (by rw [hs.len,this];exact Nat.le_refl _)
   rw [this] at hv;simp at hv
  refine .inr ⟨b,o+i*k,by rw [pE,if_neg e,h1];rfl,by omega,by omega,h4,h5,fun j v hv=>?_⟩;rw [Nat.add_assoc];exact h6 (i*k+j) v (by simpa using hv)
 grind
theorem PV.Rl{f off:Nat}{fs:Array Field}{fd:Field}(hu:P.underlying T=some (.struct fs)) (hf:fs[f]?=some fd) (ho:fd.offset=off) (h1:∀w,(isAgg fd.type).run P w=.ok false w)
  {x:Operand}{us:List Value}{v:Value}(hx:ev kv x=some (.agg us.toArray)) (hv:us[off]?=some v):PV P (.field T x f) ty kv w v:=by
 subst ho;refine⟨rfl,by simp [known,opers,hx],fun _ _ _ _=>?_⟩
 simp [execOp,aK hx,Instr.field,run_underlying hu,hf,part,h1 w,asAgg,hv]
theorem PV.Rm{x y:Operand}{p q:Int}{i:IntKind}{sO:Array TypeId}(hx:ev kv x=some (.int i p)) (hy:ev kv y=some (.int i q)):PV P (.call {callee:=.builtin .min,args:=#[x,y],argTypes:=sO}) ty kv w (.int i (min p q)):=by
 refine⟨rfl,by simp [known,opers,hx,hy],fun _ _ _ _=>?_⟩;simp only [execOp,resolve,invoke,builtin,Sem.run_bind,Sem.run_pure,Result.andThen_ok,List.map_toArray,List.map_cons,List.map_nil,aK hx,aK hy]
 have:(if q<p then q else p)=min p q:=by grind
 simp [Builtin.min_,Builtin.min2,this]
theorem PV.N1{x y:Operand}{p q:Int}{i:IntKind}{sO:Array TypeId}(hx:ev kv x=some (.int i p)) (hy:ev kv y=some (.int i q)):PV P (.call {callee:=.builtin .max,args:=#[x,y],argTypes:=sO}) ty kv w (.int i (max p q)):=by
 refine⟨rfl,by simp [known,opers,hx,hy],fun _ _ _ _=>?_⟩;simp only [execOp,resolve,invoke,builtin,Sem.run_bind,Sem.run_pure,Result.andThen_ok,List.map_toArray,List.map_cons,List.map_nil,aK hx,aK hy]
 have:(if q > p then q else p)=max p q:=by grind
 simp [Builtin.max_,Builtin.max2,this]
theorem PV.func{fn:Fn}{fs cs:List Operand}{us vs:List Value}(hf:fs.map (ev kv)=us.map some) (hc:cs.map (ev kv)=vs.map some):PV P (.makeFunc fn fs.toArray cs.toArray) ty kv w (.func fn us.toArray vs.toArray):=by
 have key:∀(l:List Operand) (vs:List Value),l.map (ev kv)=vs.map some→l.map (lX kv)=vs∧∀x∈l,(ev kv x).isSome=true:=by
  intro l
  induction l with
  | nil=>intro vs h;simp at h;simp [h]
  | cons x r ih=>
   intro vs h
   cases vs with
   | nil=>simp at h
   | cons v vs=>grind [aK]
 obtain⟨h1,h2⟩:=key fs us hf;obtain⟨h3,h4⟩:=key cs vs hc;refine⟨rfl,?_,fun _ _ _ _=>?_⟩
 ·
  grind [known,opers]
 simp only [execOp,Instr.makeFunc,List.map_toArray,h1,h3];rfl
end
/-! ### places in maps -/
def KE{κ:Type}(enc:κ→Value) (w:World) (b:Nat) (l:List (κ × Value)) (k:κ) (st:Nat):Prop:=
 ∃es clock,w.heap[b]?=some (Obj.map es clock)∧es.toList.map (fun e=>(e.key,e.val))=l.map (fun p=>(enc p.1,p.2))∧(l.map (·.1)).Nodup∧(∀e∈es.toList,e.born<clock)∧(es.toList.map (·.born)).Nodup∧
  ∃(m:Nat) (e:MapEntry) (v:Value),es.toList[m]?=some e∧e.born=st∧l[m]?=some (k,v)
section
variable {κ:Type} [DecidableEq κ] {enc:κ→Value}{P:Program}{kt:TypeId}{w w':World}{b:Nat}{l:List (κ × Value)}
variable {n:Nat}{kv:KV}{K:KV→World→Prop}
variable {d:Tmp}{ty:TypeId}{pos:String}{af:Array Edge}{g:Option (Nat × Bool)}{T e:TypeId}
omit [DecidableEq κ] in
theorem KE.km{k:κ}{st:Nat}(h:KE enc w b l k st):KM enc w b l:=by obtain⟨es,c,h1,h2,h3,h4,h5,_⟩:=h;exact⟨es,c,h1,h2,h3,h4,h5⟩
theorem Rn:∀{l:List (κ × Value)}{m:Nat}{k:κ}{v:Value},(l.map (·.1)).Nodup→l[m]?=some (k,v)→∀u,dC l k u=l.set m (k,u):=by
 intro l
 induction l with
 | nil=>intro m k v _ h;simp at h
 | cons p r ih=>
  obtain⟨k0,v0⟩:=p;intro m k v hn h u;simp only [List.map_cons,List.nodup_cons] at hn
  cases m with
  | zero=>grind [dC]
  | succ m=>
   simp at h
   have kV:k0≠k:=fun e=>hn.1 (by grind);simp only [dC,if_neg kV,List.set_cons_succ,ih hn.2 h u]
theorem N2(hK:KK P kt enc) (hT:P.underlying T=some (.map kt e)) {z:Value}(hz:∀w,(zeroValue e).run P w=.ok z w) (hb:KM enc w b l) (k:κ) :
  ∃(w':World) (st:Nat) (v:Value),(Instr.mapEntry T (.map (some b)) (enc k)).run P w=.ok (.tuple #[v,.int .i64 (st:Int)]) w'∧aV [b] w w'∧w'.heap.size=w.heap.size∧KE enc w' b (dC l k ((bX l k).getD z)) k st:=by
 obtain⟨es,clock,hm,he,hn,ZT,F5⟩:=hb;have yI:b<w.heap.size:=(Array.getElem?_eq_some_iff.1 hm).1
 have hlen:es.toList.length=l.length:=by simpa using congrArg List.length he
 cases hx:sT l k 0 with
 | none=>
  obtain⟨h1,h2⟩:=mx hx;refine⟨_,clock,z,?_,kg w b (.map (es.push {key:=enc k,val:=z,born:=clock}) (clock+1)),by simp,?_⟩
  ·
   simp only [Instr.mapEntry,Sem.run_bind,run_underlying hT,Result.andThen_ok,MapKept.run_getObj_map hm,hK.check,hK.find l es.toList k w he,hx,hz,MapKept.run_setObj_map _ hm]
   first | done | rfl
  refine⟨_,_,by simp [yI];exact⟨rfl,rfl⟩,?_,iq hn k _,?_,?_,l.length,{key:=enc k,val:=z,born:=clock},z,?_,rfl,?_⟩
  ·
   rw [h2,h1];simp [he]
  ·
   grind
  ·
   grind
  ·
   simp [← hlen]
  rw [h2,h1];simp
 | some p=>
  obtain⟨j,v0⟩:=p;obtain⟨m,h1,h2,h3,h4,_⟩:=kW hx
  have pD:j=m:=by omega
  subst pD
  have mK:j<es.toList.length:=by grind
  have Ir:(((es[j]?).map (·.key)).getD (enc k))=enc k:=by
   have:=congrArg (fun x=>x[j]?) he
   grind
  have hvj:(es[j]'(by simpa using mK)).val=v0:=by
   have:=congrArg (fun x=>x[j]?) he
   grind
  obtain⟨h5,h6⟩:=lZ (u:=v0) es j k v0 (fun e=>{e with key:=enc k,val:=v0}) (fun e=>⟨rfl,rfl,rfl⟩) he h2
  have F6:(es.modify j fun e=>{e with key:=enc k})=es.modify j fun e=>{e with key:=enc k,val:=v0}:=by grind
  refine⟨_,((es[j]?).map (·.born)).getD 0,v0,?_,kg w b (.map (es.modify j fun e=>{e with key:=enc k}) clock),by simp,?_⟩
  ·
   simp only [Instr.mapEntry,Sem.run_bind,run_underlying hT,Result.andThen_ok,MapKept.run_getObj_map hm,hK.check,hK.find l es.toList k w he,hx,Instr.keyThatStays,Ir,hK.same,if_true,Sem.run_pure,MapKept.run_setObj_map _ hm];rw [Array.getElem?_eq_getElem (show j<es.size by simpa using mK)]
   rfl
  rw [F6];refine⟨_,_,by simp [yI];exact⟨rfl,rfl⟩,by rw [h4,h3];exact h5,iq hn k _,?_,by rw [h6];exact F5,j,{es[j]'(by simpa using mK) with key:=enc k,val:=v0},v0,?_,?_,?_⟩
  ·
   intro x hx
   have:x.born∈(es.modify j fun e=>{e with key:=enc k,val:=v0}).toList.map (·.born):=List.mem_map.2 ⟨x,hx,rfl⟩
   grind
  ·
   grind
  ·
   grind
  grind
theorem OX.Vz(hK:KK P kt enc) (hT:P.underlying T=some (.map kt e)) {z:Value}(hz:∀w,(zeroValue e).run P w=.ok z w) (hb:KM enc w b l) {x y:Operand}{k:κ}(hd:Nat.blt d n=true) (hx:ev kv x=some (.map (some b))) (hy:ev kv y=some (enc k))
  (h:∀(w':World) (st:Nat) (v:Value),aV [b] w w'→w'.heap.size=w.heap.size→KE enc w' b (dC l k ((bX l k).getD z)) k st→K ((d,.tuple #[v,.int .i64 (st:Int)])::kv) w'):OX P ⟨some d,.mapEntry T x y,ty,pos,af,g⟩ n kv w K:=by
 obtain⟨w',st,v,hr,h1,h2,h3⟩:=N2 hK hT hz hb k;refine⟨rfl,hd,by simp [known,opers,hx,hy],?_⟩
 have jg:(execOp (lX kv) ⟨some d,.mapEntry T x y,ty,pos,af,g⟩).run P w=.ok (.value (.tuple #[v,.int .i64 (st:Int)])) w':=by
  simp only [execOp,aK hx,aK hy,Sem.run_bind,hr,Result.andThen_ok];rfl
 rw [jg];exact h _ _ _ h1 h2 h3
theorem OX.Iu{k:κ}{st:Nat}(hb:KE enc w b l k st) {x y u:Operand}{v:Value}(hx:ev kv x=some (.map (some b))) (hy:ev kv y=some (.int .i64 (st:Int))) (hu:ev kv u=some v)
  (h:∀w',aV [b] w w'→w'.heap.size=w.heap.size→KM enc w' b (dC l k v)→K kv w'):OX P ⟨none,.entryStore T x y u,ty,pos,af,g⟩ n kv w K:=by
 obtain⟨es,clock,hm,he,hn,ZT,F5,m,en,v0,hme,bJ,VB⟩:=hb;have yI:b<w.heap.size:=(Array.getElem?_eq_some_iff.1 hm).1
 have aaY:m<es.size:=by grind
 have TQ:es.findIdx? (fun e=>(e.born:Int) == (st:Int))=some m:=by
  rw [Array.findIdx?_eq_some_iff_getElem]
  have hem:es[m]=en:=by grind
  refine⟨aaY,by simp [hem,bJ],fun j hj=>?_⟩
  have aaZ:j<es.size:=by omega
  simp only [beq_iff_eq,Int.natCast_inj];intro e
  have h1:(es.toList.map (·.born))[j]?=some st:=by simp [aaZ,e]
  have h2:(es.toList.map (·.born))[m]?=some st:=by simp [aaY,hem,bJ]
  have:=(List.getElem?_inj (i:=j) (j:=m) (by simp [aaZ]) F5).1 (h1.trans h2.symm)
  omega
 obtain⟨h5,h6⟩:=lZ (u:=v) es m k v0 (fun e=>{e with key:=enc k,val:=v}) (fun e=>⟨rfl,rfl,rfl⟩) he VB
 have ZU:(es[m]).key=enc k:=by
  have:=congrArg (fun x=>x[m]?) he
  grind
 have F6:(es.modify m fun e=>{e with val:=v})=es.modify m fun e=>{e with key:=enc k,val:=v}:=by grind
 refine⟨rfl,rfl,by simp [known,opers,hx,hy,hu],?_⟩
 have jg:(execOp (lX kv) ⟨none,.entryStore T x y u,ty,pos,af,g⟩).run P w=.ok .skip {w with heap:=w.heap.setIfInBounds b (.map (es.modify m fun e=>{e with val:=v}) clock)}:=by
  simp only [execOp,aK hx,aK hy,aK hu,Sem.run_bind,Instr.entryStore,MapKept.run_getObj_map hm,Result.andThen_ok,asInt,asIntOf,Sem.run_pure,TQ,MapKept.run_setObj_map _ hm]
 rw [jg];refine h _ (kg w b _) (by simp) ?_;rw [F6];refine⟨_,_,by simp [yI];exact⟨rfl,rfl⟩,by rw [Rn hn VB v];exact h5,iq hn k v,?_,by rw [h6];exact F5⟩;intro x hx
 have:x.born∈(es.modify m fun e=>{e with key:=enc k,val:=v}).toList.map (·.born):=List.mem_map.2 ⟨x,hx,rfl⟩
 grind
end
end Go.Rc

namespace Go.Rc
open Go
section
variable {α:Type}{A:Nat→Prop}{w w':World}{k n c base:Nat}{a:Option Addr}{cs:List Value}{R:α→List Value→Prop}{xs:List α}
variable {P:Program}{N:Nat}{kv:KV}{K:KV→World→Prop}
variable {d:Tmp}{ty:TypeId}{pos:String}{af:Array Edge}{g:Option (Nat × Bool)}{T E:TypeId}
theorem PV.bU{z us:List Value}{places:List (Nat × Nat)}(hT:BT P T z places) {ps:List (Nat × Operand)}{vs:List (Nat × Value)}(hv:nD kv ps=some vs) (eV:yG places z.length vs=true) (hu:Ch places z vs=us) :
  PV P (.build T ps.toArray) ty kv w (.agg us.toArray):=by subst hu;exact PV.build hT hv eV
theorem OX.aR{len:Nat}{z us:List Value}(hT:BS P T E k len z) {ps:List (Nat × Operand)}{vs:List (Nat × Value)}(hd:Nat.blt d N=true) (hv:nD kv ps=some vs) (eV:NX k z.length vs=true) (hu:Vs k z vs=us)
  (h:∀b w',FM w w' b→cV w' b E us→K ((d,.slice (some ⟨b,0,none⟩) len len)::kv) w'):OX P ⟨some d,.buildSlice T len ps.toArray,ty,pos,af,g⟩ N kv w K:=by
 subst hu;exact OX.Vt hT hd hv eV h
theorem OL.blk{b m:Nat}{l:List Value}(h:cV w b E l) (hb:base≤b) (hl:l.length=m*k) (h1:∀u∈l,u.oneCell'=true) (hm:m≤140737488355328):OL base w E k (some ⟨b,0,none⟩) m m l:=
 ⟨h1,hl,.inr ⟨b,m,l.toArray,rfl,hb,h,Nat.le_refl _,by simp [maxLen];omega,by simpa using hl,by rw [← hl];simp⟩⟩
theorem OR.ek{b:Nat}{l:List Value}{x:α}(h:cV w b E l) (hb:base≤b) (hl:l.length=k) (h1:∀u∈l,u.oneCell'=true) (hR:R x l):OR base w E k R (some ⟨b,0,none⟩) 1 1 [x]:=
 ⟨rfl,[l],rfl,by simpa using hl,by simpa using OL.blk (k:=k) h hb (m:=1) (by simpa using hl) h1 (by omega),fun i y r h1 h2=>by
  cases i with
  | zero=>simp at h1 h2;subst h1 h2;exact hR
  | succ i=>simp at h1⟩
theorem OX.ud{f:FuncId}(hf:CF P f) {t:Tmp}{fs cs:Array Value}{xs:List Operand}{sO:Array TypeId}{args:List Value}(hd:Nat.blt d N=true) (ht:look kv t=some (.func (.func f) fs cs)) (hx:xs.map (ev kv)=args.map some)
  (h:Calls P f (fs++args.toArray++cs) w fun e w'=>∃v,e=.returned v∧K ((d,v)::kv) w'):OX P ⟨some d,.call {callee:=.value (.tmp t),args:=xs.toArray,argTypes:=sO},ty,pos,af,g⟩ N kv w K:=by
 have key:∀(l:List Operand) (vs:List Value),l.map (ev kv)=vs.map some→l.map (lX kv)=vs∧∀x∈l,(ev kv x).isSome=true:=by
  intro l
  induction l with
  | nil=>intro vs h;simp at h;simp [h]
  | cons x r ih=>
   intro vs h
   cases vs with
   | nil=>simp at h
   | cons v vs=>
    simp at h
    obtain⟨h1,h2⟩:=ih vs h.2;exact⟨by simp [aK h.1,h1],fun y hy=>by rcases List.mem_cons.1 hy with rfl | hy;simp [h.1];exact h2 y hy⟩
 obtain⟨h1,h2⟩:=key xs args hx;have dL:ev kv (.tmp t)=some (.func (.func f) fs cs):=ht;refine⟨rfl,hd,?_,?_⟩
 ·
  simp only [known,opers,List.all_eq_true];intro x hx
  simp at hx
  rcases hx with rfl | hx
  ·
   simp [dL]
  exact h2 x hx
 have hr:(execOp (lX kv) ⟨some d,.call {callee:=.value (.tmp t),args:=xs.toArray,argTypes:=sO},ty,pos,af,g⟩).run P w=.ok (.enter f (fs++args.toArray++cs)) w:=by
  simp only [execOp,resolve,Deferred.ofValue,aK dL,Sem.run_bind,List.map_toArray,h1]
  first
   | (simp only [Sem.run_pure,Result.andThen_ok,invoke];exact hf _ w)
   | (simp only [invoke];exact hf _ w)
 rw [hr];exact h
end
def nO(P:Program) (A:Nat→Prop) (w:World):Prop:=(∃b,A b∧b<w.heap.size∧∀w',w'.heap[b]?=w.heap[b]?→Lib.TabIs P w' "internal/strconv.uint64pow10" .u64 Lib.pow10Tab)∧∀n,n = "strconv.ErrSyntax"∨n = "strconv.ErrRange"→∀g,P.globalNamed n=some g→A g∧g<w.heap.size∧∃ev:Value,(ev=.nilIface∨∃t p,ev=.iface t p)∧∀w':World,w'.heap[g]?=w.heap[g]?→w'.cell? ⟨g,0,none⟩=some ev
theorem nO.err{P:Program}{A:Nat→Prop}{w:World}(h:nO P A w) {n:String}(hn:n = "strconv.ErrSyntax"∨n = "strconv.ErrRange") {g:Nat}(hg:P.globalNamed n=some g):∃ev:Value,w.cell? ⟨g,0,none⟩=some ev∧(ev=.nilIface∨∃t p,ev=.iface t p):=by
 obtain⟨_,_,ev,h1,h2⟩:=h.2 n hn g hg;exact⟨ev,h2 w rfl,h1⟩
theorem nO.of{P:Program}{A A':Nat→Prop}{w w':World}(h:nO P A w) (hA:∀x,A x→A' x) (hs:w.heap.size≤w'.heap.size) (hb:∀x,A x→x<w.heap.size→w'.heap[x]?=w.heap[x]?):nO P A' w':=by
 obtain⟨⟨b,h1,h2,h3⟩,h4⟩:=h;refine⟨⟨b,hA b h1,Nat.lt_of_lt_of_le h2 hs,fun w2 e=>h3 w2 (e.trans (hb b h1 h2))⟩,fun n hn g hg=>?_⟩;obtain⟨h5,h6,ev,h7,h8⟩:=h4 n hn g hg;exact⟨hA g h5,Nat.lt_of_lt_of_le h6 hs,ev,h7,fun w2 e=>h8 w2 (e.trans (hb g h5 h6))⟩
theorem nO.cW{P:Program}{A:Nat→Prop}{w w':World}{S:List Nat}(h:nO P A w) (c:aV S w w') (hS:∀b∈S,¬A b):nO P A w':=
 h.of (fun _ h=>h) c.size fun x hx dZ=>c.block x dZ fun hm=>hS x hm hx
theorem nO.ext{P:Program}{A:Nat→Prop}{w w':World}(h:nO P A w) (c:aV [] w w'):nO P A w':=h.cW c (by simp)
def itoa(n:Int):ByteArray:=⟨(Lib.itoa n).toArray⟩
end Go.Rc

namespace Go.Rc
open Go
def PL(P:Program):List Field→List (Nat × Nat)→Prop
 | [],[]=>True
 | f::fs,(o,s)::ps=>f.offset=o∧(∀w,(sizeOf f.type).run P w=.ok s w)∧PL P fs ps
 | _,_=>False
theorem VC{P:Program}:∀{fs:List Field}{ps:List (Nat × Nat)},PL P fs ps→∀w,(fs.mapM fun f=>(do pure (f.offset,← sizeOf f.type):Sem (Nat × Nat))).run P w=.ok ps w:=by
 intro fs
 induction fs with
 | nil=>intro ps h w;cases ps with
  | nil=>rfl
  | cons p r=>cases h
 | cons f fs ih=>
  intro ps h w
  cases ps with
  | nil=>cases h
  | cons p r=>
   obtain⟨o,s⟩:=p;obtain⟨h1,h2,h3⟩:=h;subst h1;simp only [List.mapM_cons,Sem.run_bind,h2 w,Result.andThen_ok,Sem.run_pure,ih h3 w]
theorem kO{P:Program}{T:TypeId}{v:Value}{z:List Value}{fs:List Field}{places:List (Nat × Nat)}(h1:∀w,(zeroValue T).run P w=.ok v w) (h2:v.cells=z.toArray) (h3:P.underlying T=some (.struct fs.toArray)) (h4:PL P fs places) :
  BT P T z places:=by
 refine⟨⟨v,h1,h2⟩,fs.toArray,h3,fun w=>?_⟩
 have:=VC h4 w
 rw [List.mapM_toArray];rw [map_eq_pure_bind];simp only [Sem.run_bind,this,Result.andThen_ok]
 rfl
theorem LF{P:Program}{T T0 T1:TypeId}{f0 f1:Field}(hu:P.underlying T=some (.struct #[f0,f1])) (sR:f0.type=T0) (Lz:f1.type=T1) (Vu:f0.offset=0) (Ri:f1.offset=1)
  (h0:P.underlying T0=some (.int .i64)) (h1:P.underlying T1=some .string) (a0:∀w,(isAgg T0).run P w=.ok false w) (a1:∀w,(isAgg T1).run P w=.ok false w) :
  ∀em (k:Key) w,(Instr.checkKey em 10000 T k.val).run P w=.ok () w:=by
 intro em k w;subst sR Lz
 have r0:∀n v w,(Instr.checkKey em (n+1) f0.type (.int .i64 v)).run P w=.ok () w:=fun n v w=>by simp [Instr.checkKey,run_underlying h0]
 have r1:∀n v w,(Instr.checkKey em (n+1) f1.type (.string v)).run P w=.ok () w:=fun n v w=>by simp [Instr.checkKey,run_underlying h1]
 have key:∀n,(Instr.checkKey em (n+2) T k.val).run P w=.ok () w:=fun n=>by
  rw [show n+2=(n+1)+1 from rfl]
  unfold Instr.checkKey
  simp only [Key.val,Sem.run_bind,run_underlying hu,Result.andThen_ok]
  by_cases e0:f0.name = "_" <;> by_cases e1:f1.name = "_" <;> simp [part,a0,a1,Vu,Ri,r0 n,r1 n,e0,e1]
 exact key 9998
end Go.Rc
namespace Go.Rc
open Go
theorem sc{P:Program}{T E k bytes:Nat}{z:Value}(hu:P.underlying T=some (.slice E)) (hi:(P.info? E).map (fun i=>(i.zero,i.size,i.bytes))=some (some z,k,bytes)) (hz:z.cells.size=k) (hp:0<k):AP P T E k bytes:=by
 cases h:P.info? E with
 | none=>rw [h] at hi;cases hi
 | some i=>
  rw [h] at hi;simp only [Option.map_some,Option.some.injEq,Prod.mk.injEq] at hi;exact⟨hu,⟨i,z,rfl.trans h,hi.1,hi.2.1,hi.2.2,hz⟩,hp⟩
end Go.Rc

namespace Go.Rc
open Go
class kc (P:Program) (T f:Nat) (off:outParam Nat):Prop where
 h:FA P T f off
class Kn (P:Program) (T:Nat) (E k:outParam Nat):Prop where
 h:Cc P T E k
class LG (P:Program) (T:Nat):Prop where
 h:Ly P T
class VD (P:Program) (T:Nat) (z:outParam (List Value)) (pl:outParam (List (Nat × Nat))):Prop where
 h:BT P T z pl
class qn (P:Program) (T:Nat) (d:outParam TypeDesc):Prop where
 h:P.underlying T=some d
class jh (P:Program) (f:FuncId):Prop where
 h:CF P f
class Nf (P:Program) (T:Nat) (k:outParam Nat):Prop where
 h:(P.info? T).map (·.size)=some k
class H3 (P:Program) (T:Nat) (l:outParam (List Value)):Prop where
 h:ZV P T l
class N3 (P:Program) (T:Nat) (E k bytes:outParam Nat):Prop where
 h:AP P T E k bytes
theorem PV.zero{P:Program}{kv:KV}{w:World}{T ty:TypeId}{z:List Value}{pl:List (Nat × Nat)}(hT:BT P T z pl):PV P (.build T #[]) ty kv w (.agg z.toArray):=PV.bU (ps:=[]) (vs:=[]) hT rfl rfl rfl
end Go.Rc

namespace Go.Rc
def aD(l:List aG) (i:Nat):Bool:=(l[i]?).any (·.ring)
def bY(l:List aG):Nat→Nat
 | 0=>0
 | k+1=>if aD l k then bY l k else k+1
def eW(l:List aG) (m:Nat):Nat:=m+((l.drop m).takeWhile (·.ring)).length
def block(l:List aG) (n:Int):Int × Int:=
 if n<0∨(l.length:Int)≤n then (0,0) else if aD l n.toNat then (bY l n.toNat,eW l (n.toNat+1)) else (n,n+1)
theorem Cl(l:List aG) (n:Int) (h:n<0∨l.length≤n):block l n=(0,0):=if_pos h
theorem ao{α:Type}{l:List α}{i:Nat}(h:i<l.length):l[i]?=some l[i]:=by simp [h]
theorem cM{l:List aG}{i:Nat}(h:i<l.length):aD l i=l[i].ring:=by simp [aD,h]
theorem wJ{l:List aG}{m:Nat}(h:aD l m=true):eW l m=eW l (m+1):=by
 unfold aD at h
 have hm:m<l.length:=by grind
 rw [ao hm] at h;simp only [Option.any_some] at h
 unfold eW
 rw [List.drop_eq_getElem_cons hm,List.takeWhile_cons,if_pos h]
 simp;omega
theorem yK{l:List aG}{m:Nat}(h:aD l m=false):eW l m=m:=by
 unfold eW
 rcases Nat.lt_or_ge m l.length with hm | hm
 ·
  rw [cM hm] at h;rw [List.drop_eq_getElem_cons hm,List.takeWhile_cons,if_neg (by simp [h])]
  simp
 rw [List.drop_eq_nil_of_le hm];simp
theorem oX{l:List aG}{m:Nat}(h:l.length≤m):aD l m=false:=by grind [aD]
theorem ue{l:List aG}{k:Nat}(h:aD l k=true):bY l (k+1)=bY l k:=by simp [bY,h]
theorem wK{l:List aG}{k:Nat}(h:k=0∨aD l (k - 1)=false):bY l k=k:=by
 cases k with
 | zero=>rfl
 | succ k=>grind [bY]
theorem LH(n m:Int):n.tmod m % m=n % m:=by
 have h:=Int.tmod_add_mul_tdiv n m
 have:n % m=(n.tmod m+m*n.tdiv m) % m:=by rw [h]
 rw [this,Int.add_mul_emod_self_left]
end Go.Rc
namespace Go.Rc
theorem dD{α:Type}{l:List α}{k:Nat}(hk:k<l.length) {P:Nat→α→Prop}(h:∀j x,j<k→l[j]?=some x→P j x) (hP:P k l[k]):∀j x,j<k+1→l[j]?=some x→P j x:=by grind
end Go.Rc

namespace Go.Rc
open Go
def az(k:Key):Bool:=decide (k.kind=1) || (decide (k.kind=2) || decide (k.kind=30))
def oY(n:Int):Bool:=decide (n=7) || (decide (n=14) || (decide (n=17) || decide (n=18)))
def aA(k:Key):Bool:=decide (k.kind=32) || (decide (1≤k.kind) && decide (k.kind≤22) && oY k.kind)
def decFrom(s:List UInt8) (n:Int):Int:=match s with
 | []=>n
 | c::r=>if c.toNat<48∨57<c.toNat then -1 else decFrom r (10*n+((c.toNat:Int) - 48))
def fb(s:ByteArray):Int:=
 if s.size=0∨9<s.size∨(s.data.toList.head?=some 48∧s.size≠1) then -1 else decFrom s.data.toList 0
def number(k:Key):Int:=if 30≤k.kind∧k.kind≤32∧fb k.text≤99 then fb k.text else -1
def gN(k:Key):Bool:=
 if 30≤k.kind∧k.kind≤32 then decide (0≤number k)
 else decide (1≤k.kind∧k.kind≤22∧k.text.size≤1073741824∧(k.text=⟨#[]⟩∨(k.kind≠1∧k.kind≠21)))
def dn:Key:=⟨0,⟨#[]⟩⟩
def dx(n:Int):Key:=if n<0∨99<n then dn else ⟨30,itoa n⟩
def aL(ab:List aG) (n:Int):Key:=if n<0∨(ab.length:Int)≤n∨99<n then dn else ⟨if aD ab n.toNat then 32 else 31,itoa n⟩
def cv(a b:Key):Int:=if a.kind<b.kind then -1 else if b.kind<a.kind then 1 else Lib.compareBytes a.text.data.toList b.text.data.toList
end Go.Rc
namespace Go.Rc
open Go
theorem Cm(s:ByteArray):s=⟨#[]⟩↔s.size=0:=by
 constructor
 ·
  rintro rfl;rfl
 intro h;obtain⟨d⟩:=s;grind [ByteArray.size]
def oZ(s:ByteArray):Bool:=decide (s=⟨#[]⟩) || (decide (9<(s.size:Int)) || (decide (((s.data.toList.head?.map (·.toNat)).getD 0:Int)=48) && decide (s≠⟨#[48]⟩)))
theorem F7(s:ByteArray) (h:0<s.size):∃b,s[0]?=some b∧((s.data.toList.head?.map (·.toNat)).getD 0:Int)=(b.toNat:Int):=by
 obtain⟨⟨l⟩⟩:=s
 cases l with
 | nil=>simp [ByteArray.size] at h
 | cons b r=>exact⟨b,rfl,by simp⟩
theorem yL(s:ByteArray):s=⟨#[48]⟩↔s.data.toList.head?=some 48∧s.size=1:=by
 obtain⟨⟨l⟩⟩:=s
 cases l with
 | nil=>simp
 | cons b r=>grind [ByteArray.size]
theorem wL(s:ByteArray):fb s=if oZ s=true then -1 else decFrom s.data.toList 0:=by
 unfold fb
 congr 1
 simp only [oZ,Bool.or_eq_true,Bool.and_eq_true,decide_eq_true_eq,Cm];refine propext (or_congr_right (or_congr (by omega) ?_));rw [show(s≠⟨#[48]⟩) = ¬(s.data.toList.head?=some 48∧s.size=1) from by rw [ne_eq,yL]]
 cases h:s.data.toList.head? with
 | none=>simp
 | some b=>
  simp
  have:(b.toNat=48↔b=48):=by rw [← UInt8.toNat_inj];rfl
  grind
theorem LI{s:ByteArray}(h:oZ s=false):s.size≤9:=by
 simp [oZ] at h
 omega
theorem Dw(s:ByteArray) {i:Nat}{n:Int}(h:i<s.size):∃b,s[i]?=some b∧decFrom (s.data.toList.drop i) n=if (b.toNat:Int)<48∨57<(b.toNat:Int) then -1 else decFrom (s.data.toList.drop (i+1)) (10*n+((b.toNat:Int) - 48)):=by
 have h':i<s.data.toList.length:=by rw [Array.length_toList];exact h
 refine⟨s.data.toList[i],?_,?_⟩
 ·
  obtain⟨⟨l⟩⟩:=s
  have e:(ByteArray.mk ⟨l⟩)[i]?=if h:i<(ByteArray.mk ⟨l⟩).size then some (ByteArray.mk ⟨l⟩)[i] else none:=rfl
  rw [e,dif_pos h]
  rfl
 grind [List.drop_eq_getElem_cons,decFrom]
theorem F8(k:Key) (h:k.kind<30∨32<k.kind):gN k=(decide (1≤k.kind) && (decide (k.kind≤22) && (decide ((k.text.size:Int)≤1073741824) && (decide (k.text=⟨#[]⟩) || (decide (k.kind≠1) && decide (k.kind≠21)))))):=by
 unfold gN
 grind
end Go.Rc

namespace Go.Rc
open Go
instance:Inhabited aG:=⟨⟨false,[],0,0⟩⟩
instance:Inhabited Ask:=⟨⟨false,false,0,0⟩⟩
def Ask.val(x:Ask):Value:=.agg #[.bool x.cell,.bool x.pick,.int .i64 x.n,.int .i64 x.Ip]
structure F9 where
 done:Bool
 value:ByteArray
 ask:Key
 deriving DecidableEq
def F9.val(t:F9):Value:=.agg #[.bool t.done,.string t.value,.int .i64 t.ask.kind,.string t.ask.text]
def gO(ab:List aG) (i:Nat):Int:=if aD ab i then (block ab i).2 else (block ab i).1
def iC(ab:List aG) (i:Nat) (cell:Bool) (n:Int):Bool:=
 if cell then decide (0≤n) && decide (n≤15) else decide (0≤n) && decide (n<gO ab i)
def dE(s:ByteArray):Nat:=if fb s<0∨65535<fb s then 0 else (fb s).toNat
theorem nE(s:ByteArray):dE s≤65535:=by unfold dE;split <;> omega
def xK(c:Nat) (l:List Nat):Nat:=l.foldl (· + ·) c
def wM(c:Nat) (l:List Nat):Nat:=l.foldl max c
def gx(c:Nat) (l:List Nat):Nat:=l.foldl (· ||| ·) c
def eX(kind:Int) (c:Nat) (l:List Nat):Nat:=
 if kind=1 then xK c l % 1000 else if kind=2 then xK c l / 2 % 1000 else if kind=3 then wM c l else if kind=4 then xK c l % 2 else gx c l
theorem sU{f:Nat→Nat→Nat}{c:Nat}{l:List Nat}{i:Nat}(h:i<l.length):(l.take (i+1)).foldl f c=f ((l.take i).foldl f c) l[i]:=by grind [List.take_succ_eq_append_getElem]
theorem Cn{c:Nat}{l:List Nat}{i:Nat}(h:i<l.length):xK c (l.take (i+1))=xK c (l.take i)+l[i]:=sU h
theorem yM{c:Nat}{l:List Nat}{i:Nat}(h:i<l.length):wM c (l.take (i+1))=max (wM c (l.take i)) l[i]:=sU h
theorem yN{c:Nat}{l:List Nat}{i:Nat}(h:i<l.length):gx c (l.take (i+1))=gx c (l.take i) ||| l[i]:=sU h
theorem yk{c:Nat}:∀{l:List Nat},(∀x∈l,x≤65535)→xK c l≤c+65535*l.length:=by
 intro l
 induction l generalizing c with
 | nil=>simp [xK]
 | cons x r ih=>
  intro h
  have h1:=ih (c:=c+x) fun y hy=>h y (by simp [hy])
  have h2:=h x (by simp)
  grind [xK]
theorem qo{c:Nat}:∀{l:List Nat},c≤65535→(∀x∈l,x≤65535)→wM c l≤65535:=by
 intro l
 induction l generalizing c with
 | nil=>intro h _;simpa [wM] using h
 | cons x r ih=>
  intro h0 h;have h2:=h x (by simp)
  exact ih (c:=max c x) (by omega) fun y hy=>h y (by simp [hy])
theorem oy{c:Nat}:∀{l:List Nat},c≤65535→(∀x∈l,x≤65535)→gx c l≤65535:=by
 intro l
 induction l generalizing c with
 | nil=>intro h _;simpa [gx] using h
 | cons x r ih=>
  intro h0 h;have h2:=h x (by simp)
  refine ih (c:=c ||| x) ?_ fun y hy=>h y (by simp [hy])
  have:c ||| x<2 ^ 16:=Nat.or_lt_two_pow (by omega) (by omega)
  omega
theorem ru{kind:Int}{c:Nat}{l:List Nat}(hc:c≤65535) (h:∀x∈l,x≤65535):eX kind c l≤65535:=by grind [eX,qo,oy]
def dt(ab:List aG) (k:Key) (ah:List ByteArray):F9:=
 if number k<0∨(ab.length:Int)≤number k∨aL ab (number k)≠k then ⟨true,⟨#[]⟩,dn⟩
 else
  let r:=ab[(number k).toNat]!
  if r.asks.length≤ah.length then ⟨true,itoa (eX r.final r.c.toNat ((ah.take r.asks.length).map dE)),dn⟩
  else
   let x:=r.asks[ah.length]!
   let to:=if x.pick=true∧(ah.length=0∨dE ah[ah.length - 1]! % 2=0) then x.Ip else x.n
   ⟨false,⟨#[]⟩,if x.cell then dx to else aL ab to⟩
def gC(x:Ask) (ah:List ByteArray):Bool:=x.pick && (decide (ah.length=0) || decide (dE ah[ah.length - 1]! % 2=0))
def sV(x:Ask) (ah:List ByteArray):Int:=if gC x ah then x.Ip else x.n
theorem N4{ab:List aG}{k:Key}{ah:List ByteArray}(h:number k<0∨(ab.length:Int)≤number k∨aL ab (number k)≠k):dt ab k ah=⟨true,⟨#[]⟩,dn⟩:=by
 unfold dt;rw [if_pos h]
theorem oz{ab:List aG}{k:Key}{ah:List ByteArray}{i:Nat}(hk:number k=i) (hi:i<ab.length) (ho:aL ab (number k)=k) (hn:ab[i].asks.length≤ah.length) :
  dt ab k ah=⟨true,itoa (eX ab[i].final ab[i].c.toNat ((ah.take ab[i].asks.length).map dE)),dn⟩:=by
 unfold dt
 grind
theorem oA{ab:List aG}{k:Key}{ah:List ByteArray}{i:Nat}(hk:number k=i) (hi:i<ab.length) (ho:aL ab (number k)=k) (hn:ah.length<ab[i].asks.length) :
  dt ab k ah=⟨false,⟨#[]⟩,if ab[i].asks[ah.length].cell then dx (sV ab[i].asks[ah.length] ah) else aL ab (sV ab[i].asks[ah.length] ah)⟩:=by
 unfold dt
 rw [if_neg (by rw [ho];simp;omega)];simp only [hk,Int.toNat_natCast,getElem!_pos ab i hi,getElem!_pos ab[i].asks ah.length hn];rw [if_neg (by omega)];simp only [sV,gC,Bool.and_eq_true,Bool.or_eq_true,decide_eq_true_eq]
def gD(ab:List aG) (i:Nat) (ring:Bool) (k:Nat) (x:Ask):Bool:=
 iC ab i x.cell x.n && (if x.pick then !ring && decide (k≠0) && iC ab i x.cell x.Ip else decide (x.Ip=0))
def jy(r:aG):Bool:=
 if r.ring then decide (r.final=5) && decide (0≤r.c) && decide (r.c≤65535) else decide (1≤r.final) && decide (r.final≤4) && decide (0≤r.c) && decide (r.c≤999)
def o0(ab:List aG) (i:Nat) (r:aG):Prop:=r.asks.length≤6∧(∀k x,r.asks[k]?=some x→gD ab i r.ring k x=true)∧jy r=true
def aw(ab:List aG):Prop:=ab.length≤24∧∀i r,ab[i]?=some r→o0 ab i r
theorem PV.orN{P:Program}{kv:KV}{w:World}{T U ty:TypeId}{x y:Operand}{p q:Nat}(hx:ev kv x=some (.int .i64 (p:Int))) (hy:ev kv y=some (.int .i64 (q:Int))) (hp:p<2 ^ 62) (hq:q<2 ^ 62) :
  PV P (.binOp .or T x y U) ty kv w (.int .i64 ((p ||| q:Nat):Int)):=by
 refine⟨rfl,by simp [known,opers,hx,hy],fun _ _ _ _=>ff .or (by simp) _ ?_ hx hy⟩;have h:p ||| q<2 ^ 62:=Nat.or_lt_two_pow hp hq
 have e:((BitVec.ofInt (IntKind.bits .i64) (p:Int)) ||| (BitVec.ofInt (IntKind.bits .i64) (q:Int))).toNat=p ||| q:=by
  have hb:IntKind.bits .i64=64:=rfl
  grind
 simp only [Op.intBits,e];rw [rl (by omega) (by omega)]
 rfl
end Go.Rc

namespace Go.Rc
open Go
def aa0(z:Int) (r:List Value):Prop:=r=[.int .i64 z]
def Ints(A:Nat→Prop) (w:World) (a:Option Addr) (n c:Nat) (l:List Int):Prop:=SR A w 1 aa0 a n c l
def Iv(A:Nat→Prop) (w:World) (E d:Nat):Prop:=
 ∃(l:List Int) (a:Option Addr) (n c:Nat) (at_:Nat),cV w d E [.slice a n c,.int .i64 (at_:Int)]∧Ints A w a n c l∧n≤400∧at_≤400
variable {A:Nat→Prop}{w w':World}{E d:Nat}
theorem Iv.lt(h:Iv A w E d):d<w.heap.size:=by obtain⟨_,_,_,_,_,h,_⟩:=h;exact h.lt
structure Change where
 key:Key
 value:ByteArray
def Change.cells(c:Change):List Value:=[.int .i64 c.key.kind,.string c.key.text,.string c.value]
def Change.small(c:Change):Prop:=(∃n:Int,0≤n∧n≤9∧c.key=dx n)∧c.value.size≤100
end Go.Rc
namespace Go.Rc
open Go
def o4(ab:List aG) (k:Key):Prop:=(∃n:Int,0≤n∧n≤3∧k=dx n)∨∃i:Nat,i<ab.length∧k=aL ab i
end Go.Rc

