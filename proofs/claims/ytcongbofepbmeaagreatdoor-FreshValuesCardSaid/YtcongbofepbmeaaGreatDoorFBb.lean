/- Base of the proof: frames, memory, ownership, and the plain meaning of rule systems. Conditions: as each lemma says. -/
import Derived.Test.YtcongbofepbmeaaGreatDoorFBa
import Derived.Laws.StructEq
import Derived.Laws.OwnMore
import Derived.MapKept
import Derived.Maps.RangeRun
import Derived.Laws.Slices
import Derived.Lib.LaidTab
import Derived.Lib.ItoaNum
import Derived.Lib.ItoaMem
import Derived.Shelf.Small.Strs
set_option linter.all false
namespace Go.Rc
open Go
def j9:Nat→KV→KV
 | 0,kv=>kv
 | _+1,[]=>[]
 | k+1,_::r=>j9 k r
def xJ(t:Nat):KV→Bool
 | []=>false
 | (s,_)::r=>match Nat.beq s t with
  | true=>true
  | false=>xJ t r
def nR:Nat→KV→KV→Bool
 | 0,_,_=>true
 | _+1,[],_=>true
 | k+1,(t,_)::r,kv=>match xJ t kv with
  | true=>false
  | false=>nR k r kv
theorem oS{t:Nat}:∀{kv:KV},xJ t kv=false→look kv t=none:=by
 intro kv
 induction kv with
 | nil=>intro _;rfl
 | cons p r f=>grind [xJ,look]
theorem Fe{t:Nat}{v:Value}:∀(k:Nat) (f kv:KV),j9 k f=kv→nR k f kv=true→look kv t=some v→look f t=some v:=by
 intro k
 induction k with
 | zero=>grind [j9]
 | succ k i=>
  intro f kv h j hl
  cases f with
  | nil=>grind [j9]
  | cons p r=>grind [j9,nR,Nat.eq_of_beq_eq_true,oS,look]
theorem Cg{t:Nat}{v:Value}:∀(k:Nat) (f kv:KV) {i:KV},j9 k f=kv→nR k f i=true→(∀s u,look i s=some u→look kv s=some u)→look i t=some v→look f t=some v:=by
 intro k
 induction k with
 | zero=>grind [j9]
 | succ k j=>
  intro f kv i h m he hl
  cases f with
  | nil=>grind [j9]
  | cons p r=>grind [j9,nR,Nat.eq_of_beq_eq_true,oS,look]
def gU(t:Nat):KV→KV
 | []=>[]
 | (s,v)::r=>match Nat.beq s t with
  | true=>gU t r
  | false=>(s,v)::gU t r
theorem zv{t:Nat}:∀{kv:KV},look (gU t kv) t=none:=by
 intro kv
 induction kv with
 | nil=>rfl
 | cons p r f=>grind [gU,look]
theorem Ch{t s:Nat}{u:Value}:∀{kv:KV},look (gU t kv) s=some u→look kv s=some u:=by
 intro kv
 induction kv with
 | nil=>intro h;cases h
 | cons p r f=>grind [gU,Nat.eq_of_beq_eq_true,look,zv]
theorem Fr.drop{n:Nat}{a:Act}{f kv:KV}(h:Fr n a f) (k:Nat) (i:j9 k f=kv) (j:nR k f kv=true):Fr n a kv:=
 ⟨h.size,h.j6,fun t v hl=>h.val t v (Fe k f kv i j hl)⟩
theorem Fr.add{n:Nat}{a:Act}{kv:KV}(h:Fr n a kv) {t:Nat}{v:Value}(f:a.tmps.getD t undef=v):Fr n a ((t,v)::kv):=
 ⟨h.size,h.j6,fun s u hl=>by
  simp only [look] at hl
  cases hb:Nat.beq t s with
  | true=>simp_all
  | false=>rw [hb] at hl;exact h.val s u hl⟩
theorem Sub.nil{kv:KV}:Sub kv []:=trivial
theorem Sub.cons{kv r:KV}{t:Nat}{v:Value}(h:Rc.look kv t=some v) (hr:Sub kv r):Sub kv ((t,v)::r):=⟨h,hr⟩
theorem Sub.ib{kv r:KV}{t:Nat}{k:IntKind}{z f:Int}(h:Rc.look kv t=some (.int k z)) (i:z=f) (hr:Sub kv r):Sub kv ((t,.int k f)::r):=⟨by rw [h,i],hr⟩
theorem Sub.RU{kv r:KV}{t:Nat}{v v':Value}(h:Rc.look kv t=some v) (f:v=v') (hr:Sub kv r):Sub kv ((t,v')::r):=⟨by rw [h,f],hr⟩
section
variable {P:Program}{ops:Array Oper}{Q:Exit→Act→World→Prop}{n:Nat}{kv:KV}{w:World}
def qN(n t:Nat) (v:Value) (kv:KV) (J:World→Prop):Exit→Act→World→Prop:=fun e a w'=>e=.normal∧Fr n a ((t,v)::kv)∧J w'
theorem WC.jH{c:Code}{t:Nat}{v:Value}(J:World→Prop) (h:WC P c (qN n t v kv J) n kv w) (f:∀w',J w'→EX Q .normal n ((t,v)::kv) w'):WC P c Q n kv w:=
 fun a i=>wp_mono (h a i) fun e j w' ⟨he,m,o⟩=>by subst he;exact f w' o j m
theorem EX.RV{f:KV}{t:Nat}{v v':Value}{J:World→Prop}(k:Nat) (i:j9 k f=kv) (j:nR k f kv=true) (m:look f t=some v') (he:v'=v) (o:J w) :
  EX (qN n t v kv J) .normal n f w:=fun _ h=>⟨rfl,(h.drop k i j).add (by rw [← he];exact h.val t v' m),o⟩
theorem WC.kV{c:Code}{t:Nat}{v:Value}(J:World→Prop) (h:WC P c (qN n t v (gU t kv) J) n kv w) (f:∀w',J w'→EX Q .normal n ((t,v)::gU t kv) w'):WC P c Q n kv w:=
 fun a i=>wp_mono (h a i) fun e j w' ⟨he,m,o⟩=>by subst he;exact f w' o j m
theorem EX.Nw{f:KV}{t:Nat}{v v':Value}{J:World→Prop}(k:Nat) (j:j9 k f=kv) (m:nR k f (gU t kv)=true) (o:look f t=some v') (he:v'=v) (p:J w) :
  EX (qN n t v (gU t kv) J) .normal n f w:=fun a i=>⟨rfl,Fr.add ⟨i.size,i.j6,fun s u hl=>i.val s u (Cg k f kv j m (fun s u h=>Ch h) hl)⟩ (by rw [← he];exact i.val t v' o),p⟩
theorem WL.fE{l:List Oper}{t:Nat}{b:Bool}(ht:look kv t=some (.bool b)) (hT:b=true→WL P ops Q l n ((t,.bool true)::kv) w) (h:b=false→WL P ops Q l n ((t,.bool false)::kv) w) :
  WL P ops Q l n kv w:=fun a f=>by
 cases b
 ·
  exact h rfl a (f.add (f.val t _ ht))
 exact hT rfl a (f.add (f.val t _ ht))
def mx(kv kv':KV):Prop:=∀t,look kv t=look kv' t
theorem mx.kR{kv f:KV}(h:mx kv f) (d:Option Tmp) (v:Value):mx (kR kv d v) (kR f d v):=by
 intro t
 cases d with
 | none=>exact h t
 | some d=>simp only [Rc.kR,look];cases Nat.beq d t <;> simp [h t]
theorem mx.ev{kv f:KV}(h:mx kv f) (x:Operand):ev kv x=ev f x:=by cases x <;> simp [Rc.ev,h _]
theorem mx.jk{kv f:KV}(h:mx kv f):jk kv=jk f:=funext fun x=>by simp [Rc.jk,h.ev x]
theorem mx.known{kv f:KV}(h:mx kv f) (op:Op):known kv op=known f op:=by simp [Rc.known,h.ev]
theorem mx.gd{kv f:KV}(h:mx kv f) (ops:Array Oper) (o:Oper):gd ops kv o=gd ops f o:=by
 unfold Rc.gd
 cases o.guard with
 | none=>rfl
 | some g=>
  simp only
  cases (ops[g.1]?).bind (·.dst) with
  | none=>rfl
  | some t=>simp [h t]
theorem DW.RW{n:Nat}{C:World→Prop}{T:Nat→World→World→Prop}{E:Nat→Option (Value→World→Prop)}{Fin:KV→World→Prop}(s:∀kv j w,mx kv j→Fin kv w→Fin j w) :
  ∀(l:List Oper) (i:Nat) (kv j:KV) (F:jF),mx kv j→DW P ops n C T E Fin i l kv F→DW P ops n C T E Fin i l j F:=by
 intro l
 induction l with
 | nil=>intro i kv j F h m w p t;exact s _ _ _ h (m w p t)
 | cons o r q=>
  intro i kv j F h m;obtain⟨h1,u,x⟩:=m;refine⟨h1,u,?_⟩;rw [← h.gd,← h.known,← h.jk]
  rcases x with⟨a,b⟩ | ⟨a,b,c,e,d,f⟩ | ⟨a,b,S,c,d,f⟩
  ·
   exact .inl ⟨a,q _ _ _ _ (h.kR _ _) b⟩
  ·
   exact .inr (.inl ⟨a,b,c,e,d,q _ _ _ _ (h.kR _ _) f⟩)
  exact .inr (.inr ⟨a,b,S,c,d,fun v w p y=>q _ _ _ _ (h.kR _ _) (f v w p y)⟩)
theorem mx.fr{a:Act}{kv i:KV}(h:mx kv i) (f:Fr n a i):Fr n a kv:=⟨f.size,f.j6,fun t v j=>f.val t v (by rw [← h t];exact j)⟩
theorem DW.fE{m i:Nat}{C:World→Prop}{T:Nat→World→World→Prop}{E:Nat→Option (Value→World→Prop)}{f:Array Oper}{l l':List Oper}{F:jF}{t:Nat}{b:Bool}
  (ht:look kv t=some (.bool b)) (hT:b=true→DW P ops m C T E (fun kv w=>WL P f Q l' n kv w) i l ((t,.bool true)::kv) F)
  (j:b=false→DW P ops m C T E (fun kv w=>WL P f Q l' n kv w) i l ((t,.bool false)::kv) F):DW P ops m C T E (fun kv w=>WL P f Q l' n kv w) i l kv F:=by
 have key:∀c:Bool,look kv t=some (.bool c)→mx ((t,.bool c)::kv) kv:=fun c hc s=>by
  simp only [look]
  cases hb:Nat.beq t s with
  | true=>simp_all
  | false=>rfl
 have o:∀(kv p:KV) (w:World),mx kv p→WL P f Q l' n kv w→WL P f Q l' n p w:=fun _ _ _ h hw a j=>hw a (h.fr j)
 cases b
 ·
  exact DW.RW o _ _ _ _ _ (key false ht) (j rfl)
 exact DW.RW o _ _ _ _ _ (key true ht) (hT rfl)
theorem Ci:∀{l:List (Nat × (Value→World→Prop))}{i S},bK l i=some S→∃p∈l,p.2=S:=by
 intro l
 induction l with
 | nil=>intro i S h;simp [bK] at h
 | cons p r f=>grind [bK]
def XQ(C:World→Prop) (T:Nat→World→World→Prop):List (Nat × (Value→World→Prop))→Prop
 | []=>True
 | (_,S)::r=>(∀j v w w',C w→C w'→T j w w'→S v w→S v w')∧XQ C T r
theorem aS{C:World→Prop}{T:Nat→World→World→Prop}{l:List (Nat × (Value→World→Prop))}{ops:Array Oper}(h:XQ C T l) :
  ∀i S,bK l i=some S→∀j m,bK l j=some m→j≠i→j∉eM ops i→∀v w w',C w→C w'→T j w w'→S v w→S v w':=by
 intro i S hi j m o _ _;obtain⟨p,f,s⟩:=Ci hi
 clear hi o
 induction l with
 | nil=>cases f
 | cons q r t=>
  rcases List.mem_cons.1 f with rfl | f
  ·
   subst s;exact h.1 j
  exact t h.2 f
def WA(C:World→Prop) (T:Nat→World→World→Prop) (ops:Array Oper) (i:Nat) (S:Value→World→Prop):List (Nat × (Value→World→Prop))→Prop
 | []=>True
 | (j,_)::r=>(match Nat.beq j i || iJ j (eM ops i) with
  | true=>True
  | false=>∀v w w',C w→C w'→T j w w'→S v w→S v w')∧WA C T ops i S r
def XR(C:World→Prop) (T:Nat→World→World→Prop) (ops:Array Oper) (all:List (Nat × (Value→World→Prop))):List (Nat × (Value→World→Prop))→Prop
 | []=>True
 | (i,S)::r=>WA C T ops i S all∧XR C T ops all r
theorem sO:∀{l:List (Nat × (Value→World→Prop))}{i S},bK l i=some S→(i,S)∈l:=by
 intro l
 induction l with
 | nil=>intro i S h;cases h
 | cons q r f=>grind [bK,Nat.eq_of_beq_eq_true]
theorem Hc{C:World→Prop}{T:Nat→World→World→Prop}{ops:Array Oper}{i:Nat}{S:Value→World→Prop}:∀{l:List (Nat × (Value→World→Prop))},WA C T ops i S l→
  ∀j f,(j,f)∈l→j≠i→j∉eM ops i→∀v w w',C w→C w'→T j w w'→S v w→S v w':=by
 intro l
 induction l with
 | nil=>intro _ j f h;cases h
 | cons q r m=>
  obtain⟨s,t⟩:=q;intro h j f hm o p
  rcases List.mem_cons.1 hm with e | hm
  ·
   simp at e
   obtain⟨rfl,_⟩:=e;have h1:=h.1
   grind [Nat.eq_of_beq_eq_true,gK]
  exact m h.2 j f hm o p
theorem Hd{C:World→Prop}{T:Nat→World→World→Prop}{ops:Array Oper}{all:List (Nat × (Value→World→Prop))}:∀{l:List (Nat × (Value→World→Prop))},XR C T ops all l→
  ∀i S,(i,S)∈l→WA C T ops i S all:=by
 intro l
 induction l with
 | nil=>intro _ i S h;cases h
 | cons q r f=>
  obtain⟨j,m⟩:=q;intro h i S hm
  rcases List.mem_cons.1 hm with e | hm
  ·
   simp at e;obtain⟨rfl,rfl⟩:=e;exact h.1
  exact f h.2 i S hm
theorem kW{C:World→Prop}{T:Nat→World→World→Prop}{l:List (Nat × (Value→World→Prop))}{ops:Array Oper}(h:XR C T ops l l) :
  ∀i S,bK l i=some S→∀j f,bK l j=some f→j≠i→j∉eM ops i→∀v w w',C w→C w'→T j w w'→S v w→S v w':=
 fun i S hi j f m o p=>Hc (Hd h i S (sO hi)) j f (sO m) o p
theorem zn.gS{S:List Nat}{w0 w w':World}{b:Nat}(h:zn w w' b) (c:aQ S w0 w):w0.heap.size≤b:=Nat.le_trans c.size h.ge
theorem aQ.own{S:List Nat}{a w w':World}{b:Nat}(c:aQ S a w) (s:aQ [b] w w') (hb:a.heap.size≤b):aQ S a w':=
 c.trans' s fun x f=>.inr (by simp at f;subst f;exact hb)
theorem zn.ne{w w':World}{b x:Nat}(h:zn w w' b) (f:x<w.heap.size):x≠b:=by have:=h.ge;omega
/-! ### results that lie in memory -/
inductive RS (P:Program) (kv:KV) (w:World):List ResultVar→List Value→Prop where
 | nil:RS P kv w [] []
 | tmp {t v r vs} (h:look kv t=some v) (hr:RS P kv w r vs):RS P kv w (.tmp t::r) (v::vs)
 | cell {t T k b us r vs} (hT:rS P T k) (h:look kv t=some (.pointer (some ⟨b,0,none⟩))) (hc:w.rangeAt b 0 us) (hl:us.length=k) (hr:RS P kv w r vs):RS P kv w (.cell t T::r) (.agg us.toArray::vs)
def JL(tmps:Array Value):ResultVar→Sem Value
 | .tmp t=>pure (tmps.getD t undef)
 | .cell x t=>do loadVar t (← asAddr (tmps.getD x undef))
theorem zw{a:Act}(f:Fr n a kv):∀{rs:List ResultVar}{vs:List Value},RS P kv w rs vs→(rs.mapM (JL a.tmps)).run P w=.ok vs w:=by
 intro rs vs h
 induction h with
 | nil=>rfl
 | tmp h hr i=>
  have:=f.val _ _ h
  grind [Sem.run_bind,JL,Sem.run_pure,Result.andThen_ok]
 | cell hT h hc hl hr i=>
  have:=f.val _ _ h
  obtain⟨j,hu,m⟩:=hT.row;have o:=run_loadVar_mid (P:=P) w _ 0 _ _ j hc hu m (by rw [hT.2,hl])
  grind [Sem.run_bind,JL,asAddr,Sem.run_pure,Result.andThen_ok]
theorem qO{fn:Func}{a:Act}(f:Fr n a kv) {rs:List ResultVar}{vs:List Value}(hr:fn.results=rs.toArray) (h:RS P kv w rs vs) :
  (results fn a.tmps).run P w=.ok (if h:vs.toArray.size=1 then vs.toArray[0] else .tuple vs.toArray) w:=by
 have e:results fn a.tmps=(do let vs ← fn.results.mapM (JL a.tmps);pure (if h:vs.size=1 then vs[0] else .tuple vs)):=rfl;rw [e,hr,List.mapM_toArray];simp only [Sem.run_bind,map_eq_pure_bind,zw f h,Result.andThen_ok,Sem.run_pure]
theorem EX.fL{fn:Func}{R:Ending→World→Prop}{rs:List ResultVar}{vs:List Value}(hr:fn.results=rs.toArray) (h:RS P kv w rs vs) (hl:Nat.beq vs.length 1=false)
  (i:R (.returned (.tuple vs.toArray)) w):EX (bodyPost P fn R) .ret n kv w:=fun a f=>by
 refine⟨f.j6,_,qO f hr h,?_⟩
 have:¬vs.toArray.size=1:=fun e=>by simp at e;rw [e] at hl;cases hl
 rw [dif_neg this];exact i
theorem EX.XS{fn:Func}{R:Ending→World→Prop}{t T k b:Nat}{us:List Value}(hT:rS P T k) (hr:fn.results=#[.cell t T]) (ht:look kv t=some (.pointer (some ⟨b,0,none⟩))) (hc:w.rangeAt b 0 us) (hl:us.length=k)
  (h:R (.returned (.agg us.toArray)) w):EX (bodyPost P fn R) .ret n kv w:=fun a f=>
 ⟨f.j6,_,qO f (rs:=[.cell t T]) hr (.cell hT ht hc hl .nil),by simpa using h⟩
end
end Go.Rc

namespace Go.Rc
open Go
structure SL (A:Nat→Prop) (w:World) (k:Nat) (a:Option Addr) (n c:Nat) (cs:List Value):Prop where
 len:cs.length=n*k
 le:n≤140737488355328
 one:∀u∈cs,u.oneCell'=true
 at_:(n=0∧c=0)∨∃b o,a=some ⟨b,o,none⟩∧n≤c∧c≤maxLen∧A b∧b<w.heap.size∧w.rangeAt b o cs
variable {α:Type}{A:Nat→Prop}{w w':World}{k n c:Nat}{a:Option Addr}{cs:List Value}
theorem SL.nil(A:Nat→Prop) (w:World) (k:Nat):SL A w k none 0 0 []:=⟨by simp,by omega,by simp,.inl ⟨rfl,rfl⟩⟩
theorem SL.bT{S:List Nat}(h:SL A w k a n c cs) (hc:aQ S w w') (i:∀b∈S,¬A b):SL A w' k a n c cs:=by
 refine⟨h.len,h.le,h.one,?_⟩
 rcases h.at_ with h1 | ⟨b,o,h1,j,m,f,p,q⟩
 ·
  exact .inl h1
 exact .inr ⟨b,o,h1,j,m,f,Nat.lt_of_lt_of_le p hc.size,aV q hc fun hm=>i b hm f⟩
theorem SL.mono{f:Nat→Prop}(h:SL A w k a n c cs) (j:∀b,A b→b<w.heap.size→f b):SL f w k a n c cs:=by
 refine⟨h.len,h.le,h.one,?_⟩
 rcases h.at_ with h1 | ⟨b,o,h1,m,p,q,i,r⟩
 ·
  exact .inl h1
 exact .inr ⟨b,o,h1,m,p,j b q i,i,r⟩
def SR(A:Nat→Prop) (w:World) (k:Nat) (R:α→List Value→Prop) (a:Option Addr) (n c:Nat) (xs:List α):Prop:=
 n=xs.length∧∃rows:List (List Value),rows.length=xs.length∧(∀r∈rows,r.length=k)∧SL A w k a n c rows.flatten∧∀(i:Nat) x r,xs[i]?=some x→rows[i]?=some r→R x r
theorem ka:∀(rows:List (List Value)) (k i:Nat) (r:List Value),(∀r∈rows,r.length=k)→rows[i]?=some r→∀j v,r[j]?=some v→rows.flatten[i*k+j]?=some v:=by
 intro rows
 induction rows with
 | nil=>intro k i r _ h;simp at h
 | cons x xs o=>
  intro k i r hk h j v f;have m:x.length=k:=hk x (by simp)
  cases i with
  | zero=>
   simp at h;subst h
   have p:j<x.length:=(List.getElem?_eq_some_iff.1 f).1;simp only [Nat.zero_mul,Nat.zero_add,List.flatten_cons];rw [List.getElem?_append_left p];exact f
  | succ i=>
   have:=o k i r (fun r hr=>hk r (by simp [hr])) (by simpa using h) j v f
   simp only [List.flatten_cons];rw [List.getElem?_append_right (by rw [m,Nat.succ_mul];omega),m,← this]
   congr 1
   rw [Nat.succ_mul];omega
theorem SR.at{R:α→List Value→Prop}{xs:List α}(h:SR A w k R a n c xs) {i:Nat}{x:α}(hi:xs[i]?=some x) :
  ∃b o r,a=some ⟨b,o,none⟩∧r.length=k∧R x r∧w.rangeAt b (o+i*k) r∧A b:=by
 obtain⟨hn,rows,hl,hk,f,j⟩:=h;have m:i<xs.length:=(List.getElem?_eq_some_iff.1 hi).1;obtain⟨r,hr⟩:∃r,rows[i]?=some r:=⟨rows[i],by simp [hl,m]⟩
 rcases f.at_ with⟨h0,_⟩ | ⟨b,o,h1,_,_,p,_,q⟩
 ·
  omega
 exact⟨b,o,r,h1,hk r (List.mem_of_getElem? hr),j i x r hi hr,oe q (i*k) r (ka rows k i r hk hr),p⟩
theorem SR.bT{R R':α→List Value→Prop}{xs:List α}{S:List Nat}(h:SR A w k R a n c xs) (hc:aQ S w w') (f:∀b∈S,¬A b) (j:∀x r,R x r→R' x r):SR A w' k R' a n c xs:=by
 obtain⟨hn,rows,hl,hk,m,o⟩:=h;exact⟨hn,rows,hl,hk,m.bT hc f,fun i x r h1 p=>j x r (o i x r h1 p)⟩
theorem SR.ext{R:α→List Value→Prop}{xs:List α}(h:SR A w k R a n c xs) (hc:aQ [] w w'):SR A w' k R a n c xs:=h.bT hc (by simp) fun _ _ h=>h
theorem SR.mono{R R':α→List Value→Prop}{xs:List α}{f:Nat→Prop}(h:SR A w k R a n c xs) (j:∀b,A b→b<w.heap.size→f b) (m:∀x r,R x r→R' x r):SR f w k R' a n c xs:=by
 obtain⟨hn,rows,hl,hk,o,p⟩:=h;exact⟨hn,rows,hl,hk,o.mono j,fun i x r h1 q=>m x r (p i x r h1 q)⟩
theorem SR.nil(A:Nat→Prop) (w:World) (k:Nat) (R:α→List Value→Prop):SR A w k R none 0 0 []:=⟨rfl,[],rfl,by simp,SL.nil A w k,by simp⟩
theorem SR.le{R:α→List Value→Prop}{xs:List α}(h:SR A w k R a n c xs):n≤140737488355328:=by obtain⟨_,_,_,_,h,_⟩:=h;exact h.le
theorem SR.len{R:α→List Value→Prop}{xs:List α}(h:SR A w k R a n c xs):n=xs.length:=h.1
theorem PV.ei{P:Program}{kv:KV}{T E k:Nat}{ty:TypeId}{w:World}(hT:wG P T E k) {x y:Operand}{a:Option Addr}{b o m c i:Nat}(f:a=some ⟨b,o,none⟩) (h:ev kv x=some (.slice a m c)) (hy:ev kv y=some (.int .i64 (i:Int))) (hi:i<m) :
  PV P (.indexAddr T x y) ty kv w (.pointer (some ⟨b,o+i*k,none⟩)):=by
 subst f;exact PV.ix hT h hy hi
theorem PV.B5{P:Program}{kv:KV}{T E k:Nat}{ty:TypeId}{w:World}(hT:wG P T E k) {x y:Operand}{a:Option Addr}{b o m c:Nat}{z:Int}(i:Nat) (f:a=some ⟨b,o,none⟩) (h:ev kv x=some (.slice a m c)) (hy:ev kv y=some (.int .i64 z)) (j:z=(i:Int)) (hi:i<m) :
  PV P (.indexAddr T x y) ty kv w (.pointer (some ⟨b,o+i*k,none⟩)):=by
 subst f j;exact PV.ix hT h hy hi
/-! things of a fixed shape -/
structure Key where
 kind:Int
 text:ByteArray
 deriving DecidableEq
instance:Inhabited Key:=⟨⟨0,⟨#[]⟩⟩⟩
def Key.cells(k:Key):List Value:=[.int .i64 k.kind,.string k.text]
def Key.val(k:Key):Value:=.agg #[.int .i64 k.kind,.string k.text]
def xK(A:Nat→Prop) (w:World) (a:Option Addr) (n c:Nat) (l:List Key):Prop:=SR A w 2 (fun k r=>r=Key.cells k) a n c l
def Strs(A:Nat→Prop) (w:World) (a:Option Addr) (n c:Nat) (l:List ByteArray):Prop:=SR A w 1 (fun s r=>r=[.string s]) a n c l
structure Ask where
 cell:Bool
 pick:Bool
 n:Int
 Cj:Int
 deriving DecidableEq
def Ask.cells(x:Ask):List Value:=[.bool x.cell,.bool x.pick,.int .i64 x.n,.int .i64 x.Cj]
structure aA where
 ring:Bool
 asks:List Ask
 final:Int
 c:Int
 deriving DecidableEq
def zx(A:Nat→Prop) (w:World) (x:aA) (r:List Value):Prop:=
 ∃a n c,r=[.bool x.ring,.slice a n c,.int .i64 x.final,.int .i64 x.c]∧SR A w 4 (fun k r=>r=Ask.cells k) a n c x.asks
def dX(A:Nat→Prop) (w:World) (a:Option Addr) (n c:Nat) (l:List aA):Prop:=SR A w 4 (zx A w) a n c l
theorem xK.bT{S:List Nat}{l:List Key}(h:xK A w a n c l) (hc:aQ S w w') (f:∀b∈S,¬A b):xK A w' a n c l:=SR.bT h hc f fun _ _ h=>h
theorem xK.ext{l:List Key}(h:xK A w a n c l) (hc:aQ [] w w'):xK A w' a n c l:=xK.bT h hc (by simp)
theorem Strs.bT{S:List Nat}{l:List ByteArray}(h:Strs A w a n c l) (hc:aQ S w w') (f:∀b∈S,¬A b):Strs A w' a n c l:=SR.bT h hc f fun _ _ h=>h
theorem Strs.ext{l:List ByteArray}(h:Strs A w a n c l) (hc:aQ [] w w'):Strs A w' a n c l:=Strs.bT h hc (by simp)
theorem zx.bT{S:List Nat}{x:aA}{r:List Value}(h:zx A w x r) (hc:aQ S w w') (f:∀b∈S,¬A b):zx A w' x r:=by
 obtain⟨a,n,c,h1,i⟩:=h;exact⟨a,n,c,h1,i.bT hc f fun _ _ h=>h⟩
theorem dX.bT{S:List Nat}{l:List aA}(h:dX A w a n c l) (hc:aQ S w w') (f:∀b∈S,¬A b):dX A w' a n c l:=SR.bT h hc f fun _ _ h=>h.bT hc f
theorem dX.ext{l:List aA}(h:dX A w a n c l) (hc:aQ [] w w'):dX A w' a n c l:=dX.bT h hc (by simp)
end Go.Rc

namespace Go.Rc
open Go
/-! ### literals -/
def zy:List Value→List Value→List Value
 | _::l,u::us=>u::zy l us
 | l,[]=>l
 | [],_::_=>[]
def putAt:List Value→Nat→List Value→List Value
 | l,0,us=>zy l us
 | [],_+1,_=>[]
 | x::l,n+1,us=>x::putAt l n us
def fM:Value→List Value
 | .agg cs=>cs.toList
 | v=>[v]
theorem nk(v:Value):v.cells.toList=fM v:=by cases v <;> rfl
def wL(places:List (Nat × Nat)):List Value→List (Nat × Value)→List Value
 | z,[]=>z
 | z,(i,v)::r=>match places[i]? with
  | none=>z
  | some (off,_)=>wL places (putAt z off (fM v)) r
def sP(places:List (Nat × Nat)):Nat→List (Nat × Value)→Bool
 | _,[]=>true
 | n,(i,v)::r=>match places[i]? with
  | none=>false
  | some (off,size)=>Nat.beq (fM v).length size && Nat.ble (off+(fM v).length) n && sP places n r
theorem He:∀(us l:List Value),us.length≤l.length→zy l us=us++l.drop us.length:=by
 intro us
 induction us with
 | nil=>grind [zy]
 | cons u us f=>
  intro l h
  cases l with
  | nil=>simp at h
  | cons x l=>grind [zy]
theorem oT:∀(n:Nat) (l us:List Value),n+us.length≤l.length→putAt l n us=l.take n++us++l.drop (n+us.length):=by
 intro n
 induction n with
 | zero=>grind [putAt,He]
 | succ n f=>
  intro l us h
  cases l with
  | nil=>simp at h
  | cons x l=>grind [putAt]
theorem wM(us:List Value):∀(i off:Nat) (cells:Array Value),off+i+us.length≤cells.size→
  ((us.zipIdx i).foldl (fun cs (p:Value × Nat)=>cs.setIfInBounds (off+p.2) p.1) cells).toList=cells.toList.take (off+i)++us++cells.toList.drop (off+i+us.length):=by
 induction us with
 | nil=>intro i off cells _;simp
 | cons u us j=>
  intro i off cells h;simp only [List.zipIdx_cons,List.foldl_cons];rw [j (i+1) off _ (by simp at h ⊢;omega)]
  have f:off+i<cells.toList.length:=by simp at h ⊢;omega
  simp only [Array.toList_setIfInBounds];rw [List.take_set,List.drop_set,if_pos (by omega)];rw [show off+(i+1)=off+i+1 by omega,List.take_succ_eq_append_getElem f]
  have:(cells.toList.take (off+i)++[cells.toList[off+i]]).set (off+i) u=cells.toList.take (off+i)++[u]:=by
   rw [List.set_append_right _ _ (by simp;omega)]
   simp [show min (off+i) cells.size=off+i by simp at f;omega]
  grind
theorem fill_eq(places:List (Nat × Nat)):∀(parts:List (Nat × Value)) (cells:Array Value),sP places cells.size parts=true→
  Instr.fill (fun i:Nat=>places[i]?) cells parts=some (wL places cells.toList parts).toArray:=by
 intro parts
 induction parts with
 | nil=>intro cells _;simp [Instr.fill,wL]
 | cons p r s=>
  obtain⟨i,v⟩:=p;intro cells h;simp only [sP] at h;simp only [Instr.fill,wL]
  cases f:places[i]? with
  | none=>rw [f] at h;cases h
  | some q=>
   obtain⟨off,size⟩:=q;rw [f] at h;simp only [Bool.and_eq_true] at h;obtain⟨⟨h1,m⟩,t⟩:=h;have e1:(fM v).length=size:=Nat.eq_of_beq_eq_true h1;have e2:off+(fM v).length≤cells.size:=Nat.le_of_ble_eq_true m
   have o:v.cells.size=(fM v).length:=by rw [← nk];simp
   simp only
   rw [if_neg (by simp [o,e1];omega)]
   have u:(v.cells.zipIdx.foldl (fun cs (c,j)=>cs.setIfInBounds (off+j) c) cells).toList=putAt cells.toList off (fM v):=by
    rw [← Array.foldl_toList,Array.toList_zipIdx,nk]
    have:=wM (fM v) 0 off cells (by omega)
    simp only [Nat.add_zero] at this
    grind [oT]
   grind [Array.length_toList,oT]
structure BT (P:Program) (T:TypeId) (z:List Value) (places:List (Nat × Nat)):Prop where
 zero:∃v:Value,(∀w,(zeroValue T).run P w=.ok v w)∧v.cells=z.toArray
 zm:∃fs:Array Field,P.underlying T=some (.struct fs)∧∀w,(fs.mapM fun f=>(do pure (f.offset,← sizeOf f.type):Sem (Nat × Nat))).run P w=.ok places.toArray w
section
variable {P:Program}{n:Nat}{kv:KV}{w:World}{K:KV→World→Prop}
variable {d:Tmp}{ty:TypeId}{pos:String}{af:Array Edge}{g:Option (Nat × Bool)}{T:TypeId}
def kb(kv:KV):List (Nat × Operand)→Option (List (Nat × Value))
 | []=>some []
 | (i,x)::r=>match ev kv x with
  | none=>none
  | some v=>match kb kv r with
   | none=>none
   | some vs=>some ((i,v)::vs)
theorem oU{kv:KV}:∀{ps:List (Nat × Operand)}{vs:List (Nat × Value)},kb kv ps=some vs→ps.map (fun p=>(p.1,jk kv p.2))=vs∧∀p∈ps,(ev kv p.2).isSome=true:=by
 intro ps
 induction ps with
 | nil=>grind [kb]
 | cons p r f=>grind [kb,aI]
theorem PV.build{z:List Value}{places:List (Nat × Nat)}(hT:BT P T z places) {ps:List (Nat × Operand)}{vs:List (Nat × Value)}(f:kb kv ps=some vs) (h:sP places z.length vs=true) :
  PV P (.build T ps.toArray) ty kv w (.agg (wL places z vs).toArray):=by
 obtain⟨⟨v,j,o⟩,fs,hu,hm⟩:=hT;obtain⟨h1,m⟩:=oU f;refine⟨rfl,by simpa [known,opers] using m,fun _ _ _ _=>?_⟩;have p:=fill_eq places vs z.toArray (by simpa using h)
 have e:(ps.toArray.map fun(i,x)=>(i,jk kv x)).toList=vs:=by rw [← h1];simp
 simp only [execOp,Instr.build,Sem.run_bind,j w,Result.andThen_ok,run_underlying hu,hm w,e]
 simp_all
structure BS (P:Program) (T E k len:Nat) (z:List Value):Prop where
 zm:P.underlying T=some (.slice E)
 size:∀w,(sizeOf E).run P w=.ok k w
 pos:len*k≠0
 small:len*k≤2 ^ 24
 zero:∃v:Value,(∀w,(zeroValue E).run P w=.ok v w)∧(Array.range (len*k)).map (v.cells[· % v.cells.size]!)=z.toArray
def Hf(k:Nat):Nat→List (Nat × Value)→Bool
 | _,[]=>true
 | n,(i,v)::r=>Nat.beq (fM v).length k && Nat.ble (i*k+(fM v).length) n && Hf k n r
def Nx(k:Nat):List Value→List (Nat × Value)→List Value
 | z,[]=>z
 | z,(i,v)::r=>Nx k (putAt z (i*k) (fM v)) r
theorem RX(k:Nat):∀(parts:List (Nat × Value)) (cells:Array Value),Hf k cells.size parts=true→
  Instr.fill (fun i=>some (i*k,k)) cells parts=some (Nx k cells.toList parts).toArray:=by
 intro parts
 induction parts with
 | nil=>intro cells _;simp [Instr.fill,Nx]
 | cons p r o=>
  obtain⟨i,v⟩:=p;intro cells h;simp only [Hf,Bool.and_eq_true] at h;simp only [Instr.fill,Nx];obtain⟨⟨h1,f⟩,q⟩:=h;have e1:(fM v).length=k:=Nat.eq_of_beq_eq_true h1;have e2:i*k+(fM v).length≤cells.size:=Nat.le_of_ble_eq_true f
  have m:v.cells.size=(fM v).length:=by rw [← nk];simp
  rw [if_neg (by simp [m,e1];omega)]
  have s:(v.cells.zipIdx.foldl (fun cs (c,j)=>cs.setIfInBounds (i*k+j) c) cells).toList=putAt cells.toList (i*k) (fM v):=by
   rw [← Array.foldl_toList,Array.toList_zipIdx,nk]
   have:=wM (fM v) 0 (i*k) cells (by omega)
   simp only [Nat.add_zero] at this
   grind [oT]
  grind [Array.length_toList,oT]
theorem OX.Ny{E k len:Nat}{z:List Value}(hT:BS P T E k len z) {ps:List (Nat × Operand)}{vs:List (Nat × Value)}(f:Nat.blt d n=true) (j:kb kv ps=some vs) (m:Hf k z.length vs=true)
  (h:∀b w',zn w w' b→cC w' b E (Nx k z vs)→K ((d,.slice (some ⟨b,0,none⟩) len len)::kv) w'):OX P ⟨some d,.buildSlice T len ps.toArray,ty,pos,af,g⟩ n kv w K:=by
 obtain⟨v,o,p⟩:=hT.zero;obtain⟨h1,q⟩:=oU j;refine⟨rfl,f,by simpa [known,opers] using q,?_⟩;have r:=RX k vs z.toArray (by simpa using m)
 have e:(ps.toArray.map fun(i,x)=>(i,jk kv x)).toList=vs:=by rw [← h1];simp
 have hr:(execOp (jk kv) ⟨some d,.buildSlice T len ps.toArray,ty,pos,af,g⟩).run P w=.ok (.value (.slice (some ⟨w.heap.size,0,none⟩) len len)) (w.alloc (.cells (Nx k z vs).toArray E)):=by
  have s:=hT.small;simp only [execOp,Instr.buildSlice,Sem.run_bind,run_underlying hT.zm,Result.andThen_ok,hT.size w,e];rw [if_neg (by omega),if_neg hT.pos];simp only [Sem.run_bind,o w,Result.andThen_ok,Sem.run_pure,p,r]
  rfl
 rw [hr];exact h _ _ ⟨jv _ _,Nat.le_refl _,by simp⟩ (kT _ _)
/-! ### bytes -/
theorem PV.JM{x y:Operand}{s:ByteArray}{i:Nat}{b:UInt8}(hT:P.underlying T=some .string) (f:ev kv x=some (.string s)) (hy:ev kv y=some (.int .i64 (i:Int))) (hi:s[i]?=some b) :
  PV P (.index T x y) ty kv w (.int .u8 (b.toNat:Int)):=
 ⟨rfl,by simp [known,opers,f,hy],fun _ _ _ _=>by
  simp only [execOp,aI f,aI hy,Instr.index]
  simp [asIntOf,run_underlying hT,hi]⟩
theorem PV.RY{U:TypeId}{x y:Operand}{p q:Int}(f:ev kv x=some (.int .u8 p)) (hy:ev kv y=some (.int .u8 q)) (h1:0≤p - q) (h:p - q≤255) :
  PV P (.binOp .sub T x y U) ty kv w (.int .u8 (p - q)):=
 ⟨rfl,by simp [known,opers,f,hy],fun _ _ _ _=>dF .sub (by simp) _ (by simp only [Op.intArith,IntWalk.u8_in _ ⟨h1,h⟩];rfl) f hy⟩
theorem PV.conv{U:TypeId}{x:Operand}{k:IntKind}{p:Int}(hT:∃f,P.underlying T=some f) (i:P.underlying U=some (.int .i64)) (h:ev kv x=some (.int k p)) (h1:-9223372036854775808≤p) (j:p≤9223372036854775807) :
  PV P (.convert T U x) ty kv w (.int .i64 p):=by
 obtain⟨f,hT⟩:=hT;refine⟨rfl,by simp [known,opers,h],fun _ _ _ _=>?_⟩;simp only [execOp,aI h,convert,Sem.run_bind,run_underlying hT,Result.andThen_ok,run_underlying i]
 simp [Conv.intToInt,nj h1 j]
/-! ### keys compared -/
structure Ff (P:Program) (T:TypeId):Prop where
 eq:∀(a b:Int) (s t:ByteArray) (w:World),(Op.equalIn 10000 T (.agg #[.int .i64 a,.string s]) (.agg #[.int .i64 b,.string t])).run P w=.ok (decide (a=b) && decide (s=t)) w
 guard:P.eqGuardType P.depth T=false
theorem JN{f i:TypeId}{f0 f1:Field}(hu:P.underlying T=some (.struct #[f0,f1])) (m:f0.type=f) (o:f1.type=i) (p:f0.offset=0) (q:f1.offset=1) (x:f0.name≠ "_") (y:f1.name≠ "_")
  (h0:P.underlying f=some (.int .i64)) (h1:P.underlying i=some .string) (a0:∀w,(isAgg f).run P w=.ok false w) (a1:∀w,(isAgg i).run P w=.ok false w)
  (r:P.stoodInHeld T=false) (u:P.eqGuardType P.depth T=false):Ff P T:=by
 refine⟨fun a b s t w=>?_,u⟩;subst m o
 have j:P.fieldsOf T=#[f0,f1]:=by simp [Program.fieldsOf,hu]
 rw [show(10000:Nat)=9999+1 from rfl,run_equalIn_struct (P:=P) w 9999 T _ _ (by rw [j];exact hu) r,j]
 have e:(s.toList == t.toList)=decide (s=t):=by
  by_cases e:s=t
  ·
   simp [e]
  grind [ByteArray.ext,Array.toList_inj,ByteArray.toList_eq]
 have e2:(a == b)=decide (a=b):=by by_cases h:a=b <;> simp [h]
 have r0:=run_equalIn_int (P:=P) w 9998 f0.type .i64 .i64 a b h0;have r1:=run_equalIn_string (P:=P) w 9998 f1.type s t h1;rw [e2] at r0;rw [e] at r1;rw [show(9998+1:Nat)=9999 from rfl] at r0 r1;simp only [Op.eqFields,p,q,part,Sem.run_bind,a0,a1,Result.andThen_ok]
 by_cases v:a=b
 ·
  subst v
  by_cases z:s=t
  ·
   simp_all
  simp_all
 simp_all
theorem PV.Fg(hT:Ff P T) {U:TypeId}{x y:Operand}{p q:Key}(f:ev kv x=some p.val) (hy:ev kv y=some q.val) :
  PV P (.binOp .eql T x y U) ty kv w (.bool (decide (p=q))):=by
 refine⟨rfl,by simp [known,opers,f,hy],fun _ _ _ _=>?_⟩
 have e:(decide (p.kind=q.kind) && decide (p.text=q.text))=decide (p=q):=by
  obtain⟨a,s⟩:=p;obtain⟨b,t⟩:=q;simp [Bool.decide_and]
 simp only [execOp,aI f,aI hy,Key.val]
 simp [run_eqGuard_agg w .eql T _ _ _ _ hT.guard,run_eql_struct,hT.eq,e]
theorem PV.Hg(hT:Ff P T) {U:TypeId}{x y:Operand}{p q:Key}(f:ev kv x=some p.val) (hy:ev kv y=some q.val) :
  PV P (.binOp .neq T x y U) ty kv w (.bool (decide (p≠q))):=by
 refine⟨rfl,by simp [known,opers,f,hy],fun _ _ _ _=>?_⟩
 have e:(decide (p.kind=q.kind) && decide (p.text=q.text))=decide (p=q):=by
  obtain⟨a,s⟩:=p;obtain⟨b,t⟩:=q;simp [Bool.decide_and]
 simp only [execOp,aI f,aI hy,Key.val];simp only [Sem.run_bind,run_eqGuard_agg w .neq T _ _ _ _ hT.guard,run_neq_struct,hT.eq,e,Result.andThen_ok]
 by_cases h:p=q <;> simp [h]
end
end Go.Rc

namespace Go.Rc
open Go
def aG:Option Addr→List Nat
 | some a=>[a.block]
 | none=>[]
def OL(base:Nat) (w:World) (E k:Nat) (a:Option Addr) (n c:Nat) (cs:List Value):Prop:=
 (∀u∈cs,u.oneCell'=true)∧w.ownsRow base E k (.slice a n c) n cs
variable {α:Type}{A:Nat→Prop}{w w':World}{base E k n c:Nat}{a:Option Addr}{cs:List Value}
theorem OL.nil(base:Nat) (w:World) (E k:Nat):OL base w E k none 0 0 []:=⟨by simp,World.ownsRow_nil _ _ _ _⟩
theorem OL.cases(h:OL base w E k a n c cs):(a=none∧n=0∧c=0∧cs=[])∨∃g cur,a=some ⟨g,0,none⟩∧base≤g∧w.heap[g]?=some (.cells cur E (0,0))∧n≤c∧c≤maxLen∧cur.size=c*k∧cur.toList.take (n*k)=cs:=by
 rcases h.2.2 with⟨h1,f⟩ | ⟨g,cap,cur,h1,f⟩
 ·
  simp at h1;obtain⟨h1,j,i⟩:=h1
  exact .inl ⟨h1,f,i,List.eq_nil_of_length_eq_zero (by rw [h.2.1,f];simp)⟩
 grind
theorem OL.lt(h:OL base w E k a n c cs):∀x∈aG a,x<w.heap.size:=by
 rcases h.cases with⟨rfl,_⟩ | ⟨g,cur,rfl,hb,f,_⟩
 ·
  simp [aG]
 grind [aG]
theorem OL.sl(h:OL base w E k a n c cs) (o:∀b,base≤b→A b) (hle:n≤140737488355328):SL A w k a n c cs:=by
 refine⟨h.2.1,hle,h.1,?_⟩
 rcases h.cases with⟨h1,m,f,_⟩ | ⟨g,cur,h1,m,f,p,q,s,r⟩
 ·
  exact .inl ⟨m,f⟩
 refine .inr ⟨g,0,h1,p,q,o g m,(Array.getElem?_eq_some_iff.1 f).1,fun j v i=>?_⟩;rw [← r,List.getElem?_take] at i
 split at i
 ·
  simp only [World.cell?,f,Nat.zero_add];simpa using i
 cases i
theorem SL.blk{b e:Nat}{l:List Value}(h:cC w b e l) (f:A b) (m:Nat) (hl:l.length=m*k) (h1:∀u∈l,u.oneCell'=true) (hm:m≤140737488355328):SL A w k (some ⟨b,0,none⟩) m m l:=
 ⟨hl,hm,h1,.inr ⟨b,0,rfl,Nat.le_refl _,by simp [maxLen];omega,f,h.lt,h.range⟩⟩
/-! ### append -/
structure AP (P:Program) (T E k bytes:Nat):Prop where
 zm:P.underlying T=some (.slice E)
 info:∃i z,P.info? E=some i∧i.zero=some z∧i.size=k∧i.bytes=bytes∧z.cells.size=k
 pos:0<k
theorem xL{P:Program}{T bytes:Nat}(hT:AP P T E k bytes) {ty:TypeId}{xs news:List Value}(f:OL base w E k a n c xs) {a2:Option Addr}{m c2:Nat}{A:Nat→Prop}(o:SL A w k a2 m c2 news)
  (V:(n+m)*bytes≤140737488355328) (W:n+m≤140737488355328) (D:base≤w.heap.size) :
  ∃p v w',(Builtin.append_ #[T,T] ty #[.slice a n c,.slice a2 m c2]).run P w=.ok (.slice p (n+m) v) w'∧OL base w' E k p (n+m) v (xs++news)∧aQ (aG a) w w'∧(∀x∈aG p,x∈aG a∨w.heap.size≤x)∧
   (p=none→a=none∧m=0)∧(m=0→p=a)∧(aQ [] w w'∨(n+m≤c∧∃g,∃cur oh:Array Value,a=some ⟨g,0,none⟩∧w.heap[g]?=some (.cells cur E (0,0))∧w'.heap[g]?=some (.cells oh E (0,0))∧oh.size=cur.size∧cur.size=c*k∧oh.toList.take (n*k)=cur.toList.take (n*k))):=by
 obtain⟨i,z,hi,F,rfl,rfl,G⟩:=hT.info;have hsz:=hT.pos
 have h1:∀u∈xs++news,u.oneCell'=true:=fun u hu=>by
  rcases List.mem_append.1 hu with h | h
  ·
   exact f.1 u h
  exact o.one u h
 rcases o.at_ with⟨rfl,rfl⟩ | ⟨b2,s,rfl,X,Y,_,Z,H⟩
 ·
  have hn:news=[]:=List.eq_nil_of_length_eq_zero (by rw [o.len];simp);subst hn
  have I:(Builtin.append_ #[T,T] ty #[.slice a n c,.slice a2 0 0]).run P w=.ok (.slice a n c) w:=by
   have y:n≤c:=by rcases f.cases with⟨_,h,_⟩ | ⟨_,_,_,_,_,h,_⟩ <;> omega
   cases a <;> cases a2 <;> simp [Builtin.append_,run_underlying hT.zm,sizeOf,typeInfo,hi,Builtin.lenOf,Builtin.firstCells,loadCells,loadCellsFrom,storeCells,y]
  refine⟨a,c,w,I,by simpa using f,aQ.refl _ _,fun x h=>.inl h,fun h=>⟨h,rfl⟩,fun _=>rfl,.inl (aQ.refl _ _)⟩
 have B:∀j u,news[j]?=some u→w.cell? ((⟨b2,s,none⟩:Addr).add j)=some u:=fun j u hu=>by rw [Addr.sK];exact H j u hu
 have hl:=o.len
 have hlen:(xs++news).length=(n+m)*i.size:=by rw [List.length_append,f.2.1,hl,Nat.add_mul]
 have J:=o.one;have grown:∀(vw:Nat),vw<n+m→
   OL base (w.drew.alloc (.cells (xs.toArray++news.toArray++Builtin.zeroCells z.cells (grownCap w (n+m) vw E - (n+m))) E)) E i.size
    (some ⟨w.heap.size,0,none⟩) (n+m) (grownCap w (n+m) vw E) (xs++news)∧
   ∀S,aQ S w (w.drew.alloc (.cells (xs.toArray++news.toArray++Builtin.zeroCells z.cells (grownCap w (n+m) vw E - (n+m))) E)):=by
  intro vw ho;have L:=grownCap_ge w (n+m) vw E;have t:grownCap w (n+m) vw E≤maxLen:=grownCap_le_maxLen w (n+m) vw E (by simp [maxLen];omega);refine⟨⟨h1,hlen,.inr ⟨w.heap.size,_,_,rfl,D,heap_alloc_new w.drew _,L,t,?_,?_⟩⟩,fun S=>⟨rfl,rfl,rfl,by simp,Nat.le_succ _,fun k hk _=>heap_alloc_old w.drew _ (h:=hk)⟩⟩
  ·
   simp only [Array.size_append,List.size_toArray,size_zeroCells,G,f.2.1,hl,← Nat.add_mul]
   congr 1
   omega
  grind
 rcases f.cases with⟨rfl,rfl,rfl,rfl⟩ | ⟨g,cur,rfl,M,q,y,t,C,ad8⟩
 ·
  by_cases hm:m=0
  ·
   subst hm;have hn:news=[]:=List.eq_nil_of_length_eq_zero (by simpa using hl);subst hn;refine⟨none,0,w,?_,OL.nil base w E i.size,aQ.refl _ _,by simp [aG],by simp,fun _=>rfl,.inl (aQ.refl _ _)⟩
   simp [Builtin.append_,run_underlying hT.zm,sizeOf,typeInfo,hi,Builtin.lenOf,Builtin.firstCells,loadCells,loadCellsFrom]
  have hr:=run_append_nil (P:=P) w T ty E i z hT.zm hi F ⟨b2,s,none⟩ m c2 news hl B (by omega) (by omega) (by grind);have O:=grown 0 (by omega);simp only [Nat.zero_add,List.nil_append,Array.empty_append] at O ⊢
  grind [aG]
 by_cases r:n+m≤c
 ·
  have U:n*i.size+news.length≤cur.size:=by rw [hl,C,← Nat.add_mul];exact Nat.mul_le_mul_right _ r
  have hr:=run_append_room (P:=P) w T ty E i hT.zm hi g n c cur q ⟨b2,s,none⟩ m c2 news hl B J r U;refine⟨_,_,_,hr,⟨h1,hlen,.inr ⟨g,c,_,rfl,M,setRow_heap w g cur _ E _ q,r,t,?_,?_⟩⟩,lz w g _,fun x o=>.inl o,by simp,fun _=>rfl,.inr ⟨r,g,cur,_,rfl,q,setRow_heap w g cur _ E _ q,?_,C,?_⟩⟩
  ·
   grind
  ·
   grind
  ·
   grind
  grind
 have holds:∀j u,xs[j]?=some u→w.cell? ((⟨g,0,none⟩:Addr).add j)=some u:=f.2.cells (g:=g) rfl
 grind [run_append_grow,AP.zm,growslice_fits,aG]
def OR(base:Nat) (w:World) (E k:Nat) (R:α→List Value→Prop) (a:Option Addr) (n c:Nat) (xs:List α):Prop:=
 n=xs.length∧∃rows:List (List Value),rows.length=xs.length∧(∀r∈rows,r.length=k)∧OL base w E k a n c rows.flatten∧∀(i:Nat) x r,xs[i]?=some x→rows[i]?=some r→R x r
variable {R R':α→List Value→Prop}{xs ys:List α}
theorem OR.nil(base:Nat) (w:World) (E k:Nat) (R:α→List Value→Prop):OR base w E k R none 0 0 []:=⟨rfl,[],rfl,by simp,OL.nil _ _ _ _,by simp⟩
theorem OR.lt(h:OR base w E k R a n c xs):∀x∈aG a,x<w.heap.size:=by obtain⟨_,_,_,_,h,_⟩:=h;exact h.lt
theorem OR.len(h:OR base w E k R a n c xs):n=xs.length:=h.1
theorem SR.dn{b e:Nat}{l:List Value}{x:α}(h:cC w b e l) (f:A b) (hl:l.length=k) (h1:∀u∈l,u.oneCell'=true) (j:R x l):SR A w k R (some ⟨b,0,none⟩) 1 1 [x]:=
 ⟨rfl,[l],rfl,by simpa using hl,by grind [SL.blk],fun i y r h1 m=>by grind⟩
section
variable {P:Program}{N:Nat}{kv:KV}{K:KV→World→Prop}
variable {d:Tmp}{ty:TypeId}{pos:String}{af:Array Edge}{g:Option (Nat × Bool)}{T bytes:Nat}
theorem OX.app(hT:AP P T E k bytes) {s x:Operand}{xs news:List Value}{a2:Option Addr}{m c2:Nat}(j:Nat.blt d N=true) (o:ev kv s=some (.slice a n c)) (p:ev kv x=some (.slice a2 m c2))
  (q:OL base w E k a n c xs) (r:SL A w k a2 m c2 news) (t:(n+m)*bytes≤140737488355328) (u:n+m≤140737488355328) (v:base≤w.heap.size)
  (h:∀f i w',OL base w' E k f (n+m) i (xs++news)→aQ (aG a) w w'→(∀x∈aG f,x∈aG a∨w.heap.size≤x)→(f=none→a=none∧m=0)→K ((d,.slice f (n+m) i)::kv) w') :
  OX P ⟨some d,.call {callee:=.builtin .append,args:=#[s,x],argTypes:=#[T,T]},ty,pos,af,g⟩ N kv w K:=by
 refine⟨rfl,j,by simp [known,opers,o,p],?_⟩;obtain⟨f,i,w',hr,h1,y,z,B,_⟩:=xL hT (ty:=ty) q r t u v
 have C:(execOp (jk kv) ⟨some d,.call {callee:=.builtin .append,args:=#[s,x],argTypes:=#[T,T]},ty,pos,af,g⟩).run P w=.ok (.value (.slice f (n+m) i)) w':=by grind [execOp,resolve,invoke,builtin,Sem.run_bind,Sem.run_pure,Result.andThen_ok,aI]
 rw [C];exact h _ _ _ h1 y z B
theorem OX.j7(hT:AP P T E k bytes) {s x:Operand}{a2:Option Addr}{m c2:Nat}(j:Nat.blt d N=true) (o:ev kv s=some (.slice a n c)) (p:ev kv x=some (.slice a2 m c2))
  (q:OR base w E k R a n c xs) (r:SR A w k R a2 m c2 ys) (t:(n+m)*bytes≤140737488355328) (u:n+m≤140737488355328) (v:base≤w.heap.size)
  (h:∀f i w',OR base w' E k R f (n+m) i (xs++ys)→aQ (aG a) w w'→(∀x∈aG f,x∈aG a∨w.heap.size≤x)→(f=none→a=none∧m=0)→K ((d,.slice f (n+m) i)::kv) w') :
  OX P ⟨some d,.call {callee:=.builtin .append,args:=#[s,x],argTypes:=#[T,T]},ty,pos,af,g⟩ N kv w K:=by
 obtain⟨hn,rows,hl,hk,y,I⟩:=q;obtain⟨z,B,C,J,D,L⟩:=r
 refine OX.app hT j o p y D t u v fun f i w' h1 F G H=>h f i w' ⟨by simp [hn,z],rows++B,by simp [hl,C],?_,by simpa using h1,?_⟩ F G H
 ·
  grind
 grind
end
end Go.Rc

namespace Go.Rc
open Go
section
variable {κ:Type} [DecidableEq κ]
def bq:List (κ × Value)→κ→Option Value
 | [],_=>none
 | (k',v)::r,k=>if k'=k then some v else bq r k
def cO:List (κ × Value)→κ→Value→List (κ × Value)
 | [],k,v=>[(k,v)]
 | (k',v')::r,k,v=>if k'=k then (k',v)::r else (k',v')::cO r k v
def hU:List (κ × Value)→κ→List (κ × Value)
 | [],_=>[]
 | (k',v')::r,k=>if k'=k then r else (k',v')::hU r k
def rV:List (κ × Value)→κ→Nat→Option (Nat × Value)
 | [],_,_=>none
 | (k',v)::r,k,i=>if k'=k then some (i,v) else rV r k (i+1)
theorem ey(l:List (κ × Value)) (k k':κ) (v:Value):bq (cO l k v) k'=if k=k' then some v else bq l k':=by
 induction l with
 | nil=>simp [cO,bq]
 | cons p r f=>
  obtain⟨k0,v0⟩:=p;simp only [cO]
  by_cases h:k0=k
  ·
   subst h;simp only [if_true,bq];grind
  rw [if_neg h];simp only [bq,f]
  grind
theorem Fh{l:List (κ × Value)}{k:κ}:bq l k=none↔k∉l.map (·.1):=by
 induction l with
 | nil=>simp [bq]
 | cons p r f=>
  obtain⟨k0,v0⟩:=p;simp only [bq,List.map_cons,List.mem_cons,not_or]
  grind
theorem zz{l:List (κ × Value)}(hn:(l.map (·.1)).Nodup) {k:κ}{v:Value}:bq l k=some v↔(k,v)∈l:=by
 induction l with
 | nil=>simp [bq]
 | cons p r f=>
  obtain⟨k0,v0⟩:=p;simp only [List.map_cons,List.nodup_cons] at hn;simp only [bq,List.mem_cons,Prod.mk.injEq]
  grind
theorem Fi(l:List (κ × Value)) (k:κ) (v:Value):(cO l k v).map (·.1)=if k∈l.map (·.1) then l.map (·.1) else l.map (·.1)++[k]:=by
 induction l with
 | nil=>simp [cO]
 | cons p r f=>
  obtain⟨k0,v0⟩:=p;simp only [cO]
  grind
theorem ik{l:List (κ × Value)}(hn:(l.map (·.1)).Nodup) (k:κ) (v:Value):((cO l k v).map (·.1)).Nodup:=by grind [Fi]
theorem nn:∀{l:List (κ × Value)}{k:κ}{i:Nat},rV l k i=none→bq l k=none∧∀v,cO l k v=l++[(k,v)]:=by
 intro l
 induction l with
 | nil=>intro k i _;simp [bq,cO]
 | cons p r f=>
  obtain⟨k0,v0⟩:=p;intro k i h;simp only [rV] at h
  by_cases e:k0=k
  ·
   rw [if_pos e] at h;cases h
  rw [if_neg e] at h
  grind [bq,cO]
theorem nq:∀{l:List (κ × Value)}{k:κ}{i j:Nat}{v:Value},rV l k i=some (j,v)→∃m,j=i+m∧l[m]?=some (k,v)∧bq l k=some v∧(∀u,cO l k u=l.set m (k,u))∧hU l k=l.eraseIdx m:=by
 intro l
 induction l with
 | nil=>intro k i j v h;cases h
 | cons p r f=>
  obtain⟨k0,v0⟩:=p;intro k i j v h;simp only [rV] at h
  by_cases e:k0=k
  ·
   subst e;rw [if_pos rfl] at h
   simp at h
   obtain⟨rfl,rfl⟩:=h;exact⟨0,rfl,rfl,by simp [bq],by simp [cO],by simp [hU]⟩
  rw [if_neg e] at h;obtain⟨m,h1,o,q,s,t⟩:=f h;exact⟨m+1,by omega,by simpa using o,by simp [bq,e,q],fun u=>by simp [cO,e,s u],by simp [hU,e,t]⟩
theorem Fj{l:List (κ × Value)}{k:κ}(h:bq l k=none):hU l k=l:=by
 induction l with
 | nil=>rfl
 | cons p r f=>
  obtain⟨k0,v0⟩:=p;simp only [bq] at h
  by_cases e:k0=k
  ·
   rw [if_pos e] at h;cases h
  rw [if_neg e] at h;simp [hU,e,f h]
theorem zA{l:List (κ × Value)}(hn:(l.map (·.1)).Nodup) (k k':κ):bq (hU l k) k'=if k=k' then none else bq l k':=by
 induction l with
 | nil=>simp [hU,bq]
 | cons p r i=>
  obtain⟨k0,v0⟩:=p;simp only [List.map_cons,List.nodup_cons] at hn;simp only [hU]
  by_cases h:k0=k
  ·
   subst h;rw [if_pos rfl]
   by_cases f:k0=k'
   ·
    subst f;rw [if_pos rfl];exact Fh.2 hn.1
   simp [bq,f]
  rw [if_neg h];simp only [bq,i hn.2]
  grind
theorem Hh(l:List (κ × Value)) (k:κ):(hU l k).Sublist l:=by
 induction l with
 | nil=>simp [hU]
 | cons p r f=>grind [hU]
end
structure KK (P:Program) (kt:TypeId) {κ:Type} [DecidableEq κ] (enc:κ→Value):Prop where
 check:∀em k w,(Instr.checkKey em 10000 kt (enc k)).run P w=.ok () w
 find:∀(l:List (κ × Value)) (es:List MapEntry) k w,es.map (fun e=>(e.key,e.val))=l.map (fun p=>(enc p.1,p.2))→(Instr.findKey kt (enc k) es).run P w=.ok (rV l k 0) w
 same:∀k,Instr.sameBits 10000 (enc k) (enc k)=true
 inj:∀k k',enc k=enc k'→k=k'
def KM{κ:Type}(enc:κ→Value) (w:World) (b:Nat) (l:List (κ × Value)):Prop:=
 ∃es clock,w.heap[b]?=some (.map es clock)∧es.toList.map (fun e=>(e.key,e.val))=l.map (fun p=>(enc p.1,p.2))∧(l.map (·.1)).Nodup∧(∀e∈es.toList,e.born<clock)∧(es.toList.map (·.born)).Nodup
section
variable {κ:Type} [DecidableEq κ] {enc:κ→Value}{P:Program}{kt:TypeId}{w w':World}{b:Nat}{l:List (κ × Value)}
omit [DecidableEq κ] in
theorem KM.lt(h:KM enc w b l):b<w.heap.size:=by obtain⟨es,c,h,_⟩:=h;grind
omit [DecidableEq κ] in
theorem KM.bT{S:List Nat}(h:KM enc w b l) (c:aQ S w w') (f:b∉S):KM enc w' b l:=by
 obtain⟨es,cl,h,r⟩:=h;exact⟨es,cl,c.get h f,r⟩
omit [DecidableEq κ] in
theorem KM.ext(h:KM enc w b l) (c:aQ [] w w'):KM enc w' b l:=h.bT c (by simp)
omit [DecidableEq κ] in
theorem KM.nodup(h:KM enc w b l):(l.map (·.1)).Nodup:=by obtain⟨_,_,_,_,h,_⟩:=h;exact h
theorem kc(w:World) (b:Nat) (o:Obj):aQ [b] w {w with heap:=w.heap.setIfInBounds b o}:=
 ⟨rfl,rfl,rfl,by simp,Nat.le_refl _,fun k _ hk=>by grind⟩
variable {n:Nat}{kv:KV}{K:KV→World→Prop}
variable {d:Tmp}{ty:TypeId}{pos:String}{af:Array Edge}{g:Option (Nat × Bool)}{T e:TypeId}
omit [DecidableEq κ] in
theorem OX.makeMap(enc:κ→Value) (f:Nat.blt d n=true) (h:∀b w',zn w w' b→KM enc w' b []→K ((d,.map (some b))::kv) w'):OX P ⟨some d,.makeMap T none,ty,pos,af,g⟩ n kv w K:=by
 refine⟨rfl,f,by simp [known,opers],?_⟩
 have hr:(execOp (jk kv) ⟨some d,.makeMap T none,ty,pos,af,g⟩).run P w=.ok (.value (.map (some w.heap.size))) (w.alloc (.map #[] 0)):=by
  simp only [execOp,Instr.makeMap,Option.map_none];rfl
 rw [hr];exact h _ _ ⟨jv _ _,Nat.le_refl _,by simp⟩ ⟨#[],0,kT _ _,by simp⟩
theorem zB(f:KK P kt enc) (hT:P.underlying T=some (.map kt e)) {z:Value}(i:∀w,(zeroValue e).run P w=.ok z w) (hb:KM enc w b l) (k:κ) (ok:Bool) :
  (Instr.lookup T (.map (some b)) (enc k) ok).run P w=.ok (if ok then .tuple #[(bq l k).getD z,.bool (bq l k).isSome] else (bq l k).getD z) w:=by
 obtain⟨es,clock,hm,he,_⟩:=hb;simp only [Instr.lookup,Sem.run_bind,run_underlying hT,Result.andThen_ok,MapKept.run_getObj_map hm,Sem.run_pure,f.check,f.find l es.toList k w he]
 cases h:rV l k 0 with
 | none=>
  have:=(nn h).1
  simp only [this]
  simp [i w]
 | some p=>
  obtain⟨j,v⟩:=p;obtain⟨m,_,_,o,_⟩:=nq h;simp only [o]
  simp
theorem PV.look(h:KK P kt enc) (hT:P.underlying T=some (.map kt e)) {z:Value}(i:∀w,(zeroValue e).run P w=.ok z w) (hb:KM enc w b l) {x y:Operand}{k:κ}(f:ev kv x=some (.map (some b))) (hy:ev kv y=some (enc k)) :
  PV P (.lookup T x y false) ty kv w ((bq l k).getD z):=
 ⟨rfl,by simp [known,opers,f,hy],fun _ _ _ _=>by simp only [execOp,aI f,aI hy,Sem.run_bind,zB h hT i hb k false,Result.andThen_ok];rfl⟩
theorem PV.my(h:KK P kt enc) (hT:P.underlying T=some (.map kt e)) {z:Value}(i:∀w,(zeroValue e).run P w=.ok z w) (hb:KM enc w b l) {x y:Operand}{k:κ}(f:ev kv x=some (.map (some b))) (hy:ev kv y=some (enc k)) :
  PV P (.lookup T x y true) ty kv w (.tuple #[(bq l k).getD z,.bool (bq l k).isSome]):=
 ⟨rfl,by simp [known,opers,f,hy],fun _ _ _ _=>by simp only [execOp,aI f,aI hy,Sem.run_bind,zB h hT i hb k true,Result.andThen_ok];rfl⟩
omit [DecidableEq κ] in
theorem i7{u:Value}(es:Array MapEntry) (m:Nat) (k:κ) (v:Value) (f:MapEntry→MapEntry) (h:∀e,(f e).key=enc k∧(f e).val=u∧(f e).born=e.born)
  (he:es.toList.map (fun e=>(e.key,e.val))=l.map (fun p=>(enc p.1,p.2))) (hm:l[m]?=some (k,v)) :
  (es.modify m f).toList.map (fun e=>(e.key,e.val))=(l.set m (k,u)).map (fun p=>(enc p.1,p.2))∧(es.modify m f).toList.map (·.born)=es.toList.map (·.born):=by
 have hlen:es.toList.length=l.length:=by simpa using congrArg List.length he
 have j:m<l.length:=(List.getElem?_eq_some_iff.1 hm).1
 constructor
 ·
  apply List.ext_getElem?
  intro i;have hi:=congrArg (fun x=>x[i]?) he
  grind
 apply List.ext_getElem?
 grind
theorem D6(h:KK P kt enc) (hT:P.underlying T=some (.map kt e)) (hb:KM enc w b l) (k:κ) (v:Value) :
  ∃w',(Instr.mapUpdate T (.map (some b)) (enc k) v).run P w=.ok () w'∧aQ [b] w w'∧KM enc w' b (cO l k v):=by
 obtain⟨es,clock,hm,he,hn,B,q⟩:=hb;have i:b<w.heap.size:=(Array.getElem?_eq_some_iff.1 hm).1
 cases f:rV l k 0 with
 | none=>
  obtain⟨h1,o⟩:=nn f;refine⟨_,?_,kc w b (.map (es.push {key:=enc k,val:=v,born:=clock}) (clock+1)),?_⟩
  ·
   simp only [Instr.mapUpdate,Sem.run_bind,run_underlying hT,Result.andThen_ok,MapKept.run_getObj_map hm,h.check,h.find l es.toList k w he,f,MapKept.run_setObj_map _ hm]
  refine⟨_,_,by first | (simp [i];done) | (simp [i];exact⟨rfl,rfl⟩),?_,ik hn k v,?_,?_⟩
  ·
   rw [o];simp [he]
  ·
   grind
  grind
 | some p=>
  obtain⟨j,v0⟩:=p;obtain⟨m,h1,o,C,r,_⟩:=nq f
  have s:j=m:=by omega
  subst s
  have t:(((es[j]?).map (·.key)).getD (enc k))=enc k:=by
   have:=congrArg (fun x=>x[j]?) he
   grind
  refine⟨_,?_,kc w b (.map (es.modify j fun e=>{e with key:=enc k,val:=v}) clock),?_⟩
  ·
   simp only [Instr.mapUpdate,Sem.run_bind,run_underlying hT,Result.andThen_ok,MapKept.run_getObj_map hm,h.check,h.find l es.toList k w he,f,Instr.keyThatStays,t,h.same,if_true,Sem.run_pure,MapKept.run_setObj_map _ hm]
  obtain⟨y,z⟩:=i7 (u:=v) es j k v0 (fun e=>{e with key:=enc k,val:=v}) (fun e=>⟨rfl,rfl,rfl⟩) he o;refine⟨_,_,by first | (simp [i];done) | (simp [i];exact⟨rfl,rfl⟩),by rw [r];exact y,ik hn k v,?_,by rw [z];exact q⟩;intro x f
  have:x.born∈(es.modify j fun e=>{e with key:=enc k,val:=v}).toList.map (·.born):=List.mem_map.2 ⟨x,f,rfl⟩
  grind
theorem OX.put(i:KK P kt enc) (hT:P.underlying T=some (.map kt e)) (hb:KM enc w b l) {x y u:Operand}{k:κ}{v:Value}(f:ev kv x=some (.map (some b))) (hy:ev kv y=some (enc k)) (hu:ev kv u=some v)
  (h:∀w',aQ [b] w w'→KM enc w' b (cO l k v)→K kv w'):OX P ⟨none,.mapUpdate T x y u,ty,pos,af,g⟩ n kv w K:=by
 obtain⟨w',hr,h1,j⟩:=D6 i hT hb k v;refine⟨rfl,rfl,by simp [known,opers,f,hy,hu],?_⟩
 have m:(execOp (jk kv) ⟨none,.mapUpdate T x y u,ty,pos,af,g⟩).run P w=.ok .skip w':=by
  simp only [execOp,aI f,aI hy,aI hu,Sem.run_bind,hr,Result.andThen_ok];rfl
 rw [m];exact h _ h1 j
theorem OX.ins(i:KK P kt enc) (hT:P.underlying T=some (.map kt e)) (hb:KM enc w b l) {x y u:Operand}{k:κ}{v:Value}(f:ev kv x=some (.map (some b))) (hy:ev kv y=some (enc k)) (hu:ev kv u=some v)
  (h:∀w',aQ [b] w w'→KM enc w' b (cO l k v)→K kv w'):OX P ⟨none,.insert T x y u,ty,pos,af,g⟩ n kv w K:=by
 obtain⟨w',hr,h1,j⟩:=D6 i hT hb k v;refine⟨rfl,rfl,by simp [known,opers,f,hy,hu],?_⟩
 have m:(execOp (jk kv) ⟨none,.insert T x y u,ty,pos,af,g⟩).run P w=.ok .skip w':=by
  simp only [execOp,aI f,aI hy,aI hu,Sem.run_bind,hr,Result.andThen_ok];rfl
 rw [m];exact h _ h1 j
theorem JO(o:KK P kt enc) (hT:P.underlying T=some (.map kt e)) (hb:KM enc w b l) (k:κ) (t:TypeId) :
  ∃w',(Builtin.delete_ #[T,t] ty #[.map (some b),enc k]).run P w=.ok (.tuple #[]) w'∧aQ [b] w w'∧KM enc w' b (hU l k):=by
 obtain⟨es,clock,hm,he,hn,u,v⟩:=hb;have s:b<w.heap.size:=(Array.getElem?_eq_some_iff.1 hm).1
 cases q:rV l k 0 with
 | none=>
  obtain⟨h1,y⟩:=nn q;refine⟨_,?_,kc w b (.map es clock),?_⟩
  ·
   simp [Builtin.delete_,run_underlying hT,MapKept.run_getObj_map hm,o.check,o.find l es.toList k w he,q,MapKept.run_setObj_map _ hm]
  rw [Fj h1];exact⟨_,_,by grind,he,hn,u,v⟩
 | some p=>
  obtain⟨j,v0⟩:=p;obtain⟨m,h1,y,F,_,z⟩:=nq q
  have B:j=m:=by omega
  subst B;refine⟨_,?_,kc w b (.map (es.eraseIdxIfInBounds j) clock),?_⟩
  ·
   simp [Builtin.delete_,run_underlying hT,MapKept.run_getObj_map hm,o.check,o.find l es.toList k w he,q,MapKept.run_setObj_map _ hm]
  have C:(es.eraseIdxIfInBounds j).toList=es.toList.eraseIdx j:=by
   by_cases h:j<es.size
   ·
    simp [Array.eraseIdxIfInBounds,h]
   grind [List.eraseIdx_of_length_le]
  refine⟨_,_,by first | (simp [s];done) | (simp [s];exact⟨rfl,rfl⟩),?_,?_,?_,?_⟩
  ·
   rw [C,z]
   have e1:∀{α β:Type}(f:α→β) (L:List α) (i:Nat),(L.eraseIdx i).map f=(L.map f).eraseIdx i:=fun f L=>by
    induction L with
    | nil=>intro i;rfl
    | cons x r D=>intro i;cases i <;> simp [D]
   rw [e1,e1,he]
  ·
   grind
  ·
   grind
  grind
theorem OX.del(i:KK P kt enc) (hT:P.underlying T=some (.map kt e)) (hb:KM enc w b l) {x y:Operand}{k:κ}{f:TypeId}(j:ev kv x=some (.map (some b))) (hy:ev kv y=some (enc k))
  (h:∀w',aQ [b] w w'→KM enc w' b (hU l k)→K kv w'):OX P ⟨none,.call {callee:=.builtin .delete,args:=#[x,y],argTypes:=#[T,f]},ty,pos,af,g⟩ n kv w K:=by
 obtain⟨w',hr,h1,m⟩:=JO (ty:=ty) i hT hb k f;refine⟨rfl,rfl,by simp [known,opers,j,hy],?_⟩
 have o:(execOp (jk kv) ⟨none,.call {callee:=.builtin .delete,args:=#[x,y],argTypes:=#[T,f]},ty,pos,af,g⟩).run P w=.ok (.value (.tuple #[])) w':=by grind [execOp,resolve,invoke,builtin,Sem.run_bind,Sem.run_pure,Result.andThen_ok,aI]
 rw [o];exact h _ h1 m
end
/-! ### keys of whole numbers, and of structs of an int and a string -/
theorem Nz{P:Program}{kt:TypeId}{f0 f1:Field}(hu:P.underlying kt=some (.struct #[f0,f1])) (j:Ff P kt) (m:∀em (k:Key) w,(Instr.checkKey em 10000 kt k.val).run P w=.ok () w):KK P kt Key.val where
 check:=m
 same k:=by
  have:∀n,Instr.sameBits (n+1) k.val k.val=true:=fun n=>by simp [Key.val,Instr.sameBits,MapKept.bytes_beq]
  exact this 9999
 inj k k' h:=by cases k;cases k';simpa [Key.val] using h
 find l es k w he:=by
  have o:∀(es:List MapEntry),es≠[]→(∃a,Instr.findNow (.struct #[f0,f1]) k.val es 0=a∧a=none):=by
   intro es u
   cases es with
   | nil=>exact absurd rfl u
   | cons x xs=>exact⟨_,rfl,by simp [Instr.findNow,Instr.sameNow]⟩
  have key:∀(l:List (Key × Value)) (es:List MapEntry) (i:Nat),es.map (fun e=>(e.key,e.val))=l.map (fun p=>(p.1.val,p.2))→(Instr.findAsking kt k.val es i).run P w=.ok (rV l k i) w:=by
   intro l
   induction l with
   | nil=>
    intro es i he
    have:es=[]:=by simpa using he
    subst this;rfl
   | cons p r v=>
    intro es i he
    cases es with
    | nil=>simp at he
    | cons x xs=>
     simp at he
     obtain⟨⟨h1,f⟩,y⟩:=he
     have heq:(Op.equal kt k.val x.key).run P w=.ok (decide (k=p.1)) w:=by
      rw [h1]
      have:=j.eq k.kind p.1.kind k.text p.1.text w
      simp only [Key.val]
      have e:(decide (k.kind=p.1.kind) && decide (k.text=p.1.text))=decide (k=p.1):=by
       obtain⟨a,s⟩:=k;obtain⟨q,_⟩:=p;obtain⟨b,t⟩:=q;simp [Bool.decide_and]
      rw [e] at this;exact this
     simp only [Instr.findAsking,Sem.run_bind,heq,Result.andThen_ok,rV]
     by_cases e:k=p.1
     ·
      simp [e,f]
     grind
  simp only [Instr.findKey,Sem.run_bind,run_underlying hu,Result.andThen_ok]
  cases es with
  | nil=>
   have:l=[]:=by simpa using he.symm
   subst this;rfl
  | cons x xs=>
   obtain⟨a,h1,f⟩:=o (x::xs) (by simp)
   grind
end Go.Rc

namespace Go.Rc
open Go
section
variable {α:Type}{A:Nat→Prop}{w w':World}{k n c:Nat}{a:Option Addr}{cs:List Value}{R:α→List Value→Prop}{xs:List α}
variable {P:Program}{N:Nat}{kv:KV}{K:KV→World→Prop}
variable {d:Tmp}{ty:TypeId}{pos:String}{af:Array Edge}{g:Option (Nat × Bool)}{T E:TypeId}
def mz(a:Option Addr) (i k c:Nat):Option Addr:=if c=i then a else a.map fun x=>⟨x.block,x.off+i*k,x.spot⟩
theorem Hi{i k c:Nat}(hi:i≤c) (f:c≠0→∀x,a=some x→x.spot=none):(if c=i then a else a.map fun x=>x.add (i*k))=mz a i k c:=by
 unfold mz
 by_cases h:c=i
 ·
  rw [if_pos h,if_pos h]
 have f:=f (by omega)
 cases a with
 | none=>rfl
 | some x=>
  obtain⟨b,o,s⟩:=x
  have:=f _ rfl
  grind [Addr.sK]
theorem SL.spot(h:SL A w k a n c cs):c≠0→∀x,a=some x→x.spot=none:=by grind [at_]
theorem SL.RZ(h:SL A w k a n c cs):n≤c:=by grind [at_]
theorem Ck(hT:wG P T E k) {i:Nat}(hi:i≤c) (f:c≠0→∀x,a=some x→x.spot=none):(Instr.sliceAt T (.slice a n c) none (some (.int .i64 (i:Int))) none).run P w=.ok (.slice a i c) w:=by
 have e:(if c=0 then a else a.map fun x=>x.add (0*k))=a:=by
  by_cases h:c=0
  ·
   rw [if_pos h]
  have f:=f h
  cases a with
  | none=>simp
  | some x=>obtain⟨b,o,s⟩:=x;have:=f _ rfl;grind [Addr.sK]
 simp only [Instr.sliceAt,Instr.slice,Sem.run_bind,run_underlying hT.zm,Result.andThen_ok,Instr.sliceBounds,Sem.run_pure];rw [run_sliceBound (P:=P) _ _ _ _ _ (by omega) (by omega)];simp only [Result.andThen_ok,Int.toNat_natCast,Nat.sub_zero,hT.size w];rw [e]
theorem Cl(hT:wG P T E k) {i:Nat}(hi:i≤n) (h:n≤c) (f:c≠0→∀x,a=some x→x.spot=none):(Instr.sliceAt T (.slice a n c) (some (.int .i64 (i:Int))) none none).run P w=.ok (.slice (mz a i k c) (n - i) (c - i)) w:=by
 simp only [Instr.sliceAt,Instr.slice,Sem.run_bind,run_underlying hT.zm,Result.andThen_ok,Instr.sliceBounds,Sem.run_pure,Option.isSome_none,Bool.false_eq_true,if_false];rw [run_sliceBound (P:=P) _ _ _ _ _ (by omega) (by omega)];simp only [Result.andThen_ok,Int.toNat_natCast,hT.size w];rw [← Hi (by omega) f]
theorem PV.sQ(hT:wG P T E k) {x y:Operand}{i:Nat}(h:SR A w k R a n c xs) (f:ev kv x=some (.slice a n c)) (hy:ev kv y=some (.int .i64 (i:Int))) (hi:i≤n):PV P (.slice T x none (some y) none) ty kv w (.slice a i c):=by
 obtain⟨_,rows,_,_,j,_⟩:=h;refine⟨rfl,by simp [known,opers,f,hy],fun _ _ _ _=>?_⟩
 have:=j.RZ
 simp only [execOp,aI f,aI hy,Option.map_none,Option.map_some,Sem.run_bind,Ck hT (show i≤c by omega) j.spot,Result.andThen_ok];rfl
theorem PV.xM(hT:wG P T E k) {x y:Operand}{i:Nat}(h:SR A w k R a n c xs) (f:ev kv x=some (.slice a n c)) (hy:ev kv y=some (.int .i64 (i:Int))) (hi:i≤n):PV P (.slice T x (some y) none none) ty kv w (.slice (mz a i k c) (n - i) (c - i)):=by
 obtain⟨_,rows,_,_,j,_⟩:=h;refine⟨rfl,by simp [known,opers,f,hy],fun _ _ _ _=>?_⟩;simp only [execOp,aI f,aI hy,Option.map_none,Option.map_some,Sem.run_bind,Cl hT hi j.RZ j.spot,Result.andThen_ok];rfl
theorem xN:∀(rows:List (List Value)) (k i:Nat),(∀r∈rows,r.length=k)→i≤rows.length→(rows.take i).flatten=rows.flatten.take (i*k):=by
 intro rows
 induction rows with
 | nil=>grind
 | cons x xs f=>
  intro k i hk hi
  cases i with
  | zero=>simp
  | succ i=>
   have h:x.length=k:=hk x (by simp);simp only [List.take_succ_cons,List.flatten_cons];have h1:x.take (i*k+k)=x:=List.take_of_length_le (by omega);rw [f k i (fun r hr=>hk r (by simp [hr])) (by simpa using hi),List.take_append,Nat.succ_mul,h1]
   congr 2
   omega
theorem xO:∀(rows:List (List Value)) (k i:Nat),(∀r∈rows,r.length=k)→i≤rows.length→(rows.drop i).flatten=rows.flatten.drop (i*k):=by
 intro rows
 induction rows with
 | nil=>grind
 | cons x xs f=>
  intro k i hk hi
  cases i with
  | zero=>simp
  | succ i=>
   have h:x.length=k:=hk x (by simp);simp only [List.drop_succ_cons,List.flatten_cons];have h1:x.drop (i*k+k)=[]:=List.drop_of_length_le (by omega);rw [f k i (fun r hr=>hk r (by simp [hr])) (by simpa using hi),List.drop_append,Nat.succ_mul,h1]
   grind
theorem SR.take(h:SR A w k R a n c xs) {i:Nat}(hi:i≤n):SR A w k R a i c (xs.take i):=by
 obtain⟨hn,rows,hl,hk,f,x⟩:=h;refine⟨by simp;omega,rows.take i,by simp [hl],fun r hr=>hk r (List.mem_of_mem_take hr),?_,?_⟩
 ·
  rw [xN rows k i hk (by omega)];refine⟨by grind [SL.len,Nat.mul_le_mul_right],by have:=f.le;omega,fun u hu=>f.one u (List.mem_of_mem_take hu),?_⟩
  rcases f.at_ with⟨p,m⟩ | ⟨b,o,h1,p,m,q,s,t⟩
  ·
   exact .inl ⟨by omega,m⟩
  refine .inr ⟨b,o,h1,by omega,m,q,s,fun j v y=>t j v ?_⟩
  grind
 grind
theorem SR.drop(h:SR A w k R a n c xs) {i:Nat}(hi:i≤n):SR A w k R (mz a i k c) (n - i) (c - i) (xs.drop i):=by
 obtain⟨hn,rows,hl,hk,f,y⟩:=h;refine⟨by simp;omega,rows.drop i,by simp [hl],fun r hr=>hk r (List.mem_of_mem_drop hr),?_,?_⟩
 ·
  rw [xO rows k i hk (by omega)];refine⟨by grind [SL.len,Nat.sub_mul],by have:=f.le;omega,fun u hu=>f.one u (List.mem_of_mem_drop hu),?_⟩
  rcases f.at_ with⟨s,t⟩ | ⟨b,o,h1,s,t,p,q,x⟩
  ·
   exact .inl ⟨by omega,by omega⟩
  by_cases e:c=i
  ·
   refine .inr ⟨b,o,by rw [mz,if_pos e];exact h1,by omega,by omega,p,q,fun j v m=>?_⟩
   have:n=i:=by omega
   have:(rows.flatten.drop (i*k))=[]:=List.drop_eq_nil_of_le (by rw [f.len,this];exact Nat.le_refl _)
   rw [this] at m;simp at m
  refine .inr ⟨b,o+i*k,by rw [mz,if_neg e,h1];rfl,by omega,by omega,p,q,fun j v m=>?_⟩;rw [Nat.add_assoc];exact x (i*k+j) v (by simpa using m)
 grind
theorem PV.JP{f off:Nat}{fs:Array Field}{fd:Field}(hu:P.underlying T=some (.struct fs)) (i:fs[f]?=some fd) (j:fd.offset=off) (h1:∀w,(isAgg fd.type).run P w=.ok false w)
  {x:Operand}{us:List Value}{v:Value}(h:ev kv x=some (.agg us.toArray)) (m:us[off]?=some v):PV P (.field T x f) ty kv w v:=by
 subst j;refine⟨rfl,by simp [known,opers,h],fun _ _ _ _=>?_⟩
 simp [execOp,aI h,Instr.field,run_underlying hu,i,part,h1 w,asAgg,m]
theorem PV.JQ{x y:Operand}{p q:Int}{i:IntKind}{h:Array TypeId}(f:ev kv x=some (.int i p)) (hy:ev kv y=some (.int i q)):PV P (.call {callee:=.builtin .min,args:=#[x,y],argTypes:=h}) ty kv w (.int i (min p q)):=by
 refine⟨rfl,by simp [known,opers,f,hy],fun _ _ _ _=>?_⟩;simp only [execOp,resolve,invoke,builtin,Sem.run_bind,Sem.run_pure,Result.andThen_ok,List.map_toArray,List.map_cons,List.map_nil,aI f,aI hy]
 have:(if q<p then q else p)=min p q:=by grind
 simp [Builtin.min_,Builtin.min2,this]
theorem PV.Hj{x y:Operand}{p q:Int}{i:IntKind}{h:Array TypeId}(f:ev kv x=some (.int i p)) (hy:ev kv y=some (.int i q)):PV P (.call {callee:=.builtin .max,args:=#[x,y],argTypes:=h}) ty kv w (.int i (max p q)):=by
 refine⟨rfl,by simp [known,opers,f,hy],fun _ _ _ _=>?_⟩;simp only [execOp,resolve,invoke,builtin,Sem.run_bind,Sem.run_pure,Result.andThen_ok,List.map_toArray,List.map_cons,List.map_nil,aI f,aI hy]
 have:(if q > p then q else p)=max p q:=by grind
 simp [Builtin.max_,Builtin.max2,this]
theorem PV.func{fn:Fn}{fs cs:List Operand}{us vs:List Value}(f:fs.map (ev kv)=us.map some) (hc:cs.map (ev kv)=vs.map some):PV P (.makeFunc fn fs.toArray cs.toArray) ty kv w (.func fn us.toArray vs.toArray):=by
 have key:∀(l:List Operand) (vs:List Value),l.map (ev kv)=vs.map some→l.map (jk kv)=vs∧∀x∈l,(ev kv x).isSome=true:=by
  intro l
  induction l with
  | nil=>intro vs h;simp at h;simp [h]
  | cons x r j=>
   intro vs h
   cases vs with
   | nil=>simp at h
   | cons v vs=>grind [aI]
 obtain⟨h1,m⟩:=key fs us f;obtain⟨i,o⟩:=key cs vs hc;refine⟨rfl,?_,fun _ _ _ _=>?_⟩
 ·
  grind [known,opers]
 simp only [execOp,Instr.makeFunc,List.map_toArray,h1,i];rfl
end
/-! ### places in maps -/
def KE{κ:Type}(enc:κ→Value) (w:World) (b:Nat) (l:List (κ × Value)) (k:κ) (st:Nat):Prop:=
 ∃es clock,w.heap[b]?=some (Obj.map es clock)∧es.toList.map (fun e=>(e.key,e.val))=l.map (fun p=>(enc p.1,p.2))∧(l.map (·.1)).Nodup∧(∀e∈es.toList,e.born<clock)∧(es.toList.map (·.born)).Nodup∧
  ∃(m:Nat) (e:MapEntry) (v:Value),es.toList[m]?=some e∧e.born=st∧l[m]?=some (k,v)
section
variable {κ:Type} [DecidableEq κ] {enc:κ→Value}{P:Program}{kt:TypeId}{w w':World}{b:Nat}{l:List (κ × Value)}
variable {n:Nat}{kv:KV}{K:KV→World→Prop}
variable {d:Tmp}{ty:TypeId}{pos:String}{af:Array Edge}{g:Option (Nat × Bool)}{T e:TypeId}
omit [DecidableEq κ] in
theorem KE.km{k:κ}{st:Nat}(h:KE enc w b l k st):KM enc w b l:=by obtain⟨es,c,h1,f,i,j,m,_⟩:=h;exact⟨es,c,h1,f,i,j,m⟩
theorem JR:∀{l:List (κ × Value)}{m:Nat}{k:κ}{v:Value},(l.map (·.1)).Nodup→l[m]?=some (k,v)→∀u,cO l k u=l.set m (k,u):=by
 intro l
 induction l with
 | nil=>intro m k v _ h;simp at h
 | cons p r f=>
  obtain⟨k0,v0⟩:=p;intro m k v hn h u;simp only [List.map_cons,List.nodup_cons] at hn
  cases m with
  | zero=>grind [cO]
  | succ m=>
   simp at h
   have i:k0≠k:=fun e=>hn.1 (by grind);simp only [cO,if_neg i,List.set_cons_succ,f hn.2 h u]
theorem Hk(h:KK P kt enc) (hT:P.underlying T=some (.map kt e)) {z:Value}(r:∀w,(zeroValue e).run P w=.ok z w) (hb:KM enc w b l) (k:κ) :
  ∃(w':World) (st:Nat) (v:Value),(Instr.mapEntry T (.map (some b)) (enc k)).run P w=.ok (.tuple #[v,.int .i64 (st:Int)]) w'∧aQ [b] w w'∧w'.heap.size=w.heap.size∧KE enc w' b (cO l k ((bq l k).getD z)) k st:=by
 obtain⟨es,clock,hm,he,hn,H,s⟩:=hb;have q:b<w.heap.size:=(Array.getElem?_eq_some_iff.1 hm).1
 have hlen:es.toList.length=l.length:=by simpa using congrArg List.length he
 cases f:rV l k 0 with
 | none=>
  obtain⟨h1,i⟩:=nn f;refine⟨_,clock,z,?_,kc w b (.map (es.push {key:=enc k,val:=z,born:=clock}) (clock+1)),by simp,?_⟩
  ·
   simp only [Instr.mapEntry,Sem.run_bind,run_underlying hT,Result.andThen_ok,MapKept.run_getObj_map hm,h.check,h.find l es.toList k w he,f,r,MapKept.run_setObj_map _ hm]
   first | done | rfl
  refine⟨_,_,by simp [q];exact⟨rfl,rfl⟩,?_,ik hn k _,?_,?_,l.length,{key:=enc k,val:=z,born:=clock},z,?_,rfl,?_⟩
  ·
   rw [i,h1];simp [he]
  ·
   grind
  ·
   grind
  ·
   simp [← hlen]
  rw [i,h1];simp
 | some p=>
  obtain⟨j,v0⟩:=p;obtain⟨m,h1,i,t,y,_⟩:=nq f
  have B:j=m:=by omega
  subst B
  have o:j<es.toList.length:=by grind
  have C:(((es[j]?).map (·.key)).getD (enc k))=enc k:=by
   have:=congrArg (fun x=>x[j]?) he
   grind
  have I:(es[j]'(by simpa using o)).val=v0:=by
   have:=congrArg (fun x=>x[j]?) he
   grind
  obtain⟨D,F⟩:=i7 (u:=v0) es j k v0 (fun e=>{e with key:=enc k,val:=v0}) (fun e=>⟨rfl,rfl,rfl⟩) he i
  have G:(es.modify j fun e=>{e with key:=enc k})=es.modify j fun e=>{e with key:=enc k,val:=v0}:=by grind
  refine⟨_,((es[j]?).map (·.born)).getD 0,v0,?_,kc w b (.map (es.modify j fun e=>{e with key:=enc k}) clock),by simp,?_⟩
  ·
   simp only [Instr.mapEntry,Sem.run_bind,run_underlying hT,Result.andThen_ok,MapKept.run_getObj_map hm,h.check,h.find l es.toList k w he,f,Instr.keyThatStays,C,h.same,if_true,Sem.run_pure,MapKept.run_setObj_map _ hm];rw [Array.getElem?_eq_getElem (show j<es.size by simpa using o)]
   rfl
  rw [G];refine⟨_,_,by simp [q];exact⟨rfl,rfl⟩,by rw [y,t];exact D,ik hn k _,?_,by rw [F];exact s,j,{es[j]'(by simpa using o) with key:=enc k,val:=v0},v0,?_,?_,?_⟩
  ·
   intro x f
   have:x.born∈(es.modify j fun e=>{e with key:=enc k,val:=v0}).toList.map (·.born):=List.mem_map.2 ⟨x,f,rfl⟩
   grind
  ·
   grind
  ·
   grind
  grind
theorem OX.NB(i:KK P kt enc) (hT:P.underlying T=some (.map kt e)) {z:Value}(j:∀w,(zeroValue e).run P w=.ok z w) (hb:KM enc w b l) {x y:Operand}{k:κ}(m:Nat.blt d n=true) (f:ev kv x=some (.map (some b))) (hy:ev kv y=some (enc k))
  (h:∀(w':World) (st:Nat) (v:Value),aQ [b] w w'→w'.heap.size=w.heap.size→KE enc w' b (cO l k ((bq l k).getD z)) k st→K ((d,.tuple #[v,.int .i64 (st:Int)])::kv) w'):OX P ⟨some d,.mapEntry T x y,ty,pos,af,g⟩ n kv w K:=by
 obtain⟨w',st,v,hr,h1,o,p⟩:=Hk i hT j hb k;refine⟨rfl,m,by simp [known,opers,f,hy],?_⟩
 have q:(execOp (jk kv) ⟨some d,.mapEntry T x y,ty,pos,af,g⟩).run P w=.ok (.value (.tuple #[v,.int .i64 (st:Int)])) w':=by
  simp only [execOp,aI f,aI hy,Sem.run_bind,hr,Result.andThen_ok];rfl
 rw [q];exact h _ _ _ h1 o p
theorem OX.Cm{k:κ}{st:Nat}(hb:KE enc w b l k st) {x y u:Operand}{v:Value}(f:ev kv x=some (.map (some b))) (hy:ev kv y=some (.int .i64 (st:Int))) (hu:ev kv u=some v)
  (h:∀w',aQ [b] w w'→w'.heap.size=w.heap.size→KM enc w' b (cO l k v)→K kv w'):OX P ⟨none,.entryStore T x y u,ty,pos,af,g⟩ n kv w K:=by
 obtain⟨es,clock,hm,he,hn,J,o,m,z,v0,L,p,q⟩:=hb;have B:b<w.heap.size:=(Array.getElem?_eq_some_iff.1 hm).1
 have r:m<es.size:=by grind
 have C:es.findIdx? (fun e=>(e.born:Int) == (st:Int))=some m:=by
  rw [Array.findIdx?_eq_some_iff_getElem]
  have s:es[m]=z:=by grind
  refine⟨r,by simp [s,p],fun j M=>?_⟩
  have t:j<es.size:=by omega
  simp only [beq_iff_eq,Int.natCast_inj];intro e
  have h1:(es.toList.map (·.born))[j]?=some st:=by simp [t,e]
  have D:(es.toList.map (·.born))[m]?=some st:=by simp [r,s,p]
  have:=(List.getElem?_inj (i:=j) (j:=m) (by simp [t]) o).1 (h1.trans D.symm)
  omega
 obtain⟨F,G⟩:=i7 (u:=v) es m k v0 (fun e=>{e with key:=enc k,val:=v}) (fun e=>⟨rfl,rfl,rfl⟩) he q
 have O:(es[m]).key=enc k:=by
  have:=congrArg (fun x=>x[m]?) he
  grind
 have H:(es.modify m fun e=>{e with val:=v})=es.modify m fun e=>{e with key:=enc k,val:=v}:=by grind
 refine⟨rfl,rfl,by simp [known,opers,f,hy,hu],?_⟩
 have I:(execOp (jk kv) ⟨none,.entryStore T x y u,ty,pos,af,g⟩).run P w=.ok .skip {w with heap:=w.heap.setIfInBounds b (.map (es.modify m fun e=>{e with val:=v}) clock)}:=by
  simp only [execOp,aI f,aI hy,aI hu,Sem.run_bind,Instr.entryStore,MapKept.run_getObj_map hm,Result.andThen_ok,asInt,asIntOf,Sem.run_pure,C,MapKept.run_setObj_map _ hm]
 rw [I];refine h _ (kc w b _) (by simp) ?_;rw [H];refine⟨_,_,by simp [B];exact⟨rfl,rfl⟩,by rw [JR hn q v];exact F,ik hn k v,?_,by rw [G];exact o⟩;intro x f
 have:x.born∈(es.modify m fun e=>{e with key:=enc k,val:=v}).toList.map (·.born):=List.mem_map.2 ⟨x,f,rfl⟩
 grind
end
end Go.Rc

namespace Go.Rc
open Go
section
variable {α:Type}{A:Nat→Prop}{w w':World}{k n c base:Nat}{a:Option Addr}{cs:List Value}{R:α→List Value→Prop}{xs:List α}
variable {P:Program}{N:Nat}{kv:KV}{K:KV→World→Prop}
variable {d:Tmp}{ty:TypeId}{pos:String}{af:Array Edge}{g:Option (Nat × Bool)}{T E:TypeId}
theorem PV.bs{z us:List Value}{places:List (Nat × Nat)}(hT:BT P T z places) {ps:List (Nat × Operand)}{vs:List (Nat × Value)}(f:kb kv ps=some vs) (h:sP places z.length vs=true) (hu:wL places z vs=us) :
  PV P (.build T ps.toArray) ty kv w (.agg us.toArray):=by subst hu;exact PV.build hT f h
theorem OX.aP{len:Nat}{z us:List Value}(hT:BS P T E k len z) {ps:List (Nat × Operand)}{vs:List (Nat × Value)}(f:Nat.blt d N=true) (i:kb kv ps=some vs) (j:Hf k z.length vs=true) (hu:Nx k z vs=us)
  (h:∀b w',zn w w' b→cC w' b E us→K ((d,.slice (some ⟨b,0,none⟩) len len)::kv) w'):OX P ⟨some d,.buildSlice T len ps.toArray,ty,pos,af,g⟩ N kv w K:=by
 subst hu;exact OX.Ny hT f i j h
theorem OL.blk{b m:Nat}{l:List Value}(h:cC w b E l) (hb:base≤b) (hl:l.length=m*k) (h1:∀u∈l,u.oneCell'=true) (hm:m≤140737488355328):OL base w E k (some ⟨b,0,none⟩) m m l:=
 ⟨h1,hl,.inr ⟨b,m,l.toArray,rfl,hb,h,Nat.le_refl _,by simp [maxLen];omega,by simpa using hl,by rw [← hl];simp⟩⟩
theorem OR.dn{b:Nat}{l:List Value}{x:α}(h:cC w b E l) (hb:base≤b) (hl:l.length=k) (h1:∀u∈l,u.oneCell'=true) (j:R x l):OR base w E k R (some ⟨b,0,none⟩) 1 1 [x]:=
 ⟨rfl,[l],rfl,by simpa using hl,by simpa using OL.blk (k:=k) h hb (m:=1) (by simpa using hl) h1 (by omega),fun i y r h1 f=>by
  cases i with
  | zero=>simp at h1 f;subst h1 f;exact j
  | succ i=>simp at h1⟩
theorem OX.zC{f:FuncId}(m:CF P f) {t:Tmp}{fs cs:Array Value}{xs:List Operand}{o:Array TypeId}{args:List Value}(q:Nat.blt d N=true) (ht:look kv t=some (.func (.func f) fs cs)) (i:xs.map (ev kv)=args.map some)
  (h:Calls P f (fs++args.toArray++cs) w fun e w'=>∃v,e=.returned v∧K ((d,v)::kv) w'):OX P ⟨some d,.call {callee:=.value (.tmp t),args:=xs.toArray,argTypes:=o},ty,pos,af,g⟩ N kv w K:=by
 have key:∀(l:List Operand) (vs:List Value),l.map (ev kv)=vs.map some→l.map (jk kv)=vs∧∀x∈l,(ev kv x).isSome=true:=by
  intro l
  induction l with
  | nil=>intro vs h;simp at h;simp [h]
  | cons x r s=>
   intro vs h
   cases vs with
   | nil=>simp at h
   | cons v vs=>
    simp at h
    obtain⟨h1,j⟩:=s vs h.2;exact⟨by simp [aI h.1,h1],fun y hy=>by rcases List.mem_cons.1 hy with rfl | hy;simp [h.1];exact j y hy⟩
 obtain⟨h1,j⟩:=key xs args i;have p:ev kv (.tmp t)=some (.func (.func f) fs cs):=ht;refine⟨rfl,q,?_,?_⟩
 ·
  simp only [known,opers,List.all_eq_true];intro x i
  simp at i
  rcases i with rfl | i
  ·
   simp [p]
  exact j x i
 have hr:(execOp (jk kv) ⟨some d,.call {callee:=.value (.tmp t),args:=xs.toArray,argTypes:=o},ty,pos,af,g⟩).run P w=.ok (.enter f (fs++args.toArray++cs)) w:=by
  simp only [execOp,resolve,Deferred.ofValue,aI p,Sem.run_bind,List.map_toArray,h1]
  first
   | (simp only [Sem.run_pure,Result.andThen_ok,invoke];exact m _ w)
   | (simp only [invoke];exact m _ w)
 rw [hr];exact h
end
def gV(P:Program) (A:Nat→Prop) (w:World):Prop:=(∃b,A b∧b<w.heap.size∧∀w',w'.heap[b]?=w.heap[b]?→Lib.TabIs P w' "internal/strconv.uint64pow10" .u64 Lib.pow10Tab)∧∀n,n = "strconv.ErrSyntax"∨n = "strconv.ErrRange"→∀g,P.globalNamed n=some g→A g∧g<w.heap.size∧∃ev:Value,(ev=.nilIface∨∃t p,ev=.iface t p)∧∀w':World,w'.heap[g]?=w.heap[g]?→w'.cell? ⟨g,0,none⟩=some ev
theorem gV.err{P:Program}{A:Nat→Prop}{w:World}(h:gV P A w) {n:String}(hn:n = "strconv.ErrSyntax"∨n = "strconv.ErrRange") {g:Nat}(f:P.globalNamed n=some g):∃ev:Value,w.cell? ⟨g,0,none⟩=some ev∧(ev=.nilIface∨∃t p,ev=.iface t p):=by
 obtain⟨_,_,ev,h1,i⟩:=h.2 n hn g f;exact⟨ev,i w rfl,h1⟩
theorem gV.of{P:Program}{A f:Nat→Prop}{w w':World}(h:gV P A w) (i:∀x,A x→f x) (j:w.heap.size≤w'.heap.size) (hb:∀x,A x→x<w.heap.size→w'.heap[x]?=w.heap[x]?):gV P f w':=by
 obtain⟨⟨b,h1,m,q⟩,r⟩:=h;refine⟨⟨b,i b h1,Nat.lt_of_lt_of_le m j,fun w2 e=>q w2 (e.trans (hb b h1 m))⟩,fun n hn g s=>?_⟩;obtain⟨o,p,ev,t,u⟩:=r n hn g s;exact⟨i g o,Nat.lt_of_lt_of_le p j,ev,t,fun w2 e=>u w2 (e.trans (hb g o p))⟩
theorem gV.bT{P:Program}{A:Nat→Prop}{w w':World}{S:List Nat}(h:gV P A w) (c:aQ S w w') (f:∀b∈S,¬A b):gV P A w':=
 h.of (fun _ h=>h) c.size fun x i j=>c.block x j fun hm=>f x hm i
theorem gV.ext{P:Program}{A:Nat→Prop}{w w':World}(h:gV P A w) (c:aQ [] w w'):gV P A w':=h.bT c (by simp)
def itoa(n:Int):ByteArray:=⟨(Lib.itoa n).toArray⟩
end Go.Rc

namespace Go.Rc
open Go
def PL(P:Program):List Field→List (Nat × Nat)→Prop
 | [],[]=>True
 | f::fs,(o,s)::ps=>f.offset=o∧(∀w,(sizeOf f.type).run P w=.ok s w)∧PL P fs ps
 | _,_=>False
theorem NC{P:Program}:∀{fs:List Field}{ps:List (Nat × Nat)},PL P fs ps→∀w,(fs.mapM fun f=>(do pure (f.offset,← sizeOf f.type):Sem (Nat × Nat))).run P w=.ok ps w:=by
 intro fs
 induction fs with
 | nil=>intro ps h w;cases ps with
  | nil=>rfl
  | cons p r=>cases h
 | cons f fs i=>
  intro ps h w
  cases ps with
  | nil=>cases h
  | cons p r=>
   obtain⟨o,s⟩:=p;obtain⟨h1,j,m⟩:=h;subst h1;simp only [List.mapM_cons,Sem.run_bind,j w,Result.andThen_ok,Sem.run_pure,i m w]
theorem je{P:Program}{T:TypeId}{v:Value}{z:List Value}{fs:List Field}{places:List (Nat × Nat)}(h1:∀w,(zeroValue T).run P w=.ok v w) (f:v.cells=z.toArray) (h:P.underlying T=some (.struct fs.toArray)) (i:PL P fs places) :
  BT P T z places:=by
 refine⟨⟨v,h1,f⟩,fs.toArray,h,fun w=>?_⟩
 have:=NC i w
 rw [List.mapM_toArray];rw [map_eq_pure_bind];simp only [Sem.run_bind,this,Result.andThen_ok]
 rfl
theorem Fk{P:Program}{T f h:TypeId}{f0 f1:Field}(hu:P.underlying T=some (.struct #[f0,f1])) (i:f0.type=f) (j:f1.type=h) (m:f0.offset=0) (o:f1.offset=1)
  (h0:P.underlying f=some (.int .i64)) (h1:P.underlying h=some .string) (a0:∀w,(isAgg f).run P w=.ok false w) (a1:∀w,(isAgg h).run P w=.ok false w) :
  ∀em (k:Key) w,(Instr.checkKey em 10000 T k.val).run P w=.ok () w:=by
 intro em k w;subst i j
 have r0:∀n v w,(Instr.checkKey em (n+1) f0.type (.int .i64 v)).run P w=.ok () w:=fun n v w=>by simp [Instr.checkKey,run_underlying h0]
 have r1:∀n v w,(Instr.checkKey em (n+1) f1.type (.string v)).run P w=.ok () w:=fun n v w=>by simp [Instr.checkKey,run_underlying h1]
 have key:∀n,(Instr.checkKey em (n+2) T k.val).run P w=.ok () w:=fun n=>by
  rw [show n+2=(n+1)+1 from rfl]
  unfold Instr.checkKey
  simp only [Key.val,Sem.run_bind,run_underlying hu,Result.andThen_ok]
  by_cases e0:f0.name = "_" <;> by_cases e1:f1.name = "_" <;> simp [part,a0,a1,m,o,r0 n,r1 n,e0,e1]
 exact key 9998
end Go.Rc
namespace Go.Rc
open Go
theorem nS{P:Program}{T E k bytes:Nat}{z:Value}(hu:P.underlying T=some (.slice E)) (hi:(P.info? E).map (fun i=>(i.zero,i.size,i.bytes))=some (some z,k,bytes)) (f:z.cells.size=k) (j:0<k):AP P T E k bytes:=by
 cases h:P.info? E with
 | none=>rw [h] at hi;cases hi
 | some i=>
  rw [h] at hi;simp only [Option.map_some,Option.some.injEq,Prod.mk.injEq] at hi;exact⟨hu,⟨i,z,rfl.trans h,hi.1,hi.2.1,hi.2.2,f⟩,j⟩
end Go.Rc

namespace Go.Rc
open Go
class ic (P:Program) (T f:Nat) (off:outParam Nat):Prop where
 h:FA P T f off
class D7 (P:Program) (T:Nat) (E k:outParam Nat):Prop where
 h:wG P T E k
class Fl (P:Program) (T:Nat):Prop where
 h:Ff P T
class Q9 (P:Program) (T:Nat) (z:outParam (List Value)) (pl:outParam (List (Nat × Nat))):Prop where
 h:BT P T z pl
class oV (P:Program) (T:Nat) (d:outParam TypeDesc):Prop where
 h:P.underlying T=some d
class fI (P:Program) (f:FuncId):Prop where
 h:CF P f
class GK (P:Program) (T:Nat) (k:outParam Nat):Prop where
 h:(P.info? T).map (·.size)=some k
class Cn (P:Program) (T:Nat) (l:outParam (List Value)):Prop where
 h:ZV P T l
class Hl (P:Program) (T:Nat) (E k bytes:outParam Nat):Prop where
 h:AP P T E k bytes
theorem PV.zero{P:Program}{kv:KV}{w:World}{T ty:TypeId}{z:List Value}{pl:List (Nat × Nat)}(hT:BT P T z pl):PV P (.build T #[]) ty kv w (.agg z.toArray):=PV.bs (ps:=[]) (vs:=[]) hT rfl rfl rfl
end Go.Rc

namespace Go.Rc
def ay(l:List aA) (i:Nat):Bool:=(l[i]?).any (·.ring)
def bg(l:List aA):Nat→Nat
 | 0=>0
 | k+1=>if ay l k then bg l k else k+1
def dB(l:List aA) (m:Nat):Nat:=m+((l.drop m).takeWhile (·.ring)).length
def block(l:List aA) (n:Int):Int × Int:=
 if n<0∨(l.length:Int)≤n then (0,0) else if ay l n.toNat then (bg l n.toNat,dB l (n.toNat+1)) else (n,n+1)
theorem wN(l:List aA) (n:Int) (h:n<0∨l.length≤n):block l n=(0,0):=if_pos h
theorem ai{α:Type}{l:List α}{i:Nat}(h:i<l.length):l[i]?=some l[i]:=by simp [h]
theorem bD{l:List aA}{i:Nat}(h:i<l.length):ay l i=l[i].ring:=by simp [ay,h]
theorem qP{l:List aA}{m:Nat}(h:ay l m=true):dB l m=dB l (m+1):=by
 unfold ay at h
 have hm:m<l.length:=by grind
 rw [ai hm] at h;simp only [Option.any_some] at h
 unfold dB
 rw [List.drop_eq_getElem_cons hm,List.takeWhile_cons,if_pos h]
 simp;omega
theorem sR{l:List aA}{m:Nat}(h:ay l m=false):dB l m=m:=by
 unfold dB
 rcases Nat.lt_or_ge m l.length with hm | hm
 ·
  rw [bD hm] at h;rw [List.drop_eq_getElem_cons hm,List.takeWhile_cons,if_neg (by simp [h])]
  simp
 rw [List.drop_eq_nil_of_le hm];simp
theorem lA{l:List aA}{m:Nat}(h:l.length≤m):ay l m=false:=by grind [ay]
theorem oW{l:List aA}{k:Nat}(h:ay l k=true):bg l (k+1)=bg l k:=by simp [bg,h]
theorem qQ{l:List aA}{k:Nat}(h:k=0∨ay l (k - 1)=false):bg l k=k:=by
 cases k with
 | zero=>rfl
 | succ k=>grind [bg]
theorem Fm(n m:Int):n.tmod m % m=n % m:=by
 have h:=Int.tmod_add_mul_tdiv n m
 have:n % m=(n.tmod m+m*n.tdiv m) % m:=by rw [h]
 rw [this,Int.add_mul_emod_self_left]
end Go.Rc
namespace Go.Rc
theorem bO{α:Type}{l:List α}{k:Nat}(hk:k<l.length) {P:Nat→α→Prop}(h:∀j x,j<k→l[j]?=some x→P j x) (f:P k l[k]):∀j x,j<k+1→l[j]?=some x→P j x:=by grind
end Go.Rc

namespace Go.Rc
open Go
def aB(k:Key):Bool:=decide (k.kind=1) || (decide (k.kind=2) || decide (k.kind=30))
def fW(n:Int):Bool:=decide (n=7) || (decide (n=14) || (decide (n=17) || decide (n=18)))
def ax(k:Key):Bool:=decide (k.kind=32) || (decide (1≤k.kind) && decide (k.kind≤22) && fW k.kind)
def decFrom(s:List UInt8) (n:Int):Int:=match s with
 | []=>n
 | c::r=>if c.toNat<48∨57<c.toNat then -1 else decFrom r (10*n+((c.toNat:Int) - 48))
def cU(s:ByteArray):Int:=
 if s.size=0∨9<s.size∨(s.data.toList.head?=some 48∧s.size≠1) then -1 else decFrom s.data.toList 0
def number(k:Key):Int:=if 30≤k.kind∧k.kind≤32∧cU k.text≤99 then cU k.text else -1
def cH(k:Key):Bool:=
 if 30≤k.kind∧k.kind≤32 then decide (0≤number k)
 else decide (1≤k.kind∧k.kind≤22∧k.text.size≤1073741824∧(k.text=⟨#[]⟩∨(k.kind≠1∧k.kind≠21)))
def eS:Key:=⟨0,⟨#[]⟩⟩
def bH(n:Int):Key:=if n<0∨99<n then eS else ⟨30,itoa n⟩
def aD(aa:List aA) (n:Int):Key:=if n<0∨(aa.length:Int)≤n∨99<n then eS else ⟨if ay aa n.toNat then 32 else 31,itoa n⟩
def bp(a b:Key):Int:=if a.kind<b.kind then -1 else if b.kind<a.kind then 1 else Lib.compareBytes a.text.data.toList b.text.data.toList
end Go.Rc
namespace Go.Rc
open Go
theorem wO(s:ByteArray):s=⟨#[]⟩↔s.size=0:=by
 constructor
 ·
  rintro rfl;rfl
 intro h;obtain⟨d⟩:=s;grind [ByteArray.size]
def lB(s:ByteArray):Bool:=decide (s=⟨#[]⟩) || (decide (9<(s.size:Int)) || (decide (((s.data.toList.head?.map (·.toNat)).getD 0:Int)=48) && decide (s≠⟨#[48]⟩)))
theorem zD(s:ByteArray) (h:0<s.size):∃b,s[0]?=some b∧((s.data.toList.head?.map (·.toNat)).getD 0:Int)=(b.toNat:Int):=by
 obtain⟨⟨l⟩⟩:=s
 cases l with
 | nil=>simp [ByteArray.size] at h
 | cons b r=>exact⟨b,rfl,by simp⟩
theorem sS(s:ByteArray):s=⟨#[48]⟩↔s.data.toList.head?=some 48∧s.size=1:=by
 obtain⟨⟨l⟩⟩:=s
 cases l with
 | nil=>simp
 | cons b r=>grind [ByteArray.size]
theorem qR(s:ByteArray):cU s=if lB s=true then -1 else decFrom s.data.toList 0:=by
 unfold cU
 congr 1
 simp only [lB,Bool.or_eq_true,Bool.and_eq_true,decide_eq_true_eq,wO];refine propext (or_congr_right (or_congr (by omega) ?_));rw [show(s≠⟨#[48]⟩) = ¬(s.data.toList.head?=some 48∧s.size=1) from by rw [ne_eq,sS]]
 cases h:s.data.toList.head? with
 | none=>simp
 | some b=>
  simp
  have:(b.toNat=48↔b=48):=by rw [← UInt8.toNat_inj];rfl
  grind
theorem Fo{s:ByteArray}(h:lB s=false):s.size≤9:=by
 simp [lB] at h
 omega
theorem xP(s:ByteArray) {i:Nat}{n:Int}(h:i<s.size):∃b,s[i]?=some b∧decFrom (s.data.toList.drop i) n=if (b.toNat:Int)<48∨57<(b.toNat:Int) then -1 else decFrom (s.data.toList.drop (i+1)) (10*n+((b.toNat:Int) - 48)):=by
 have f:i<s.data.toList.length:=by rw [Array.length_toList];exact h
 refine⟨s.data.toList[i],?_,?_⟩
 ·
  obtain⟨⟨l⟩⟩:=s
  have e:(ByteArray.mk ⟨l⟩)[i]?=if h:i<(ByteArray.mk ⟨l⟩).size then some (ByteArray.mk ⟨l⟩)[i] else none:=rfl
  rw [e,dif_pos h]
  rfl
 grind [List.drop_eq_getElem_cons,decFrom]
theorem qS(k:Key) (h:k.kind<30∨32<k.kind):cH k=(decide (1≤k.kind) && (decide (k.kind≤22) && (decide ((k.text.size:Int)≤1073741824) && (decide (k.text=⟨#[]⟩) || (decide (k.kind≠1) && decide (k.kind≠21)))))):=by
 unfold cH
 grind
end Go.Rc

namespace Go.Rc
open Go
instance:Inhabited aA:=⟨⟨false,[],0,0⟩⟩
instance:Inhabited Ask:=⟨⟨false,false,0,0⟩⟩
def Ask.val(x:Ask):Value:=.agg #[.bool x.cell,.bool x.pick,.int .i64 x.n,.int .i64 x.Cj]
structure rW where
 done:Bool
 value:ByteArray
 ask:Key
 deriving DecidableEq
def rW.val(t:rW):Value:=.agg #[.bool t.done,.string t.value,.int .i64 t.ask.kind,.string t.ask.text]
def e8(aa:List aA) (i:Nat):Int:=if ay aa i then (block aa i).2 else (block aa i).1
def fw(aa:List aA) (i:Nat) (cell:Bool) (n:Int):Bool:=
 if cell then decide (0≤n) && decide (n≤15) else decide (0≤n) && decide (n<e8 aa i)
def cy(s:ByteArray):Nat:=if cU s<0∨65535<cU s then 0 else (cU s).toNat
theorem ke(s:ByteArray):cy s≤65535:=by unfold cy;split <;> omega
def rX(c:Nat) (l:List Nat):Nat:=l.foldl (· + ·) c
def qT(c:Nat) (l:List Nat):Nat:=l.foldl max c
def eK(c:Nat) (l:List Nat):Nat:=l.foldl (· ||| ·) c
def dG(kind:Int) (c:Nat) (l:List Nat):Nat:=
 if kind=1 then rX c l % 1000 else if kind=2 then rX c l / 2 % 1000 else if kind=3 then qT c l else if kind=4 then rX c l % 2 else eK c l
theorem oi{f:Nat→Nat→Nat}{c:Nat}{l:List Nat}{i:Nat}(h:i<l.length):(l.take (i+1)).foldl f c=f ((l.take i).foldl f c) l[i]:=by grind [List.take_succ_eq_append_getElem]
theorem wP{c:Nat}{l:List Nat}{i:Nat}(h:i<l.length):rX c (l.take (i+1))=rX c (l.take i)+l[i]:=oi h
theorem sT{c:Nat}{l:List Nat}{i:Nat}(h:i<l.length):qT c (l.take (i+1))=max (qT c (l.take i)) l[i]:=oi h
theorem sU{c:Nat}{l:List Nat}{i:Nat}(h:i<l.length):eK c (l.take (i+1))=eK c (l.take i) ||| l[i]:=oi h
theorem su{c:Nat}:∀{l:List Nat},(∀x∈l,x≤65535)→rX c l≤c+65535*l.length:=by
 intro l
 induction l generalizing c with
 | nil=>simp [rX]
 | cons x r f=>
  intro h
  have h1:=f (c:=c+x) fun y hy=>h y (by simp [hy])
  have i:=h x (by simp)
  grind [rX]
theorem mA{c:Nat}:∀{l:List Nat},c≤65535→(∀x∈l,x≤65535)→qT c l≤65535:=by
 intro l
 induction l generalizing c with
 | nil=>intro h _;simpa [qT] using h
 | cons x r f=>
  intro h0 h;have i:=h x (by simp)
  exact f (c:=max c x) (by omega) fun y hy=>h y (by simp [hy])
theorem kX{c:Nat}:∀{l:List Nat},c≤65535→(∀x∈l,x≤65535)→eK c l≤65535:=by
 intro l
 induction l generalizing c with
 | nil=>intro h _;simpa [eK] using h
 | cons x r f=>
  intro h0 h;have i:=h x (by simp)
  refine f (c:=c ||| x) ?_ fun y hy=>h y (by simp [hy])
  have:c ||| x<2 ^ 16:=Nat.or_lt_two_pow (by omega) (by omega)
  omega
theorem nt{kind:Int}{c:Nat}{l:List Nat}(hc:c≤65535) (h:∀x∈l,x≤65535):dG kind c l≤65535:=by grind [dG,mA,kX]
def bQ(aa:List aA) (k:Key) (ae:List ByteArray):rW:=
 if number k<0∨(aa.length:Int)≤number k∨aD aa (number k)≠k then ⟨true,⟨#[]⟩,eS⟩
 else
  let r:=aa[(number k).toNat]!
  if r.asks.length≤ae.length then ⟨true,itoa (dG r.final r.c.toNat ((ae.take r.asks.length).map cy)),eS⟩
  else
   let x:=r.asks[ae.length]!
   let to:=if x.pick=true∧(ae.length=0∨cy ae[ae.length - 1]! % 2=0) then x.Cj else x.n
   ⟨false,⟨#[]⟩,if x.cell then bH to else aD aa to⟩
def eT(x:Ask) (ae:List ByteArray):Bool:=x.pick && (decide (ae.length=0) || decide (cy ae[ae.length - 1]! % 2=0))
def oj(x:Ask) (ae:List ByteArray):Int:=if eT x ae then x.Cj else x.n
theorem zF{aa:List aA}{k:Key}{ae:List ByteArray}(h:number k<0∨(aa.length:Int)≤number k∨aD aa (number k)≠k):bQ aa k ae=⟨true,⟨#[]⟩,eS⟩:=by
 unfold bQ;rw [if_pos h]
theorem nv{aa:List aA}{k:Key}{ae:List ByteArray}{i:Nat}(hk:number k=i) (hi:i<aa.length) (f:aD aa (number k)=k) (hn:aa[i].asks.length≤ae.length) :
  bQ aa k ae=⟨true,itoa (dG aa[i].final aa[i].c.toNat ((ae.take aa[i].asks.length).map cy)),eS⟩:=by
 unfold bQ
 grind
theorem ny{aa:List aA}{k:Key}{ae:List ByteArray}{i:Nat}(hk:number k=i) (hi:i<aa.length) (f:aD aa (number k)=k) (hn:ae.length<aa[i].asks.length) :
  bQ aa k ae=⟨false,⟨#[]⟩,if aa[i].asks[ae.length].cell then bH (oj aa[i].asks[ae.length] ae) else aD aa (oj aa[i].asks[ae.length] ae)⟩:=by
 unfold bQ
 rw [if_neg (by rw [f];simp;omega)];simp only [hk,Int.toNat_natCast,getElem!_pos aa i hi,getElem!_pos aa[i].asks ae.length hn];rw [if_neg (by omega)];simp only [oj,eT,Bool.and_eq_true,Bool.or_eq_true,decide_eq_true_eq]
def ek(aa:List aA) (i:Nat) (ring:Bool) (k:Nat) (x:Ask):Bool:=
 fw aa i x.cell x.n && (if x.pick then !ring && decide (k≠0) && fw aa i x.cell x.Cj else decide (x.Cj=0))
def fl(r:aA):Bool:=
 if r.ring then decide (r.final=5) && decide (0≤r.c) && decide (r.c≤65535) else decide (1≤r.final) && decide (r.final≤4) && decide (0≤r.c) && decide (r.c≤999)
def jI(aa:List aA) (i:Nat) (r:aA):Prop:=r.asks.length≤6∧(∀k x,r.asks[k]?=some x→ek aa i r.ring k x=true)∧fl r=true
def aq(aa:List aA):Prop:=aa.length≤24∧∀i r,aa[i]?=some r→jI aa i r
theorem PV.orN{P:Program}{kv:KV}{w:World}{T U ty:TypeId}{x y:Operand}{p q:Nat}(f:ev kv x=some (.int .i64 (p:Int))) (hy:ev kv y=some (.int .i64 (q:Int))) (i:p<2 ^ 62) (j:q<2 ^ 62) :
  PV P (.binOp .or T x y U) ty kv w (.int .i64 ((p ||| q:Nat):Int)):=by
 refine⟨rfl,by simp [known,opers,f,hy],fun _ _ _ _=>dF .or (by simp) _ ?_ f hy⟩;have h:p ||| q<2 ^ 62:=Nat.or_lt_two_pow i j
 have e:((BitVec.ofInt (IntKind.bits .i64) (p:Int)) ||| (BitVec.ofInt (IntKind.bits .i64) (q:Int))).toNat=p ||| q:=by
  have hb:IntKind.bits .i64=64:=rfl
  grind
 simp only [Op.intBits,e];rw [nj (by omega) (by omega)]
 rfl
end Go.Rc

namespace Go.Rc
open Go
def R0(z:Int) (r:List Value):Prop:=r=[.int .i64 z]
def Ints(A:Nat→Prop) (w:World) (a:Option Addr) (n c:Nat) (l:List Int):Prop:=SR A w 1 R0 a n c l
def Co(A:Nat→Prop) (w:World) (E d:Nat):Prop:=
 ∃(l:List Int) (a:Option Addr) (n c:Nat) (at_:Nat),cC w d E [.slice a n c,.int .i64 (at_:Int)]∧Ints A w a n c l∧n≤400∧at_≤400
variable {A:Nat→Prop}{w w':World}{E d:Nat}
theorem Co.lt(h:Co A w E d):d<w.heap.size:=by obtain⟨_,_,_,_,_,h,_⟩:=h;exact h.lt
structure Change where
 key:Key
 value:ByteArray
def Change.cells(c:Change):List Value:=[.int .i64 c.key.kind,.string c.key.text,.string c.value]
def Change.small(c:Change):Prop:=(∃n:Int,0≤n∧n≤9∧c.key=bH n)∧c.value.size≤100
end Go.Rc
namespace Go.Rc
open Go
def lC(aa:List aA) (k:Key):Prop:=(∃n:Int,0≤n∧n≤3∧k=bH n)∨∃i:Nat,i<aa.length∧k=aD aa i
end Go.Rc

