/- Base of the proof: frames, memory, ownership, and the plain meaning of rule systems. Conditions: as each lemma says. -/
import Derived.Test.YtpoiojafnnaccaaGreatDoorUBa
import Derived.Laws.StructEq
import Derived.Laws.OwnMore
import Derived.MapKept
import Derived.Maps.RangeRun
import Derived.Laws.Slices
import Derived.Lib.LaidTab
import Derived.Lib.ItoaNum
import Derived.Lib.ItoaMem
import Derived.Shelf.Small.Strs
set_option linter.all false
namespace Go.Rc
open Go
def n0:Nat→KV→KV
 | 0,kv=>kv
 | _+1,[]=>[]
 | k+1,_::r=>n0 k r
def Ex(t:Nat):KV→Bool
 | []=>false
 | (s,_)::r=>match Nat.beq s t with
  | true=>true
  | false=>Ex t r
def tu:Nat→KV→KV→Bool
 | 0,_,_=>true
 | _+1,[],_=>true
 | k+1,(t,_)::r,kv=>match Ex t kv with
  | true=>false
  | false=>tu k r kv
theorem u7{t:Nat}:∀{kv:KV},Ex t kv=false→look kv t=none:=by
 intro kv
 induction kv with
 | nil=>intro _;rfl
 | cons p r ih=>grind [Ex,look]
theorem MI{t:Nat}{v:Value}:∀(k:Nat) (o7 kv:KV),n0 k o7=kv→tu k o7 kv=true→look kv t=some v→look o7 t=some v:=by
 intro k
 induction k with
 | zero=>grind [n0]
 | succ k ih=>
  intro o7 kv h hd hl
  cases o7 with
  | nil=>grind [n0]
  | cons p r=>grind [n0,tu,Nat.eq_of_beq_eq_true,u7,look]
theorem JC{t:Nat}{v:Value}:∀(k:Nat) (o7 kv:KV) {kve:KV},n0 k o7=kv→tu k o7 kve=true→(∀s u,look kve s=some u→look kv s=some u)→look kve t=some v→look o7 t=some v:=by
 intro k
 induction k with
 | zero=>grind [n0]
 | succ k ih=>
  intro o7 kv kve h hd he hl
  cases o7 with
  | nil=>grind [n0]
  | cons p r=>grind [n0,tu,Nat.eq_of_beq_eq_true,u7,look]
def kO(t:Nat):KV→KV
 | []=>[]
 | (s,v)::r=>match Nat.beq s t with
  | true=>kO t r
  | false=>(s,v)::kO t r
theorem GZ{t:Nat}:∀{kv:KV},look (kO t kv) t=none:=by
 intro kv
 induction kv with
 | nil=>rfl
 | cons p r ih=>grind [kO,look]
theorem JD{t s:Nat}{u:Value}:∀{kv:KV},look (kO t kv) s=some u→look kv s=some u:=by
 intro kv
 induction kv with
 | nil=>intro h;cases h
 | cons p r ih=>grind [kO,Nat.eq_of_beq_eq_true,look,GZ]
theorem Fr.drop{n:Nat}{a:Act}{o7 kv:KV}(h:Fr n a o7) (k:Nat) (hd:n0 k o7=kv) (hj:tu k o7 kv=true):Fr n a kv:=
 ⟨h.size,h.nY,fun t v hl=>h.val t v (MI k o7 kv hd hj hl)⟩
theorem Fr.add{n:Nat}{a:Act}{kv:KV}(h:Fr n a kv) {t:Nat}{v:Value}(hv:a.tmps.getD t undef=v):Fr n a ((t,v)::kv):=
 ⟨h.size,h.nY,fun s u hl=>by
  simp only [look] at hl
  cases hb:Nat.beq t s with
  | true=>simp_all
  | false=>rw [hb] at hl;exact h.val s u hl⟩
theorem Sub.nil{kv:KV}:Sub kv []:=trivial
theorem Sub.cons{kv r:KV}{t:Nat}{v:Value}(h:Rc.look kv t=some v) (hr:Sub kv r):Sub kv ((t,v)::r):=⟨h,hr⟩
theorem Sub.lz{kv r:KV}{t:Nat}{k:IntKind}{z z':Int}(h:Rc.look kv t=some (.int k z)) (hz:z=z') (hr:Sub kv r):Sub kv ((t,.int k z')::r):=⟨by rw [h,hz],hr⟩
theorem Sub.abN{kv r:KV}{t:Nat}{v v':Value}(h:Rc.look kv t=some v) (hz:v=v') (hr:Sub kv r):Sub kv ((t,v')::r):=⟨by rw [h,hz],hr⟩
section
variable {P:Program}{ops:Array Oper}{Q:Exit→Act→World→Prop}{n:Nat}{kv:KV}{w:World}
def xK(n t:Nat) (v:Value) (kv:KV) (J:World→Prop):Exit→Act→World→Prop:=fun e a w'=>e=.normal∧Fr n a ((t,v)::kv)∧J w'
theorem WC.nb{c:Code}{t:Nat}{v:Value}(J:World→Prop) (h:WC P c (xK n t v kv J) n kv w) (hJ:∀w',J w'→EX Q .normal n ((t,v)::kv) w'):WC P c Q n kv w:=
 fun a hF=>wp_mono (h a hF) fun e a' w' ⟨he,Ob,hj⟩=>by subst he;exact hJ w' hj a' Ob
theorem EX.abO{o7:KV}{t:Nat}{v v':Value}{J:World→Prop}(k:Nat) (hd:n0 k o7=kv) (hj:tu k o7 kv=true) (hv:look o7 t=some v') (he:v'=v) (hJ:J w) :
  EX (xK n t v kv J) .normal n o7 w:=fun _ hF=>⟨rfl,(hF.drop k hd hj).add (by rw [← he];exact hF.val t v' hv),hJ⟩
theorem WC.o8{c:Code}{t:Nat}{v:Value}(J:World→Prop) (h:WC P c (xK n t v (kO t kv) J) n kv w) (hJ:∀w',J w'→EX Q .normal n ((t,v)::kO t kv) w'):WC P c Q n kv w:=
 fun a hF=>wp_mono (h a hF) fun e a' w' ⟨he,Ob,hj⟩=>by subst he;exact hJ w' hj a' Ob
theorem EX.WJ{o7:KV}{t:Nat}{v v':Value}{J:World→Prop}(k:Nat) (hd:n0 k o7=kv) (hj:tu k o7 (kO t kv)=true) (hv:look o7 t=some v') (he:v'=v) (hJ:J w) :
  EX (xK n t v (kO t kv) J) .normal n o7 w:=fun a hF=>⟨rfl,Fr.add ⟨hF.size,hF.nY,fun s u hl=>hF.val s u (JC k o7 kv hd hj (fun s u h=>JD h) hl)⟩ (by rw [← he];exact hF.val t v' hv),hJ⟩
theorem WL.iB{l:List Oper}{t:Nat}{b:Bool}(ht:look kv t=some (.bool b)) (hT:b=true→WL P ops Q l n ((t,.bool true)::kv) w) (hF:b=false→WL P ops Q l n ((t,.bool false)::kv) w) :
  WL P ops Q l n kv w:=fun a Ob=>by
 cases b
 ·
  exact hF rfl a (Ob.add (Ob.val t _ ht))
 exact hT rfl a (Ob.add (Ob.val t _ ht))
def rq(kv kH:KV):Prop:=∀t,look kv t=look kH t
theorem rq.ox{kv kH:KV}(h:rq kv kH) (d:Option Tmp) (v:Value):rq (ox kv d v) (ox kH d v):=by
 intro t
 cases d with
 | none=>exact h t
 | some d=>simp only [Rc.ox,look];cases Nat.beq d t <;> simp [h t]
theorem rq.ev{kv kH:KV}(h:rq kv kH) (x:Operand):ev kv x=ev kH x:=by cases x <;> simp [Rc.ev,h _]
theorem rq.mi{kv kH:KV}(h:rq kv kH):mi kv=mi kH:=funext fun x=>by simp [Rc.mi,h.ev x]
theorem rq.known{kv kH:KV}(h:rq kv kH) (op:Op):known kv op=known kH op:=by simp [Rc.known,h.ev]
theorem rq.gd{kv kH:KV}(h:rq kv kH) (ops:Array Oper) (o:Oper):gd ops kv o=gd ops kH o:=by
 unfold Rc.gd
 cases o.guard with
 | none=>rfl
 | some g=>
  simp only
  cases (ops[g.1]?).bind (·.dst) with
  | none=>rfl
  | some t=>simp [h t]
theorem DW.abP{n:Nat}{C:World→Prop}{T:Nat→World→World→Prop}{E:Nat→Option (Value→World→Prop)}{Fin:KV→World→Prop}(Sg:∀kv kH w,rq kv kH→Fin kv w→Fin kH w) :
  ∀(l:List Oper) (i:Nat) (kv kH:KV) (F:mY),rq kv kH→DW P ops n C T E Fin i l kv F→DW P ops n C T E Fin i l kH F:=by
 intro l
 induction l with
 | nil=>intro i kv kH F h hd w hC hF;exact Sg _ _ _ h (hd w hC hF)
 | cons o r ih=>
  intro i kv kH F h hd;obtain⟨h1,h2,h3⟩:=hd;refine⟨h1,h2,?_⟩;rw [← h.gd,← h.known,← h.mi]
  rcases h3 with⟨a,b⟩ | ⟨a,b,c,e,d,f⟩ | ⟨a,b,S,c,d,f⟩
  ·
   exact .inl ⟨a,ih _ _ _ _ (h.ox _ _) b⟩
  ·
   exact .inr (.inl ⟨a,b,c,e,d,ih _ _ _ _ (h.ox _ _) f⟩)
  exact .inr (.inr ⟨a,b,S,c,d,fun v w hC hS=>ih _ _ _ _ (h.ox _ _) (f v w hC hS)⟩)
theorem rq.fr{a:Act}{kv kH:KV}(h:rq kv kH) (hF:Fr n a kH):Fr n a kv:=⟨hF.size,hF.nY,fun t v hv=>hF.val t v (by rw [← h t];exact hv)⟩
theorem DW.iB{m i:Nat}{C:World→Prop}{T:Nat→World→World→Prop}{E:Nat→Option (Value→World→Prop)}{Ey:Array Oper}{l l':List Oper}{F:mY}{t:Nat}{b:Bool}
  (ht:look kv t=some (.bool b)) (hT:b=true→DW P ops m C T E (fun kv w=>WL P Ey Q l' n kv w) i l ((t,.bool true)::kv) F)
  (hF:b=false→DW P ops m C T E (fun kv w=>WL P Ey Q l' n kv w) i l ((t,.bool false)::kv) F):DW P ops m C T E (fun kv w=>WL P Ey Q l' n kv w) i l kv F:=by
 have key:∀c:Bool,look kv t=some (.bool c)→rq ((t,.bool c)::kv) kv:=fun c hc s=>by
  simp only [look]
  cases hb:Nat.beq t s with
  | true=>simp_all
  | false=>rfl
 have Sg:∀(kv kH:KV) (w:World),rq kv kH→WL P Ey Q l' n kv w→WL P Ey Q l' n kH w:=fun _ _ _ h hw a hF=>hw a (h.fr hF)
 cases b
 ·
  exact DW.abP Sg _ _ _ _ _ (key false ht) (hF rfl)
 exact DW.abP Sg _ _ _ _ _ (key true ht) (hT rfl)
theorem JE:∀{l:List (Nat × (Value→World→Prop))}{i S},dy l i=some S→∃p∈l,p.2=S:=by
 intro l
 induction l with
 | nil=>intro i S h;simp [dy] at h
 | cons p r ih=>grind [dy]
def StE(C:World→Prop) (T:Nat→World→World→Prop):List (Nat × (Value→World→Prop))→Prop
 | []=>True
 | (_,S)::r=>(∀j v w w',C w→C w'→T j w w'→S v w→S v w')∧StE C T r
theorem bT{C:World→Prop}{T:Nat→World→World→Prop}{l:List (Nat × (Value→World→Prop))}{ops:Array Oper}(h:StE C T l) :
  ∀i S,dy l i=some S→∀j S',dy l j=some S'→j≠i→j∉j3 ops i→∀v w w',C w→C w'→T j w w'→S v w→S v w':=by
 intro i S hi j S' hj _ _;obtain⟨p,hp,hS⟩:=JE hi
 clear hi hj
 induction l with
 | nil=>cases hp
 | cons q r ih=>
  rcases List.mem_cons.1 hp with rfl | hp
  ·
   subst hS;exact h.1 j
  exact ih h.2 hp
def StP(C:World→Prop) (T:Nat→World→World→Prop) (ops:Array Oper) (i:Nat) (S:Value→World→Prop):List (Nat × (Value→World→Prop))→Prop
 | []=>True
 | (j,_)::r=>(match Nat.beq j i || mz j (j3 ops i) with
  | true=>True
  | false=>∀v w w',C w→C w'→T j w w'→S v w→S v w')∧StP C T ops i S r
def StQ(C:World→Prop) (T:Nat→World→World→Prop) (ops:Array Oper) (all:List (Nat × (Value→World→Prop))):List (Nat × (Value→World→Prop))→Prop
 | []=>True
 | (i,S)::r=>StP C T ops i S all∧StQ C T ops all r
theorem zH:∀{l:List (Nat × (Value→World→Prop))}{i S},dy l i=some S→(i,S)∈l:=by
 intro l
 induction l with
 | nil=>intro i S h;cases h
 | cons q r ih=>grind [dy,Nat.eq_of_beq_eq_true]
theorem OO{C:World→Prop}{T:Nat→World→World→Prop}{ops:Array Oper}{i:Nat}{S:Value→World→Prop}:∀{l:List (Nat × (Value→World→Prop))},StP C T ops i S l→
  ∀j S',(j,S')∈l→j≠i→j∉j3 ops i→∀v w w',C w→C w'→T j w w'→S v w→S v w':=by
 intro l
 induction l with
 | nil=>intro _ j S' h;cases h
 | cons q r ih=>
  obtain⟨j',S''⟩:=q;intro h j S' hm kh tV
  rcases List.mem_cons.1 hm with e | hm
  ·
   simp at e
   obtain⟨rfl,_⟩:=e;have h1:=h.1
   grind [Nat.eq_of_beq_eq_true,lD]
  exact ih h.2 j S' hm kh tV
theorem OP{C:World→Prop}{T:Nat→World→World→Prop}{ops:Array Oper}{all:List (Nat × (Value→World→Prop))}:∀{l:List (Nat × (Value→World→Prop))},StQ C T ops all l→
  ∀i S,(i,S)∈l→StP C T ops i S all:=by
 intro l
 induction l with
 | nil=>intro _ i S h;cases h
 | cons q r ih=>
  obtain⟨i',S''⟩:=q;intro h i S hm
  rcases List.mem_cons.1 hm with e | hm
  ·
   simp at e;obtain⟨rfl,rfl⟩:=e;exact h.1
  exact ih h.2 i S hm
theorem o9{C:World→Prop}{T:Nat→World→World→Prop}{l:List (Nat × (Value→World→Prop))}{ops:Array Oper}(h:StQ C T ops l l) :
  ∀i S,dy l i=some S→∀j S',dy l j=some S'→j≠i→j∉j3 ops i→∀v w w',C w→C w'→T j w w'→S v w→S v w':=
 fun i S hi j S' hj kh tV=>OO (OP h i S (zH hi)) j S' (zH hj) kh tV
theorem GS.kI{S:List Nat}{w0 w w':World}{b:Nat}(h:GS w w' b) (c:bj S w0 w):w0.heap.size≤b:=Nat.le_trans c.size h.ge
theorem bj.own{S:List Nat}{a w w':World}{b:Nat}(c:bj S a w) (s:bj [b] w w') (hb:a.heap.size≤b):bj S a w':=
 c.trans' s fun x hx=>.inr (by simp at hx;subst hx;exact hb)
theorem GS.ne{w w':World}{b x:Nat}(h:GS w w' b) (hx:x<w.heap.size):x≠b:=by have:=h.ge;omega
/-! ### results that lie in memory -/
inductive RS (P:Program) (kv:KV) (w:World):List ResultVar→List Value→Prop where
 | nil:RS P kv w [] []
 | tmp {t v r vs} (h:look kv t=some v) (hr:RS P kv w r vs):RS P kv w (.tmp t::r) (v::vs)
 | cell {t T k b us r vs} (hT:wD P T k) (h:look kv t=some (.pointer (some ⟨b,0,none⟩))) (hc:w.rangeAt b 0 us) (hl:us.length=k) (hr:RS P kv w r vs):RS P kv w (.cell t T::r) (.agg us.toArray::vs)
def Sh(tmps:Array Value):ResultVar→Sem Value
 | .tmp t=>pure (tmps.getD t undef)
 | .cell x t=>do loadVar t (← asAddr (tmps.getD x undef))
theorem G0{a:Act}(hF:Fr n a kv):∀{rs:List ResultVar}{vs:List Value},RS P kv w rs vs→(rs.mapM (Sh a.tmps)).run P w=.ok vs w:=by
 intro rs vs h
 induction h with
 | nil=>rfl
 | tmp h hr ih=>
  have:=hF.val _ _ h
  grind [Sem.run_bind,Sh,Sem.run_pure,Result.andThen_ok]
 | cell hT h hc hl hr ih=>
  have:=hF.val _ _ h
  obtain⟨de,hu,hrw⟩:=hT.row;have UQ:=run_loadVar_mid (P:=P) w _ 0 _ _ de hc hu hrw (by rw [hT.2,hl])
  grind [Sem.run_bind,Sh,asAddr,Sem.run_pure,Result.andThen_ok]
theorem xL{fn:Func}{a:Act}(hF:Fr n a kv) {rs:List ResultVar}{vs:List Value}(hr:fn.results=rs.toArray) (h:RS P kv w rs vs) :
  (results fn a.tmps).run P w=.ok (if h:vs.toArray.size=1 then vs.toArray[0] else .tuple vs.toArray) w:=by
 have e:results fn a.tmps=(do let vs ← fn.results.mapM (Sh a.tmps);pure (if h:vs.size=1 then vs[0] else .tuple vs)):=rfl;rw [e,hr,List.mapM_toArray];simp only [Sem.run_bind,map_eq_pure_bind,G0 hF h,Result.andThen_ok,Sem.run_pure]
theorem EX.je{fn:Func}{R:Ending→World→Prop}{rs:List ResultVar}{vs:List Value}(hr:fn.results=rs.toArray) (h:RS P kv w rs vs) (hl:Nat.beq vs.length 1=false)
  (hR:R (.returned (.tuple vs.toArray)) w):EX (bodyPost P fn R) .ret n kv w:=fun a hF=>by
 refine⟨hF.nY,_,xL hF hr h,?_⟩
 have:¬vs.toArray.size=1:=fun e=>by simp at e;rw [e] at hl;cases hl
 rw [dif_neg this];exact hR
theorem EX.aia{fn:Func}{R:Ending→World→Prop}{t T k b:Nat}{us:List Value}(hT:wD P T k) (hr:fn.results=#[.cell t T]) (ht:look kv t=some (.pointer (some ⟨b,0,none⟩))) (hc:w.rangeAt b 0 us) (hl:us.length=k)
  (hR:R (.returned (.agg us.toArray)) w):EX (bodyPost P fn R) .ret n kv w:=fun a hF=>
 ⟨hF.nY,_,xL hF (rs:=[.cell t T]) hr (.cell hT ht hc hl .nil),by simpa using hR⟩
end
end Go.Rc

namespace Go.Rc
open Go
structure SL (A:Nat→Prop) (w:World) (k:Nat) (a:Option Addr) (n c:Nat) (cs:List Value):Prop where
 len:cs.length=n*k
 le:n≤140737488355328
 one:∀u∈cs,u.oneCell'=true
 at_:(a=none∧n=0∧c=0)∨∃b o,a=some ⟨b,o,none⟩∧n≤c∧c≤maxLen∧A b∧b<w.heap.size∧w.rangeAt b o cs
variable {α:Type}{A:Nat→Prop}{w w':World}{k n c:Nat}{a:Option Addr}{cs:List Value}
theorem SL.nil(A:Nat→Prop) (w:World) (k:Nat):SL A w k none 0 0 []:=⟨by simp,by omega,by simp,.inl ⟨rfl,rfl,rfl⟩⟩
theorem SL.cX{S:List Nat}(h:SL A w k a n c cs) (hc:bj S w w') (hS:∀b∈S,¬A b):SL A w' k a n c cs:=by
 refine⟨h.len,h.le,h.one,?_⟩
 rcases h.at_ with h1 | ⟨b,o,h1,h2,h3,h4,h5,h6⟩
 ·
  exact .inl h1
 exact .inr ⟨b,o,h1,h2,h3,h4,Nat.lt_of_lt_of_le h5 hc.size,bE h6 hc fun hm=>hS b hm h4⟩
theorem SL.mono{A':Nat→Prop}(h:SL A w k a n c cs) (hA:∀b,A b→b<w.heap.size→A' b):SL A' w k a n c cs:=by
 refine⟨h.len,h.le,h.one,?_⟩
 rcases h.at_ with h1 | ⟨b,o,h1,h2,h3,h4,h5,h6⟩
 ·
  exact .inl h1
 exact .inr ⟨b,o,h1,h2,h3,hA b h4 h5,h5,h6⟩
def SR(A:Nat→Prop) (w:World) (k:Nat) (R:α→List Value→Prop) (a:Option Addr) (n c:Nat) (xs:List α):Prop:=
 n=xs.length∧∃rows:List (List Value),rows.length=xs.length∧(∀r∈rows,r.length=k)∧SL A w k a n c rows.flatten∧∀(i:Nat) x r,xs[i]?=some x→rows[i]?=some r→R x r
theorem n5:∀(rows:List (List Value)) (k i:Nat) (r:List Value),(∀r∈rows,r.length=k)→rows[i]?=some r→∀j v,r[j]?=some v→rows.flatten[i*k+j]?=some v:=by
 intro rows
 induction rows with
 | nil=>intro k i r _ h;simp at h
 | cons x xs ih=>
  intro k i r hk h j v hv;have hx:x.length=k:=hk x (by simp)
  cases i with
  | zero=>
   simp at h;subst h
   have hj:j<x.length:=(List.getElem?_eq_some_iff.1 hv).1;simp only [Nat.zero_mul,Nat.zero_add,List.flatten_cons];rw [List.getElem?_append_left hj];exact hv
  | succ i=>
   have:=ih k i r (fun r hr=>hk r (by simp [hr])) (by simpa using h) j v hv
   simp only [List.flatten_cons];rw [List.getElem?_append_right (by rw [hx,Nat.succ_mul];omega),hx,← this]
   congr 1
   rw [Nat.succ_mul];omega
theorem SR.at{R:α→List Value→Prop}{xs:List α}(h:SR A w k R a n c xs) {i:Nat}{x:α}(hi:xs[i]?=some x) :
  ∃b o r,a=some ⟨b,o,none⟩∧r.length=k∧R x r∧w.rangeAt b (o+i*k) r∧A b:=by
 obtain⟨hn,rows,hl,hk,hs,hR⟩:=h;have ed:i<xs.length:=(List.getElem?_eq_some_iff.1 hi).1;obtain⟨r,hr⟩:∃r,rows[i]?=some r:=⟨rows[i],by simp [hl,ed]⟩
 rcases hs.at_ with⟨_,h0,_⟩ | ⟨b,o,h1,_,_,h4,_,h6⟩
 ·
  omega
 exact⟨b,o,r,h1,hk r (List.mem_of_getElem? hr),hR i x r hi hr,pL h6 (i*k) r (n5 rows k i r hk hr),h4⟩
theorem SR.cX{R R':α→List Value→Prop}{xs:List α}{S:List Nat}(h:SR A w k R a n c xs) (hc:bj S w w') (hS:∀b∈S,¬A b) (hR:∀x r,R x r→R' x r):SR A w' k R' a n c xs:=by
 obtain⟨hn,rows,hl,hk,hs,hx⟩:=h;exact⟨hn,rows,hl,hk,hs.cX hc hS,fun i x r h1 h2=>hR x r (hx i x r h1 h2)⟩
theorem SR.ext{R:α→List Value→Prop}{xs:List α}(h:SR A w k R a n c xs) (hc:bj [] w w'):SR A w' k R a n c xs:=h.cX hc (by simp) fun _ _ h=>h
theorem SR.mono{R R':α→List Value→Prop}{xs:List α}{A':Nat→Prop}(h:SR A w k R a n c xs) (hA:∀b,A b→b<w.heap.size→A' b) (hR:∀x r,R x r→R' x r):SR A' w k R' a n c xs:=by
 obtain⟨hn,rows,hl,hk,hs,hx⟩:=h;exact⟨hn,rows,hl,hk,hs.mono hA,fun i x r h1 h2=>hR x r (hx i x r h1 h2)⟩
theorem SR.nil(A:Nat→Prop) (w:World) (k:Nat) (R:α→List Value→Prop):SR A w k R none 0 0 []:=⟨rfl,[],rfl,by simp,SL.nil A w k,by simp⟩
theorem SR.le{R:α→List Value→Prop}{xs:List α}(h:SR A w k R a n c xs):n≤140737488355328:=by obtain⟨_,_,_,_,h,_⟩:=h;exact h.le
theorem SR.len{R:α→List Value→Prop}{xs:List α}(h:SR A w k R a n c xs):n=xs.length:=h.1
theorem PV.fm{P:Program}{kv:KV}{T E k:Nat}{ty:TypeId}{w:World}(hT:Ck P T E k) {x y:Operand}{a:Option Addr}{b o m c i:Nat}(ha:a=some ⟨b,o,none⟩) (hx:ev kv x=some (.slice a m c)) (hy:ev kv y=some (.int .i64 (i:Int))) (hi:i<m) :
  PV P (.indexAddr T x y) ty kv w (.pointer (some ⟨b,o+i*k,none⟩)):=by
 subst ha;exact PV.ix hT hx hy hi
theorem PV.Ls{P:Program}{kv:KV}{T E k:Nat}{ty:TypeId}{w:World}(hT:Ck P T E k) {x y:Operand}{a:Option Addr}{b o m c:Nat}{z:Int}(i:Nat) (ha:a=some ⟨b,o,none⟩) (hx:ev kv x=some (.slice a m c)) (hy:ev kv y=some (.int .i64 z)) (hz:z=(i:Int)) (hi:i<m) :
  PV P (.indexAddr T x y) ty kv w (.pointer (some ⟨b,o+i*k,none⟩)):=by
 subst ha hz;exact PV.ix hT hx hy hi
/-! things of a fixed shape -/
structure Key where
 kind:Int
 text:ByteArray
 deriving DecidableEq
instance:Inhabited Key:=⟨⟨0,⟨#[]⟩⟩⟩
def Key.cells(k:Key):List Value:=[.int .i64 k.kind,.string k.text]
def Key.val(k:Key):Value:=.agg #[.int .i64 k.kind,.string k.text]
def zI(A:Nat→Prop) (w:World) (a:Option Addr) (n c:Nat) (l:List Key):Prop:=SR A w 2 (fun k r=>r=Key.cells k) a n c l
def Strs(A:Nat→Prop) (w:World) (a:Option Addr) (n c:Nat) (l:List ByteArray):Prop:=SR A w 1 (fun s r=>r=[.string s]) a n c l
structure Ask where
 cell:Bool
 pick:Bool
 n:Int
 JF:Int
 deriving DecidableEq
def Ask.cells(x:Ask):List Value:=[.bool x.cell,.bool x.pick,.int .i64 x.n,.int .i64 x.JF]
structure aJ where
 ring:Bool
 asks:List Ask
 final:Int
 c:Int
 deriving DecidableEq
def G1(A:Nat→Prop) (w:World) (x:aJ) (r:List Value):Prop:=
 ∃a n c,r=[.bool x.ring,.slice a n c,.int .i64 x.final,.int .i64 x.c]∧SR A w 4 (fun k r=>r=Ask.cells k) a n c x.asks
def iW(A:Nat→Prop) (w:World) (a:Option Addr) (n c:Nat) (l:List aJ):Prop:=SR A w 4 (G1 A w) a n c l
theorem zI.cX{S:List Nat}{l:List Key}(h:zI A w a n c l) (hc:bj S w w') (hS:∀b∈S,¬A b):zI A w' a n c l:=SR.cX h hc hS fun _ _ h=>h
theorem zI.ext{l:List Key}(h:zI A w a n c l) (hc:bj [] w w'):zI A w' a n c l:=zI.cX h hc (by simp)
theorem Strs.cX{S:List Nat}{l:List ByteArray}(h:Strs A w a n c l) (hc:bj S w w') (hS:∀b∈S,¬A b):Strs A w' a n c l:=SR.cX h hc hS fun _ _ h=>h
theorem Strs.ext{l:List ByteArray}(h:Strs A w a n c l) (hc:bj [] w w'):Strs A w' a n c l:=Strs.cX h hc (by simp)
theorem G1.cX{S:List Nat}{x:aJ}{r:List Value}(h:G1 A w x r) (hc:bj S w w') (hS:∀b∈S,¬A b):G1 A w' x r:=by
 obtain⟨a,n,c,h1,h2⟩:=h;exact⟨a,n,c,h1,h2.cX hc hS fun _ _ h=>h⟩
theorem iW.cX{S:List Nat}{l:List aJ}(h:iW A w a n c l) (hc:bj S w w') (hS:∀b∈S,¬A b):iW A w' a n c l:=SR.cX h hc hS fun _ _ h=>h.cX hc hS
theorem iW.ext{l:List aJ}(h:iW A w a n c l) (hc:bj [] w w'):iW A w' a n c l:=iW.cX h hc (by simp)
end Go.Rc

namespace Go.Rc
open Go
/-! ### literals -/
def G2:List Value→List Value→List Value
 | _::l,u::us=>u::G2 l us
 | l,[]=>l
 | [],_::_=>[]
def putAt:List Value→Nat→List Value→List Value
 | l,0,us=>G2 l us
 | [],_+1,_=>[]
 | x::l,n+1,us=>x::putAt l n us
def ju:Value→List Value
 | .agg cs=>cs.toList
 | v=>[v]
theorem sH(v:Value):v.cells.toList=ju v:=by cases v <;> rfl
def zJ(places:List (Nat × Nat)):List Value→List (Nat × Value)→List Value
 | z,[]=>z
 | z,(i,v)::r=>match places[i]? with
  | none=>z
  | some (off,_)=>zJ places (putAt z off (ju v)) r
def wJ(places:List (Nat × Nat)):Nat→List (Nat × Value)→Bool
 | _,[]=>true
 | n,(i,v)::r=>match places[i]? with
  | none=>false
  | some (off,size)=>Nat.beq (ju v).length size && Nat.ble (off+(ju v).length) n && wJ places n r
theorem OQ:∀(us l:List Value),us.length≤l.length→G2 l us=us++l.drop us.length:=by
 intro us
 induction us with
 | nil=>grind [G2]
 | cons u us ih=>
  intro l h
  cases l with
  | nil=>simp at h
  | cons x l=>grind [G2]
theorem u9:∀(n:Nat) (l us:List Value),n+us.length≤l.length→putAt l n us=l.take n++us++l.drop (n+us.length):=by
 intro n
 induction n with
 | zero=>grind [putAt,OQ]
 | succ n ih=>
  intro l us h
  cases l with
  | nil=>simp at h
  | cons x l=>grind [putAt]
theorem Dp(us:List Value):∀(i off:Nat) (cells:Array Value),off+i+us.length≤cells.size→
  ((us.zipIdx i).foldl (fun cs (p:Value × Nat)=>cs.setIfInBounds (off+p.2) p.1) cells).toList=cells.toList.take (off+i)++us++cells.toList.drop (off+i+us.length):=by
 induction us with
 | nil=>intro i off cells _;simp
 | cons u us ih=>
  intro i off cells h;simp only [List.zipIdx_cons,List.foldl_cons];rw [ih (i+1) off _ (by simp at h ⊢;omega)]
  have ed:off+i<cells.toList.length:=by simp at h ⊢;omega
  simp only [Array.toList_setIfInBounds];rw [List.take_set,List.drop_set,if_pos (by omega)];rw [show off+(i+1)=off+i+1 by omega,List.take_succ_eq_append_getElem ed]
  have:(cells.toList.take (off+i)++[cells.toList[off+i]]).set (off+i) u=cells.toList.take (off+i)++[u]:=by
   rw [List.set_append_right _ _ (by simp;omega)]
   simp [show min (off+i) cells.size=off+i by simp at ed;omega]
  grind
theorem fill_eq(places:List (Nat × Nat)):∀(parts:List (Nat × Value)) (cells:Array Value),wJ places cells.size parts=true→
  Instr.fill (fun i:Nat=>places[i]?) cells parts=some (zJ places cells.toList parts).toArray:=by
 intro parts
 induction parts with
 | nil=>intro cells _;simp [Instr.fill,zJ]
 | cons p r ih=>
  obtain⟨i,v⟩:=p;intro cells h;simp only [wJ] at h;simp only [Instr.fill,zJ]
  cases hp:places[i]? with
  | none=>rw [hp] at h;cases h
  | some q=>
   obtain⟨off,size⟩:=q;rw [hp] at h;simp only [Bool.and_eq_true] at h;obtain⟨⟨h1,h2⟩,h3⟩:=h;have e1:(ju v).length=size:=Nat.eq_of_beq_eq_true h1;have e2:off+(ju v).length≤cells.size:=Nat.le_of_ble_eq_true h2
   have hs:v.cells.size=(ju v).length:=by rw [← sH];simp
   simp only
   rw [if_neg (by simp [hs,e1];omega)]
   have abQ:(v.cells.zipIdx.foldl (fun cs (c,j)=>cs.setIfInBounds (off+j) c) cells).toList=putAt cells.toList off (ju v):=by
    rw [← Array.foldl_toList,Array.toList_zipIdx,sH]
    have:=Dp (ju v) 0 off cells (by omega)
    simp only [Nat.add_zero] at this
    grind [u9]
   grind [Array.length_toList,u9]
structure BT (P:Program) (T:TypeId) (z:List Value) (places:List (Nat × Nat)):Prop where
 zero:∃v:Value,(∀w,(zeroValue T).run P w=.ok v w)∧v.cells=z.toArray
 MD:∃fs:Array Field,P.underlying T=some (.struct fs)∧∀w,(fs.mapM fun f=>(do pure (f.offset,← sizeOf f.type):Sem (Nat × Nat))).run P w=.ok places.toArray w
section
variable {P:Program}{n:Nat}{kv:KV}{w:World}{K:KV→World→Prop}
variable {d:Tmp}{ty:TypeId}{pos:String}{af:Array Edge}{g:Option (Nat × Bool)}{T:TypeId}
def mG(kv:KV):List (Nat × Operand)→Option (List (Nat × Value))
 | []=>some []
 | (i,x)::r=>match ev kv x with
  | none=>none
  | some v=>match mG kv r with
   | none=>none
   | some vs=>some ((i,v)::vs)
theorem pO{kv:KV}:∀{ps:List (Nat × Operand)}{vs:List (Nat × Value)},mG kv ps=some vs→ps.map (fun p=>(p.1,mi kv p.2))=vs∧∀p∈ps,(ev kv p.2).isSome=true:=by
 intro ps
 induction ps with
 | nil=>grind [mG]
 | cons p r ih=>grind [mG,aK]
theorem PV.build{z:List Value}{places:List (Nat × Nat)}(hT:BT P T z places) {ps:List (Nat × Operand)}{vs:List (Nat × Value)}(hv:mG kv ps=some vs) (eO:wJ places z.length vs=true) :
  PV P (.build T ps.toArray) ty kv w (.agg (zJ places z vs).toArray):=by
 obtain⟨⟨v,hz,hzc⟩,fs,hu,hm⟩:=hT;obtain⟨h1,h2⟩:=pO hv;refine⟨rfl,by simpa [known,opers] using h2,fun _ _ _ _=>?_⟩;have hf:=fill_eq places vs z.toArray (by simpa using eO)
 have e:(ps.toArray.map fun(i,x)=>(i,mi kv x)).toList=vs:=by rw [← h1];simp
 simp only [execOp,Instr.build,Sem.run_bind,hz w,Result.andThen_ok,run_underlying hu,hm w,e]
 simp_all
structure BS (P:Program) (T E k len:Nat) (z:List Value):Prop where
 MD:P.underlying T=some (.slice E)
 size:∀w,(sizeOf E).run P w=.ok k w
 pos:len*k≠0
 small:len*k≤2 ^ 24
 zero:∃v:Value,(∀w,(zeroValue E).run P w=.ok v w)∧(Array.range (len*k)).map (v.cells[· % v.cells.size]!)=z.toArray
def OS(k:Nat):Nat→List (Nat × Value)→Bool
 | _,[]=>true
 | n,(i,v)::r=>Nat.beq (ju v).length k && Nat.ble (i*k+(ju v).length) n && OS k n r
def WM(k:Nat):List Value→List (Nat × Value)→List Value
 | z,[]=>z
 | z,(i,v)::r=>WM k (putAt z (i*k) (ju v)) r
theorem abR(k:Nat):∀(parts:List (Nat × Value)) (cells:Array Value),OS k cells.size parts=true→
  Instr.fill (fun i=>some (i*k,k)) cells parts=some (WM k cells.toList parts).toArray:=by
 intro parts
 induction parts with
 | nil=>intro cells _;simp [Instr.fill,WM]
 | cons p r ih=>
  obtain⟨i,v⟩:=p;intro cells h;simp only [OS,Bool.and_eq_true] at h;simp only [Instr.fill,WM];obtain⟨⟨h1,h2⟩,h3⟩:=h;have e1:(ju v).length=k:=Nat.eq_of_beq_eq_true h1;have e2:i*k+(ju v).length≤cells.size:=Nat.le_of_ble_eq_true h2
  have hs:v.cells.size=(ju v).length:=by rw [← sH];simp
  rw [if_neg (by simp [hs,e1];omega)]
  have abQ:(v.cells.zipIdx.foldl (fun cs (c,j)=>cs.setIfInBounds (i*k+j) c) cells).toList=putAt cells.toList (i*k) (ju v):=by
   rw [← Array.foldl_toList,Array.toList_zipIdx,sH]
   have:=Dp (ju v) 0 (i*k) cells (by omega)
   simp only [Nat.add_zero] at this
   grind [u9]
  grind [Array.length_toList,u9]
theorem OX.WN{E k len:Nat}{z:List Value}(hT:BS P T E k len z) {ps:List (Nat × Operand)}{vs:List (Nat × Value)}(hd:Nat.blt d n=true) (hv:mG kv ps=some vs) (eO:OS k z.length vs=true)
  (h:∀b w',GS w w' b→cJ w' b E (WM k z vs)→K ((d,.slice (some ⟨b,0,none⟩) len len)::kv) w'):OX P ⟨some d,.buildSlice T len ps.toArray,ty,pos,af,g⟩ n kv w K:=by
 obtain⟨v,hz,hzc⟩:=hT.zero;obtain⟨h1,h2⟩:=pO hv;refine⟨rfl,hd,by simpa [known,opers] using h2,?_⟩;have hf:=abR k vs z.toArray (by simpa using eO)
 have e:(ps.toArray.map fun(i,x)=>(i,mi kv x)).toList=vs:=by rw [← h1];simp
 have hr:(execOp (mi kv) ⟨some d,.buildSlice T len ps.toArray,ty,pos,af,g⟩).run P w=.ok (.value (.slice (some ⟨w.heap.size,0,none⟩) len len)) (w.alloc (.cells (WM k z vs).toArray E)):=by
  have hs:=hT.small;simp only [execOp,Instr.buildSlice,Sem.run_bind,run_underlying hT.MD,Result.andThen_ok,hT.size w,e];rw [if_neg (by omega),if_neg hT.pos];simp only [Sem.run_bind,hz w,Result.andThen_ok,Sem.run_pure,hzc,hf]
  rfl
 rw [hr];exact h _ _ ⟨mQ _ _,Nat.le_refl _,by simp⟩ (oZ _ _)
/-! ### bytes -/
theorem PV.Si{x y:Operand}{s:ByteArray}{i:Nat}{b:UInt8}(hT:P.underlying T=some .string) (hx:ev kv x=some (.string s)) (hy:ev kv y=some (.int .i64 (i:Int))) (hi:s[i]?=some b) :
  PV P (.index T x y) ty kv w (.int .u8 (b.toNat:Int)):=
 ⟨rfl,by simp [known,opers,hx,hy],fun _ _ _ _=>by
  simp only [execOp,aK hx,aK hy,Instr.index]
  simp [asIntOf,run_underlying hT,hi]⟩
theorem PV.abS{U:TypeId}{x y:Operand}{p q:Int}(hx:ev kv x=some (.int .u8 p)) (hy:ev kv y=some (.int .u8 q)) (h1:0≤p - q) (h2:p - q≤255) :
  PV P (.binOp .sub T x y U) ty kv w (.int .u8 (p - q)):=
 ⟨rfl,by simp [known,opers,hx,hy],fun _ _ _ _=>fC .sub (by simp) _ (by simp only [Op.intArith,IntWalk.u8_in _ ⟨h1,h2⟩];rfl) hx hy⟩
theorem PV.conv{U:TypeId}{x:Operand}{k:IntKind}{p:Int}(hT:∃de,P.underlying T=some de) (hU:P.underlying U=some (.int .i64)) (hx:ev kv x=some (.int k p)) (h1:-9223372036854775808≤p) (h2:p≤9223372036854775807) :
  PV P (.convert T U x) ty kv w (.int .i64 p):=by
 obtain⟨de,hT⟩:=hT;refine⟨rfl,by simp [known,opers,hx],fun _ _ _ _=>?_⟩;simp only [execOp,aK hx,convert,Sem.run_bind,run_underlying hT,Result.andThen_ok,run_underlying hU]
 simp [Conv.intToInt,sG h1 h2]
/-! ### keys compared -/
structure MJ (P:Program) (T:TypeId):Prop where
 eq:∀(a b:Int) (s t:ByteArray) (w:World),(Op.equalIn 10000 T (.agg #[.int .i64 a,.string s]) (.agg #[.int .i64 b,.string t])).run P w=.ok (decide (a=b) && decide (s=t)) w
 guard:P.eqGuardType P.depth T=false
theorem Sj{T0 T1:TypeId}{f0 f1:Field}(hu:P.underlying T=some (.struct #[f0,f1])) (wK:f0.type=T0) (Sk:f1.type=T1) (ho0:f0.offset=0) (ho1:f1.offset=1) (hn0:f0.name≠ "_") (hn1:f1.name≠ "_")
  (h0:P.underlying T0=some (.int .i64)) (h1:P.underlying T1=some .string) (a0:∀w,(isAgg T0).run P w=.ok false w) (a1:∀w,(isAgg T1).run P w=.ok false w)
  (hs:P.stoodInHeld T=false) (hg:P.eqGuardType P.depth T=false):MJ P T:=by
 refine⟨fun a b s t w=>?_,hg⟩;subst wK Sk
 have GF:P.fieldsOf T=#[f0,f1]:=by simp [Program.fieldsOf,hu]
 rw [show(10000:Nat)=9999+1 from rfl,run_equalIn_struct (P:=P) w 9999 T _ _ (by rw [GF];exact hu) hs,GF]
 have e:(s.toList == t.toList)=decide (s=t):=by
  by_cases e:s=t
  ·
   simp [e]
  grind [ByteArray.ext,Array.toList_inj,ByteArray.toList_eq]
 have e2:(a == b)=decide (a=b):=by by_cases h:a=b <;> simp [h]
 have r0:=run_equalIn_int (P:=P) w 9998 f0.type .i64 .i64 a b h0;have r1:=run_equalIn_string (P:=P) w 9998 f1.type s t h1;rw [e2] at r0;rw [e] at r1;rw [show(9998+1:Nat)=9999 from rfl] at r0 r1;simp only [Op.eqFields,ho0,ho1,part,Sem.run_bind,a0,a1,Result.andThen_ok]
 by_cases hab:a=b
 ·
  subst hab
  by_cases bF:s=t
  ·
   simp_all
  simp_all
 simp_all
theorem PV.G3(hT:MJ P T) {U:TypeId}{x y:Operand}{p q:Key}(hx:ev kv x=some p.val) (hy:ev kv y=some q.val) :
  PV P (.binOp .eql T x y U) ty kv w (.bool (decide (p=q))):=by
 refine⟨rfl,by simp [known,opers,hx,hy],fun _ _ _ _=>?_⟩
 have e:(decide (p.kind=q.kind) && decide (p.text=q.text))=decide (p=q):=by
  obtain⟨a,s⟩:=p;obtain⟨b,t⟩:=q;simp [Bool.decide_and]
 simp only [execOp,aK hx,aK hy,Key.val]
 simp [run_eqGuard_agg w .eql T _ _ _ _ hT.guard,run_eql_struct,hT.eq,e]
theorem PV.OT(hT:MJ P T) {U:TypeId}{x y:Operand}{p q:Key}(hx:ev kv x=some p.val) (hy:ev kv y=some q.val) :
  PV P (.binOp .neq T x y U) ty kv w (.bool (decide (p≠q))):=by
 refine⟨rfl,by simp [known,opers,hx,hy],fun _ _ _ _=>?_⟩
 have e:(decide (p.kind=q.kind) && decide (p.text=q.text))=decide (p=q):=by
  obtain⟨a,s⟩:=p;obtain⟨b,t⟩:=q;simp [Bool.decide_and]
 simp only [execOp,aK hx,aK hy,Key.val];simp only [Sem.run_bind,run_eqGuard_agg w .neq T _ _ _ _ hT.guard,run_neq_struct,hT.eq,e,Result.andThen_ok]
 by_cases h:p=q <;> simp [h]
end
end Go.Rc

namespace Go.Rc
open Go
def aL:Option Addr→List Nat
 | some a=>[a.block]
 | none=>[]
def OL(base:Nat) (w:World) (E k:Nat) (a:Option Addr) (n c:Nat) (cs:List Value):Prop:=
 (∀u∈cs,u.oneCell'=true)∧w.ownsRow base E k (.slice a n c) n cs
variable {α:Type}{A:Nat→Prop}{w w':World}{base E k n c:Nat}{a:Option Addr}{cs:List Value}
theorem OL.nil(base:Nat) (w:World) (E k:Nat):OL base w E k none 0 0 []:=⟨by simp,World.ownsRow_nil _ _ _ _⟩
theorem OL.cases(h:OL base w E k a n c cs):(a=none∧n=0∧c=0∧cs=[])∨∃g cur,a=some ⟨g,0,none⟩∧base≤g∧w.heap[g]?=some (.cells cur E (0,0))∧n≤c∧c≤maxLen∧cur.size=c*k∧cur.toList.take (n*k)=cs:=by
 rcases h.2.2 with⟨h1,h2⟩ | ⟨g,cap,cur,h1,h2⟩
 ·
  simp at h1;obtain⟨h1,h3,h4⟩:=h1
  exact .inl ⟨h1,h2,h4,List.eq_nil_of_length_eq_zero (by rw [h.2.1,h2];simp)⟩
 grind
theorem OL.lt(h:OL base w E k a n c cs):∀x∈aL a,x<w.heap.size:=by
 rcases h.cases with⟨rfl,_⟩ | ⟨g,cur,rfl,hb,hg,_⟩
 ·
  simp [aL]
 grind [aL]
theorem OL.sl(h:OL base w E k a n c cs) (hA:∀b,base≤b→A b) (hle:n≤140737488355328):SL A w k a n c cs:=by
 refine⟨h.2.1,hle,h.1,?_⟩
 rcases h.cases with⟨h1,h2,h3,_⟩ | ⟨g,cur,h1,h2,h3,h4,h5,h6,h7⟩
 ·
  exact .inl ⟨h1,h2,h3⟩
 refine .inr ⟨g,0,h1,h4,h5,hA g h2,(Array.getElem?_eq_some_iff.1 h3).1,fun j v hv=>?_⟩;rw [← h7,List.getElem?_take] at hv
 split at hv
 ·
  simp only [World.cell?,h3,Nat.zero_add];simpa using hv
 cases hv
theorem SL.blk{b e:Nat}{l:List Value}(h:cJ w b e l) (hA:A b) (m:Nat) (hl:l.length=m*k) (h1:∀u∈l,u.oneCell'=true) (hm:m≤140737488355328):SL A w k (some ⟨b,0,none⟩) m m l:=
 ⟨hl,hm,h1,.inr ⟨b,0,rfl,Nat.le_refl _,by simp [maxLen];omega,hA,h.lt,h.range⟩⟩
/-! ### append -/
structure AP (P:Program) (T E k bytes:Nat):Prop where
 MD:P.underlying T=some (.slice E)
 info:∃i z,P.info? E=some i∧i.zero=some z∧i.size=k∧i.bytes=bytes∧z.cells.size=k
 pos:0<k
theorem Ez{P:Program}{T bytes:Nat}(hT:AP P T E k bytes) {ty:TypeId}{xs news:List Value}(nc:OL base w E k a n c xs) {a2:Option Addr}{m c2:Nat}{A:Nat→Prop}(hx:SL A w k a2 m c2 news)
  (mq:(n+m)*bytes≤140737488355328) (JG:n+m≤140737488355328) (xM:base≤w.heap.size) :
  ∃a' c' w',(Builtin.append_ #[T,T] ty #[.slice a n c,.slice a2 m c2]).run P w=.ok (.slice a' (n+m) c') w'∧OL base w' E k a' (n+m) c' (xs++news)∧bj (aL a) w w'∧(∀x∈aL a',x∈aL a∨w.heap.size≤x)∧
   (a'=none→a=none∧m=0)∧(m=0→a'=a)∧(bj [] w w'∨(n+m≤c∧∃g,∃cur tW:Array Value,a=some ⟨g,0,none⟩∧w.heap[g]?=some (.cells cur E (0,0))∧w'.heap[g]?=some (.cells tW E (0,0))∧tW.size=cur.size∧cur.size=c*k∧tW.toList.take (n*k)=cur.toList.take (n*k))):=by
 obtain⟨i,z,hi,hz,rfl,rfl,hzs⟩:=hT.info;have hsz:=hT.pos
 have h1:∀u∈xs++news,u.oneCell'=true:=fun u hu=>by
  rcases List.mem_append.1 hu with h | h
  ·
   exact nc.1 u h
  exact hx.one u h
 rcases hx.at_ with⟨rfl,rfl,rfl⟩ | ⟨b2,o2,rfl,hmc,aqx,_,eZ,zd⟩
 ·
  have hn:news=[]:=List.eq_nil_of_length_eq_zero (by rw [hx.len];simp);subst hn;refine⟨a,c,w,run_append_owned_none (P:=P) w base T ty E i i.size hT.MD hi _ n xs nc.2,by simpa using nc,bj.refl _ _,fun x h=>.inl h,fun h=>⟨h,rfl⟩,fun _=>rfl,.inl (bj.refl _ _)⟩
 have UR:∀j u,news[j]?=some u→w.cell? ((⟨b2,o2,none⟩:Addr).add j)=some u:=fun j u hu=>by rw [Addr.zB];exact zd j u hu
 have hl:=hx.len
 have hlen:(xs++news).length=(n+m)*i.size:=by rw [List.length_append,nc.2.1,hl,Nat.add_mul]
 have h1n:=hx.one;have grown:∀(wF:Nat),wF<n+m→
   OL base (w.drew.alloc (.cells (xs.toArray++news.toArray++Builtin.zeroCells z.cells (grownCap w (n+m) wF E - (n+m))) E)) E i.size
    (some ⟨w.heap.size,0,none⟩) (n+m) (grownCap w (n+m) wF E) (xs++news)∧
   ∀S,bj S w (w.drew.alloc (.cells (xs.toArray++news.toArray++Builtin.zeroCells z.cells (grownCap w (n+m) wF E - (n+m))) E)):=by
  intro wF ho;have rp:=grownCap_ge w (n+m) wF E;have WQ:grownCap w (n+m) wF E≤maxLen:=grownCap_le_maxLen w (n+m) wF E (by simp [maxLen];omega);refine⟨⟨h1,hlen,.inr ⟨w.heap.size,_,_,rfl,xM,heap_alloc_new w.drew _,rp,WQ,?_,?_⟩⟩,fun S=>⟨rfl,rfl,rfl,by simp,Nat.le_succ _,fun k hk _=>heap_alloc_old w.drew _ (h:=hk)⟩⟩
  ·
   simp only [Array.size_append,List.size_toArray,size_zeroCells,hzs,nc.2.1,hl,← Nat.add_mul]
   congr 1
   omega
  grind
 rcases nc.cases with⟨rfl,rfl,rfl,rfl⟩ | ⟨g,cur,rfl,WR,hg,hnc,WQ,US,aof⟩
 ·
  by_cases hm:m=0
  ·
   subst hm;have hn:news=[]:=List.eq_nil_of_length_eq_zero (by simpa using hl);subst hn;refine⟨none,0,w,?_,OL.nil base w E i.size,bj.refl _ _,by simp [aL],by simp,fun _=>rfl,.inl (bj.refl _ _)⟩
   simp [Builtin.append_,run_underlying hT.MD,sizeOf,typeInfo,hi,Builtin.lenOf,Builtin.firstCells,loadCells,loadCellsFrom]
  have hr:=run_append_nil (P:=P) w T ty E i z hT.MD hi hz ⟨b2,o2,none⟩ m c2 news hl UR (by omega) (by omega) (by grind);have EB:=grown 0 (by omega);simp only [Nat.zero_add,List.nil_append,Array.empty_append] at EB ⊢
  grind [aL]
 by_cases zK:n+m≤c
 ·
  have aii:n*i.size+news.length≤cur.size:=by rw [hl,US,← Nat.add_mul];exact Nat.mul_le_mul_right _ zK
  have hr:=run_append_room (P:=P) w T ty E i hT.MD hi g n c cur hg ⟨b2,o2,none⟩ m c2 news hl UR h1n zK aii;refine⟨_,_,_,hr,⟨h1,hlen,.inr ⟨g,c,_,rfl,WR,setRow_heap w g cur _ E _ hg,zK,WQ,?_,?_⟩⟩,mX w g _,fun x hx=>.inl hx,by simp,fun _=>rfl,.inr ⟨zK,g,cur,_,rfl,hg,setRow_heap w g cur _ E _ hg,?_,US,?_⟩⟩
  ·
   grind
  ·
   grind
  ·
   grind
  grind
 have holds:∀j u,xs[j]?=some u→w.cell? ((⟨g,0,none⟩:Addr).add j)=some u:=nc.2.cells (g:=g) rfl
 grind [run_append_grow,AP.MD,growslice_fits,aL]
def OR(base:Nat) (w:World) (E k:Nat) (R:α→List Value→Prop) (a:Option Addr) (n c:Nat) (xs:List α):Prop:=
 n=xs.length∧∃rows:List (List Value),rows.length=xs.length∧(∀r∈rows,r.length=k)∧OL base w E k a n c rows.flatten∧∀(i:Nat) x r,xs[i]?=some x→rows[i]?=some r→R x r
variable {R R':α→List Value→Prop}{xs ys:List α}
theorem OR.nil(base:Nat) (w:World) (E k:Nat) (R:α→List Value→Prop):OR base w E k R none 0 0 []:=⟨rfl,[],rfl,by simp,OL.nil _ _ _ _,by simp⟩
theorem OR.lt(h:OR base w E k R a n c xs):∀x∈aL a,x<w.heap.size:=by obtain⟨_,_,_,_,h,_⟩:=h;exact h.lt
theorem OR.len(h:OR base w E k R a n c xs):n=xs.length:=h.1
theorem SR.eP{b e:Nat}{l:List Value}{x:α}(h:cJ w b e l) (hA:A b) (hl:l.length=k) (h1:∀u∈l,u.oneCell'=true) (hR:R x l):SR A w k R (some ⟨b,0,none⟩) 1 1 [x]:=
 ⟨rfl,[l],rfl,by simpa using hl,by grind [SL.blk],fun i y r h1 h2=>by grind⟩
section
variable {P:Program}{N:Nat}{kv:KV}{K:KV→World→Prop}
variable {d:Tmp}{ty:TypeId}{pos:String}{af:Array Edge}{g:Option (Nat × Bool)}{T bytes:Nat}
theorem OX.app(hT:AP P T E k bytes) {s x:Operand}{xs news:List Value}{a2:Option Addr}{m c2:Nat}(hd:Nat.blt d N=true) (hs:ev kv s=some (.slice a n c)) (hx:ev kv x=some (.slice a2 m c2))
  (nc:OL base w E k a n c xs) (EC:SL A w k a2 m c2 news) (mq:(n+m)*bytes≤140737488355328) (JG:n+m≤140737488355328) (xM:base≤w.heap.size)
  (h:∀a' c' w',OL base w' E k a' (n+m) c' (xs++news)→bj (aL a) w w'→(∀x∈aL a',x∈aL a∨w.heap.size≤x)→(a'=none→a=none∧m=0)→K ((d,.slice a' (n+m) c')::kv) w') :
  OX P ⟨some d,.call {callee:=.builtin .append,args:=#[s,x],argTypes:=#[T,T]},ty,pos,af,g⟩ N kv w K:=by
 refine⟨rfl,hd,by simp [known,opers,hs,hx],?_⟩;obtain⟨a',c',w',hr,h1,h2,h3,h4,_⟩:=Ez hT (ty:=ty) nc EC mq JG xM
 have jz:(execOp (mi kv) ⟨some d,.call {callee:=.builtin .append,args:=#[s,x],argTypes:=#[T,T]},ty,pos,af,g⟩).run P w=.ok (.value (.slice a' (n+m) c')) w':=by grind [execOp,resolve,invoke,builtin,Sem.run_bind,Sem.run_pure,Result.andThen_ok,aK]
 rw [jz];exact h _ _ _ h1 h2 h3 h4
theorem OX.pa(hT:AP P T E k bytes) {s x:Operand}{a2:Option Addr}{m c2:Nat}(hd:Nat.blt d N=true) (hs:ev kv s=some (.slice a n c)) (hx:ev kv x=some (.slice a2 m c2))
  (nc:OR base w E k R a n c xs) (EC:SR A w k R a2 m c2 ys) (mq:(n+m)*bytes≤140737488355328) (JG:n+m≤140737488355328) (xM:base≤w.heap.size)
  (h:∀a' c' w',OR base w' E k R a' (n+m) c' (xs++ys)→bj (aL a) w w'→(∀x∈aL a',x∈aL a∨w.heap.size≤x)→(a'=none→a=none∧m=0)→K ((d,.slice a' (n+m) c')::kv) w') :
  OX P ⟨some d,.call {callee:=.builtin .append,args:=#[s,x],argTypes:=#[T,T]},ty,pos,af,g⟩ N kv w K:=by
 obtain⟨hn,rows,hl,hk,mR,hx1⟩:=nc;obtain⟨Dq,G4,pP,nQ,td,tv⟩:=EC
 refine OX.app hT hd hs hx mR td mq JG xM fun a' c' w' h1 h2 h3 h4=>h a' c' w' ⟨by simp [hn,Dq],rows++G4,by simp [hl,pP],?_,by simpa using h1,?_⟩ h2 h3 h4
 ·
  grind
 grind
end
end Go.Rc

namespace Go.Rc
open Go
section
variable {κ:Type} [DecidableEq κ]
def ck:List (κ × Value)→κ→Option Value
 | [],_=>none
 | (k',v)::r,k=>if k'=k then some v else ck r k
def dH:List (κ × Value)→κ→Value→List (κ × Value)
 | [],k,v=>[(k,v)]
 | (k',v')::r,k,v=>if k'=k then (k',v)::r else (k',v')::dH r k v
def kP:List (κ × Value)→κ→List (κ × Value)
 | [],_=>[]
 | (k',v')::r,k=>if k'=k then r else (k',v')::kP r k
def tX:List (κ × Value)→κ→Nat→Option (Nat × Value)
 | [],_,_=>none
 | (k',v)::r,k,i=>if k'=k then some (i,v) else tX r k (i+1)
theorem eQ(l:List (κ × Value)) (k k':κ) (v:Value):ck (dH l k v) k'=if k=k' then some v else ck l k':=by
 induction l with
 | nil=>simp [dH,ck]
 | cons p r ih=>
  obtain⟨k0,v0⟩:=p;simp only [dH]
  by_cases h:k0=k
  ·
   subst h;simp only [if_true,ck];grind
  rw [if_neg h];simp only [ck,ih]
  grind
theorem Dr{l:List (κ × Value)}{k:κ}:ck l k=none↔k∉l.map (·.1):=by
 induction l with
 | nil=>simp [ck]
 | cons p r ih=>
  obtain⟨k0,v0⟩:=p;simp only [ck,List.map_cons,List.mem_cons,not_or]
  grind
theorem G5{l:List (κ × Value)}(hn:(l.map (·.1)).Nodup) {k:κ}{v:Value}:ck l k=some v↔(k,v)∈l:=by
 induction l with
 | nil=>simp [ck]
 | cons p r ih=>
  obtain⟨k0,v0⟩:=p;simp only [List.map_cons,List.nodup_cons] at hn;simp only [ck,List.mem_cons,Prod.mk.injEq]
  grind
theorem Ds(l:List (κ × Value)) (k:κ) (v:Value):(dH l k v).map (·.1)=if k∈l.map (·.1) then l.map (·.1) else l.map (·.1)++[k]:=by
 induction l with
 | nil=>simp [dH]
 | cons p r ih=>
  obtain⟨k0,v0⟩:=p;simp only [dH]
  grind
theorem iK{l:List (κ × Value)}(hn:(l.map (·.1)).Nodup) (k:κ) (v:Value):((dH l k v).map (·.1)).Nodup:=by grind [Ds]
theorem mS:∀{l:List (κ × Value)}{k:κ}{i:Nat},tX l k i=none→ck l k=none∧∀v,dH l k v=l++[(k,v)]:=by
 intro l
 induction l with
 | nil=>intro k i _;simp [ck,dH]
 | cons p r ih=>
  obtain⟨k0,v0⟩:=p;intro k i h;simp only [tX] at h
  by_cases e:k0=k
  ·
   rw [if_pos e] at h;cases h
  rw [if_neg e] at h
  grind [ck,dH]
theorem lE:∀{l:List (κ × Value)}{k:κ}{i j:Nat}{v:Value},tX l k i=some (j,v)→∃m,j=i+m∧l[m]?=some (k,v)∧ck l k=some v∧(∀u,dH l k u=l.set m (k,u))∧kP l k=l.eraseIdx m:=by
 intro l
 induction l with
 | nil=>intro k i j v h;cases h
 | cons p r ih=>
  obtain⟨k0,v0⟩:=p;intro k i j v h;simp only [tX] at h
  by_cases e:k0=k
  ·
   subst e;rw [if_pos rfl] at h
   simp at h
   obtain⟨rfl,rfl⟩:=h;exact⟨0,rfl,rfl,by simp [ck],by simp [dH],by simp [kP]⟩
  rw [if_neg e] at h;obtain⟨m,h1,h2,h3,h4,h5⟩:=ih h;exact⟨m+1,by omega,by simpa using h2,by simp [ck,e,h3],fun u=>by simp [dH,e,h4 u],by simp [kP,e,h5]⟩
theorem MK{l:List (κ × Value)}{k:κ}(h:ck l k=none):kP l k=l:=by
 induction l with
 | nil=>rfl
 | cons p r ih=>
  obtain⟨k0,v0⟩:=p;simp only [ck] at h
  by_cases e:k0=k
  ·
   rw [if_pos e] at h;cases h
  rw [if_neg e] at h;simp [kP,e,ih h]
theorem G6{l:List (κ × Value)}(hn:(l.map (·.1)).Nodup) (k k':κ):ck (kP l k) k'=if k=k' then none else ck l k':=by
 induction l with
 | nil=>simp [kP,ck]
 | cons p r ih=>
  obtain⟨k0,v0⟩:=p;simp only [List.map_cons,List.nodup_cons] at hn;simp only [kP]
  by_cases h:k0=k
  ·
   subst h;rw [if_pos rfl]
   by_cases h2:k0=k'
   ·
    subst h2;rw [if_pos rfl];exact Dr.2 hn.1
   simp [ck,h2]
  rw [if_neg h];simp only [ck,ih hn.2]
  grind
theorem OU(l:List (κ × Value)) (k:κ):(kP l k).Sublist l:=by
 induction l with
 | nil=>simp [kP]
 | cons p r ih=>grind [kP]
end
structure KK (P:Program) (kt:TypeId) {κ:Type} [DecidableEq κ] (enc:κ→Value):Prop where
 check:∀em k w,(Instr.checkKey em 10000 kt (enc k)).run P w=.ok () w
 find:∀(l:List (κ × Value)) (es:List MapEntry) k w,es.map (fun e=>(e.key,e.val))=l.map (fun p=>(enc p.1,p.2))→(Instr.findKey kt (enc k) es).run P w=.ok (tX l k 0) w
 same:∀k,Instr.sameBits 10000 (enc k) (enc k)=true
 inj:∀k k',enc k=enc k'→k=k'
def KM{κ:Type}(enc:κ→Value) (w:World) (b:Nat) (l:List (κ × Value)):Prop:=
 ∃es clock,w.heap[b]?=some (.map es clock)∧es.toList.map (fun e=>(e.key,e.val))=l.map (fun p=>(enc p.1,p.2))∧(l.map (·.1)).Nodup∧(∀e∈es.toList,e.born<clock)∧(es.toList.map (·.born)).Nodup
section
variable {κ:Type} [DecidableEq κ] {enc:κ→Value}{P:Program}{kt:TypeId}{w w':World}{b:Nat}{l:List (κ × Value)}
omit [DecidableEq κ] in
theorem KM.lt(h:KM enc w b l):b<w.heap.size:=by obtain⟨es,c,h,_⟩:=h;grind
omit [DecidableEq κ] in
theorem KM.cX{S:List Nat}(h:KM enc w b l) (c:bj S w w') (hS:b∉S):KM enc w' b l:=by
 obtain⟨es,cl,h,r⟩:=h;exact⟨es,cl,c.get h hS,r⟩
omit [DecidableEq κ] in
theorem KM.ext(h:KM enc w b l) (c:bj [] w w'):KM enc w' b l:=h.cX c (by simp)
omit [DecidableEq κ] in
theorem KM.nodup(h:KM enc w b l):(l.map (·.1)).Nodup:=by obtain⟨_,_,_,_,h,_⟩:=h;exact h
theorem kQ(w:World) (b:Nat) (o:Obj):bj [b] w {w with heap:=w.heap.setIfInBounds b o}:=
 ⟨rfl,rfl,rfl,by simp,Nat.le_refl _,fun k _ hk=>by grind⟩
variable {n:Nat}{kv:KV}{K:KV→World→Prop}
variable {d:Tmp}{ty:TypeId}{pos:String}{af:Array Edge}{g:Option (Nat × Bool)}{T e:TypeId}
omit [DecidableEq κ] in
theorem OX.makeMap(enc:κ→Value) (hd:Nat.blt d n=true) (h:∀b w',GS w w' b→KM enc w' b []→K ((d,.map (some b))::kv) w'):OX P ⟨some d,.makeMap T none,ty,pos,af,g⟩ n kv w K:=by
 refine⟨rfl,hd,by simp [known,opers],?_⟩
 have hr:(execOp (mi kv) ⟨some d,.makeMap T none,ty,pos,af,g⟩).run P w=.ok (.value (.map (some w.heap.size))) (w.alloc (.map #[] 0)):=by
  simp only [execOp,Instr.makeMap,Option.map_none];rfl
 rw [hr];exact h _ _ ⟨mQ _ _,Nat.le_refl _,by simp⟩ ⟨#[],0,oZ _ _,by simp⟩
theorem G7(hK:KK P kt enc) (hT:P.underlying T=some (.map kt e)) {z:Value}(hz:∀w,(zeroValue e).run P w=.ok z w) (hb:KM enc w b l) (k:κ) (ok:Bool) :
  (Instr.lookup T (.map (some b)) (enc k) ok).run P w=.ok (if ok then .tuple #[(ck l k).getD z,.bool (ck l k).isSome] else (ck l k).getD z) w:=by
 obtain⟨es,clock,hm,he,_⟩:=hb;simp only [Instr.lookup,Sem.run_bind,run_underlying hT,Result.andThen_ok,MapKept.run_getObj_map hm,Sem.run_pure,hK.check,hK.find l es.toList k w he]
 cases hx:tX l k 0 with
 | none=>
  have:=(mS hx).1
  simp only [this]
  simp [hz w]
 | some p=>
  obtain⟨j,v⟩:=p;obtain⟨m,_,_,h3,_⟩:=lE hx;simp only [h3]
  simp
theorem PV.look(hK:KK P kt enc) (hT:P.underlying T=some (.map kt e)) {z:Value}(hz:∀w,(zeroValue e).run P w=.ok z w) (hb:KM enc w b l) {x y:Operand}{k:κ}(hx:ev kv x=some (.map (some b))) (hy:ev kv y=some (enc k)) :
  PV P (.lookup T x y false) ty kv w ((ck l k).getD z):=
 ⟨rfl,by simp [known,opers,hx,hy],fun _ _ _ _=>by simp only [execOp,aK hx,aK hy,Sem.run_bind,G7 hK hT hz hb k false,Result.andThen_ok];rfl⟩
theorem PV.wL(hK:KK P kt enc) (hT:P.underlying T=some (.map kt e)) {z:Value}(hz:∀w,(zeroValue e).run P w=.ok z w) (hb:KM enc w b l) {x y:Operand}{k:κ}(hx:ev kv x=some (.map (some b))) (hy:ev kv y=some (enc k)) :
  PV P (.lookup T x y true) ty kv w (.tuple #[(ck l k).getD z,.bool (ck l k).isSome]):=
 ⟨rfl,by simp [known,opers,hx,hy],fun _ _ _ _=>by simp only [execOp,aK hx,aK hy,Sem.run_bind,G7 hK hT hz hb k true,Result.andThen_ok];rfl⟩
omit [DecidableEq κ] in
theorem mr{u:Value}(es:Array MapEntry) (m:Nat) (k:κ) (v:Value) (f:MapEntry→MapEntry) (hf:∀e,(f e).key=enc k∧(f e).val=u∧(f e).born=e.born)
  (he:es.toList.map (fun e=>(e.key,e.val))=l.map (fun p=>(enc p.1,p.2))) (hm:l[m]?=some (k,v)) :
  (es.modify m f).toList.map (fun e=>(e.key,e.val))=(l.set m (k,u)).map (fun p=>(enc p.1,p.2))∧(es.modify m f).toList.map (·.born)=es.toList.map (·.born):=by
 have hlen:es.toList.length=l.length:=by simpa using congrArg List.length he
 have jT:m<l.length:=(List.getElem?_eq_some_iff.1 hm).1
 constructor
 ·
  apply List.ext_getElem?
  intro i;have hi:=congrArg (fun x=>x[i]?) he
  grind
 apply List.ext_getElem?
 grind
theorem Lt(hK:KK P kt enc) (hT:P.underlying T=some (.map kt e)) (hb:KM enc w b l) (k:κ) (v:Value) :
  ∃w',(Instr.mapUpdate T (.map (some b)) (enc k) v).run P w=.ok () w'∧bj [b] w w'∧KM enc w' b (dH l k v):=by
 obtain⟨es,clock,hm,he,hn,hbo,G8⟩:=hb;have ze:b<w.heap.size:=(Array.getElem?_eq_some_iff.1 hm).1
 cases hx:tX l k 0 with
 | none=>
  obtain⟨h1,h2⟩:=mS hx;refine⟨_,?_,kQ w b (.map (es.push {key:=enc k,val:=v,born:=clock}) (clock+1)),?_⟩
  ·
   simp only [Instr.mapUpdate,Sem.run_bind,run_underlying hT,Result.andThen_ok,MapKept.run_getObj_map hm,hK.check,hK.find l es.toList k w he,hx,MapKept.run_setObj_map _ hm]
  refine⟨_,_,by first | (simp [ze];done) | (simp [ze];exact⟨rfl,rfl⟩),?_,iK hn k v,?_,?_⟩
  ·
   rw [h2];simp [he]
  ·
   grind
  grind
 | some p=>
  obtain⟨j,v0⟩:=p;obtain⟨m,h1,h2,h3,h4,_⟩:=lE hx
  have qz:j=m:=by omega
  subst qz
  have ED:(((es[j]?).map (·.key)).getD (enc k))=enc k:=by
   have:=congrArg (fun x=>x[j]?) he
   grind
  refine⟨_,?_,kQ w b (.map (es.modify j fun e=>{e with key:=enc k,val:=v}) clock),?_⟩
  ·
   simp only [Instr.mapUpdate,Sem.run_bind,run_underlying hT,Result.andThen_ok,MapKept.run_getObj_map hm,hK.check,hK.find l es.toList k w he,hx,Instr.keyThatStays,ED,hK.same,if_true,Sem.run_pure,MapKept.run_setObj_map _ hm]
  obtain⟨h5,h6⟩:=mr (u:=v) es j k v0 (fun e=>{e with key:=enc k,val:=v}) (fun e=>⟨rfl,rfl,rfl⟩) he h2;refine⟨_,_,by first | (simp [ze];done) | (simp [ze];exact⟨rfl,rfl⟩),by rw [h4];exact h5,iK hn k v,?_,by rw [h6];exact G8⟩;intro x hx
  have:x.born∈(es.modify j fun e=>{e with key:=enc k,val:=v}).toList.map (·.born):=List.mem_map.2 ⟨x,hx,rfl⟩
  grind
theorem OX.put(hK:KK P kt enc) (hT:P.underlying T=some (.map kt e)) (hb:KM enc w b l) {x y u:Operand}{k:κ}{v:Value}(hx:ev kv x=some (.map (some b))) (hy:ev kv y=some (enc k)) (hu:ev kv u=some v)
  (h:∀w',bj [b] w w'→KM enc w' b (dH l k v)→K kv w'):OX P ⟨none,.mapUpdate T x y u,ty,pos,af,g⟩ n kv w K:=by
 obtain⟨w',hr,h1,h2⟩:=Lt hK hT hb k v;refine⟨rfl,rfl,by simp [known,opers,hx,hy,hu],?_⟩
 have jz:(execOp (mi kv) ⟨none,.mapUpdate T x y u,ty,pos,af,g⟩).run P w=.ok .skip w':=by
  simp only [execOp,aK hx,aK hy,aK hu,Sem.run_bind,hr,Result.andThen_ok];rfl
 rw [jz];exact h _ h1 h2
theorem OX.ins(hK:KK P kt enc) (hT:P.underlying T=some (.map kt e)) (hb:KM enc w b l) {x y u:Operand}{k:κ}{v:Value}(hx:ev kv x=some (.map (some b))) (hy:ev kv y=some (enc k)) (hu:ev kv u=some v)
  (h:∀w',bj [b] w w'→KM enc w' b (dH l k v)→K kv w'):OX P ⟨none,.insert T x y u,ty,pos,af,g⟩ n kv w K:=by
 obtain⟨w',hr,h1,h2⟩:=Lt hK hT hb k v;refine⟨rfl,rfl,by simp [known,opers,hx,hy,hu],?_⟩
 have jz:(execOp (mi kv) ⟨none,.insert T x y u,ty,pos,af,g⟩).run P w=.ok .skip w':=by
  simp only [execOp,aK hx,aK hy,aK hu,Sem.run_bind,hr,Result.andThen_ok];rfl
 rw [jz];exact h _ h1 h2
theorem Sl(hK:KK P kt enc) (hT:P.underlying T=some (.map kt e)) (hb:KM enc w b l) (k:κ) (T2:TypeId) :
  ∃w',(Builtin.delete_ #[T,T2] ty #[.map (some b),enc k]).run P w=.ok (.tuple #[]) w'∧bj [b] w w'∧KM enc w' b (kP l k):=by
 obtain⟨es,clock,hm,he,hn,hbo,G8⟩:=hb;have ze:b<w.heap.size:=(Array.getElem?_eq_some_iff.1 hm).1
 cases hx:tX l k 0 with
 | none=>
  obtain⟨h1,h2⟩:=mS hx;refine⟨_,?_,kQ w b (.map es clock),?_⟩
  ·
   simp [Builtin.delete_,run_underlying hT,MapKept.run_getObj_map hm,hK.check,hK.find l es.toList k w he,hx,MapKept.run_setObj_map _ hm]
  rw [MK h1];exact⟨_,_,by grind,he,hn,hbo,G8⟩
 | some p=>
  obtain⟨j,v0⟩:=p;obtain⟨m,h1,h2,h3,_,h4⟩:=lE hx
  have qz:j=m:=by omega
  subst qz;refine⟨_,?_,kQ w b (.map (es.eraseIdxIfInBounds j) clock),?_⟩
  ·
   simp [Builtin.delete_,run_underlying hT,MapKept.run_getObj_map hm,hK.check,hK.find l es.toList k w he,hx,MapKept.run_setObj_map _ hm]
  have JA:(es.eraseIdxIfInBounds j).toList=es.toList.eraseIdx j:=by
   by_cases h:j<es.size
   ·
    simp [Array.eraseIdxIfInBounds,h]
   grind [List.eraseIdx_of_length_le]
  refine⟨_,_,by first | (simp [ze];done) | (simp [ze];exact⟨rfl,rfl⟩),?_,?_,?_,?_⟩
  ·
   rw [JA,h4]
   have e1:∀{α β:Type}(f:α→β) (L:List α) (i:Nat),(L.eraseIdx i).map f=(L.map f).eraseIdx i:=fun f L=>by
    induction L with
    | nil=>intro i;rfl
    | cons x r ih=>intro i;cases i <;> simp [ih]
   rw [e1,e1,he]
  ·
   grind
  ·
   grind
  grind
theorem OX.del(hK:KK P kt enc) (hT:P.underlying T=some (.map kt e)) (hb:KM enc w b l) {x y:Operand}{k:κ}{T2:TypeId}(hx:ev kv x=some (.map (some b))) (hy:ev kv y=some (enc k))
  (h:∀w',bj [b] w w'→KM enc w' b (kP l k)→K kv w'):OX P ⟨none,.call {callee:=.builtin .delete,args:=#[x,y],argTypes:=#[T,T2]},ty,pos,af,g⟩ n kv w K:=by
 obtain⟨w',hr,h1,h2⟩:=Sl (ty:=ty) hK hT hb k T2;refine⟨rfl,rfl,by simp [known,opers,hx,hy],?_⟩
 have jz:(execOp (mi kv) ⟨none,.call {callee:=.builtin .delete,args:=#[x,y],argTypes:=#[T,T2]},ty,pos,af,g⟩).run P w=.ok (.value (.tuple #[])) w':=by grind [execOp,resolve,invoke,builtin,Sem.run_bind,Sem.run_pure,Result.andThen_ok,aK]
 rw [jz];exact h _ h1 h2
end
/-! ### keys of whole numbers, and of structs of an int and a string -/
theorem WS{P:Program}{kt:TypeId}{f0 f1:Field}(hu:P.underlying kt=some (.struct #[f0,f1])) (hK:MJ P kt) (ru:∀em (k:Key) w,(Instr.checkKey em 10000 kt k.val).run P w=.ok () w):KK P kt Key.val where
 check:=ru
 same k:=by
  have:∀n,Instr.sameBits (n+1) k.val k.val=true:=fun n=>by simp [Key.val,Instr.sameBits,MapKept.bytes_beq]
  exact this 9999
 inj k k' h:=by cases k;cases k';simpa [Key.val] using h
 find l es k w he:=by
  have Sm:∀(es:List MapEntry),es≠[]→(∃a,Instr.findNow (.struct #[f0,f1]) k.val es 0=a∧a=none):=by
   intro es kh
   cases es with
   | nil=>exact absurd rfl kh
   | cons x xs=>exact⟨_,rfl,by simp [Instr.findNow,Instr.sameNow]⟩
  have key:∀(l:List (Key × Value)) (es:List MapEntry) (i:Nat),es.map (fun e=>(e.key,e.val))=l.map (fun p=>(p.1.val,p.2))→(Instr.findAsking kt k.val es i).run P w=.ok (tX l k i) w:=by
   intro l
   induction l with
   | nil=>
    intro es i he
    have:es=[]:=by simpa using he
    subst this;rfl
   | cons p r ih=>
    intro es i he
    cases es with
    | nil=>simp at he
    | cons x xs=>
     simp at he
     obtain⟨⟨h1,h2⟩,h3⟩:=he
     have heq:(Op.equal kt k.val x.key).run P w=.ok (decide (k=p.1)) w:=by
      rw [h1]
      have:=hK.eq k.kind p.1.kind k.text p.1.text w
      simp only [Key.val]
      have e:(decide (k.kind=p.1.kind) && decide (k.text=p.1.text))=decide (k=p.1):=by
       obtain⟨a,s⟩:=k;obtain⟨q,_⟩:=p;obtain⟨b,t⟩:=q;simp [Bool.decide_and]
      rw [e] at this;exact this
     simp only [Instr.findAsking,Sem.run_bind,heq,Result.andThen_ok,tX]
     by_cases e:k=p.1
     ·
      simp [e,h2]
     grind
  simp only [Instr.findKey,Sem.run_bind,run_underlying hu,Result.andThen_ok]
  cases es with
  | nil=>
   have:l=[]:=by simpa using he.symm
   subst this;rfl
  | cons x xs=>
   obtain⟨a,h1,h2⟩:=Sm (x::xs) (by simp)
   grind
end Go.Rc

namespace Go.Rc
open Go
section
variable {α:Type}{A:Nat→Prop}{w w':World}{k n c:Nat}{a:Option Addr}{cs:List Value}{R:α→List Value→Prop}{xs:List α}
variable {P:Program}{N:Nat}{kv:KV}{K:KV→World→Prop}
variable {d:Tmp}{ty:TypeId}{pos:String}{af:Array Edge}{g:Option (Nat × Bool)}{T E:TypeId}
def kR(a:Option Addr) (i k c:Nat):Option Addr:=if c=i then a else a.map fun x=>⟨x.block,x.off+i*k,x.spot⟩
theorem OV{i k c:Nat}(hs:∀x,a=some x→x.spot=none):(if c=i then a else a.map fun x=>x.add (i*k))=kR a i k c:=by
 unfold kR
 cases a with
 | none=>rfl
 | some x=>
  obtain⟨b,o,s⟩:=x
  have:=hs _ rfl
  grind [Addr.zB]
theorem SL.spot(h:SL A w k a n c cs):∀x,a=some x→x.spot=none:=by grind [at_]
theorem SL.aij(h:SL A w k a n c cs):n≤c:=by grind [at_]
theorem zL(hT:Ck P T E k) {i:Nat}(hi:i≤c) (hs:∀x,a=some x→x.spot=none):(Instr.sliceAt T (.slice a n c) none (some (.int .i64 (i:Int))) none).run P w=.ok (.slice a i c) w:=by
 have e:(if c=0 then a else a.map fun x=>x.add (0*k))=a:=by
  cases a with
  | none=>simp
  | some x=>obtain⟨b,o,s⟩:=x;have:=hs _ rfl;grind [Addr.zB]
 simp only [Instr.sliceAt,Instr.slice,Sem.run_bind,run_underlying hT.MD,Result.andThen_ok,Instr.sliceBounds,Sem.run_pure];rw [run_sliceBound (P:=P) _ _ _ _ _ (by omega) (by omega)];simp only [Result.andThen_ok,Int.toNat_natCast,Nat.sub_zero,hT.size w];rw [e]
theorem JH(hT:Ck P T E k) {i:Nat}(hi:i≤n) (hs:∀x,a=some x→x.spot=none):(Instr.sliceAt T (.slice a n c) (some (.int .i64 (i:Int))) none none).run P w=.ok (.slice (kR a i k c) (n - i) (c - i)) w:=by
 simp only [Instr.sliceAt,Instr.slice,Sem.run_bind,run_underlying hT.MD,Result.andThen_ok,Instr.sliceBounds,Sem.run_pure,Option.isSome_none,Bool.false_eq_true,if_false];rw [run_sliceBound (P:=P) _ _ _ _ _ (by omega) (by omega)];simp only [Result.andThen_ok,Int.toNat_natCast,hT.size w];rw [← OV hs]
theorem PV.zM(hT:Ck P T E k) {x y:Operand}{i:Nat}(h:SR A w k R a n c xs) (hx:ev kv x=some (.slice a n c)) (hy:ev kv y=some (.int .i64 (i:Int))) (hi:i≤n):PV P (.slice T x none (some y) none) ty kv w (.slice a i c):=by
 obtain⟨_,rows,_,_,hs,_⟩:=h;refine⟨rfl,by simp [known,opers,hx,hy],fun _ _ _ _=>?_⟩
 have:=hs.aij
 simp only [execOp,aK hx,aK hy,Option.map_none,Option.map_some,Sem.run_bind,zL hT (show i≤c by omega) hs.spot,Result.andThen_ok];rfl
theorem PV.zN(hT:Ck P T E k) {x y:Operand}{i:Nat}(h:SR A w k R a n c xs) (hx:ev kv x=some (.slice a n c)) (hy:ev kv y=some (.int .i64 (i:Int))) (hi:i≤n):PV P (.slice T x (some y) none none) ty kv w (.slice (kR a i k c) (n - i) (c - i)):=by
 obtain⟨_,rows,_,_,hs,_⟩:=h;refine⟨rfl,by simp [known,opers,hx,hy],fun _ _ _ _=>?_⟩;simp only [execOp,aK hx,aK hy,Option.map_none,Option.map_some,Sem.run_bind,JH hT hi hs.spot,Result.andThen_ok];rfl
theorem vd:∀(rows:List (List Value)) (k i:Nat),(∀r∈rows,r.length=k)→i≤rows.length→(rows.take i).flatten=rows.flatten.take (i*k):=by
 intro rows
 induction rows with
 | nil=>grind
 | cons x xs ih=>
  intro k i hk hi
  cases i with
  | zero=>simp
  | succ i=>
   have hx:x.length=k:=hk x (by simp);simp only [List.take_succ_cons,List.flatten_cons];have h1:x.take (i*k+k)=x:=List.take_of_length_le (by omega);rw [ih k i (fun r hr=>hk r (by simp [hr])) (by simpa using hi),List.take_append,Nat.succ_mul,h1]
   congr 2
   omega
theorem EE:∀(rows:List (List Value)) (k i:Nat),(∀r∈rows,r.length=k)→i≤rows.length→(rows.drop i).flatten=rows.flatten.drop (i*k):=by
 intro rows
 induction rows with
 | nil=>grind
 | cons x xs ih=>
  intro k i hk hi
  cases i with
  | zero=>simp
  | succ i=>
   have hx:x.length=k:=hk x (by simp);simp only [List.drop_succ_cons,List.flatten_cons];have h1:x.drop (i*k+k)=[]:=List.drop_of_length_le (by omega);rw [ih k i (fun r hr=>hk r (by simp [hr])) (by simpa using hi),List.drop_append,Nat.succ_mul,h1]
   grind
theorem SR.take(h:SR A w k R a n c xs) {i:Nat}(hi:i≤n):SR A w k R a i c (xs.take i):=by
 obtain⟨hn,rows,hl,hk,hs,hx⟩:=h;refine⟨by simp;omega,rows.take i,by simp [hl],fun r hr=>hk r (List.mem_of_mem_take hr),?_,?_⟩
 ·
  rw [vd rows k i hk (by omega)];refine⟨by grind [SL.len,Nat.mul_le_mul_right],by have:=hs.le;omega,fun u hu=>hs.one u (List.mem_of_mem_take hu),?_⟩
  rcases hs.at_ with⟨h1,h2,h3⟩ | ⟨b,o,h1,h2,h3,h4,h5,h6⟩
  ·
   exact .inl ⟨h1,by omega,h3⟩
  refine .inr ⟨b,o,h1,by omega,h3,h4,h5,fun j v hv=>h6 j v ?_⟩
  grind
 grind
theorem SR.drop(h:SR A w k R a n c xs) {i:Nat}(hi:i≤n):SR A w k R (kR a i k c) (n - i) (c - i) (xs.drop i):=by
 obtain⟨hn,rows,hl,hk,hs,hx⟩:=h;refine⟨by simp;omega,rows.drop i,by simp [hl],fun r hr=>hk r (List.mem_of_mem_drop hr),?_,?_⟩
 ·
  rw [EE rows k i hk (by omega)];refine⟨by grind [SL.len,Nat.sub_mul],by have:=hs.le;omega,fun u hu=>hs.one u (List.mem_of_mem_drop hu),?_⟩
  rcases hs.at_ with⟨h1,h2,h3⟩ | ⟨b,o,h1,h2,h3,h4,h5,h6⟩
  ·
   grind [kR]
  by_cases e:c=i
  ·
   refine .inr ⟨b,o,by rw [kR,if_pos e];exact h1,by omega,by omega,h4,h5,fun j v hv=>?_⟩
   have:n=i:=by omega
   have:(rows.flatten.drop (i*k))=[]:=List.drop_eq_nil_of_le (by rw [hs.len,this];exact Nat.le_refl _)
   rw [this] at hv;simp at hv
  refine .inr ⟨b,o+i*k,by rw [kR,if_neg e,h1];rfl,by omega,by omega,h4,h5,fun j v hv=>?_⟩;rw [Nat.add_assoc];exact h6 (i*k+j) v (by simpa using hv)
 grind
theorem PV.Sn{f off:Nat}{fs:Array Field}{fd:Field}(hu:P.underlying T=some (.struct fs)) (hf:fs[f]?=some fd) (ho:fd.offset=off) (h1:∀w,(isAgg fd.type).run P w=.ok false w)
  {x:Operand}{us:List Value}{v:Value}(hx:ev kv x=some (.agg us.toArray)) (hv:us[off]?=some v):PV P (.field T x f) ty kv w v:=by
 subst ho;refine⟨rfl,by simp [known,opers,hx],fun _ _ _ _=>?_⟩
 simp [execOp,aK hx,Instr.field,run_underlying hu,hf,part,h1 w,asAgg,hv]
theorem PV.Sp{x y:Operand}{p q:Int}{i:IntKind}{tU:Array TypeId}(hx:ev kv x=some (.int i p)) (hy:ev kv y=some (.int i q)):PV P (.call {callee:=.builtin .min,args:=#[x,y],argTypes:=tU}) ty kv w (.int i (min p q)):=by
 refine⟨rfl,by simp [known,opers,hx,hy],fun _ _ _ _=>?_⟩;simp only [execOp,resolve,invoke,builtin,Sem.run_bind,Sem.run_pure,Result.andThen_ok,List.map_toArray,List.map_cons,List.map_nil,aK hx,aK hy]
 have:(if q<p then q else p)=min p q:=by grind
 simp [Builtin.min_,Builtin.min2,this]
theorem PV.OW{x y:Operand}{p q:Int}{i:IntKind}{tU:Array TypeId}(hx:ev kv x=some (.int i p)) (hy:ev kv y=some (.int i q)):PV P (.call {callee:=.builtin .max,args:=#[x,y],argTypes:=tU}) ty kv w (.int i (max p q)):=by
 refine⟨rfl,by simp [known,opers,hx,hy],fun _ _ _ _=>?_⟩;simp only [execOp,resolve,invoke,builtin,Sem.run_bind,Sem.run_pure,Result.andThen_ok,List.map_toArray,List.map_cons,List.map_nil,aK hx,aK hy]
 have:(if q > p then q else p)=max p q:=by grind
 simp [Builtin.max_,Builtin.max2,this]
theorem PV.func{fn:Fn}{fs cs:List Operand}{us vs:List Value}(hf:fs.map (ev kv)=us.map some) (hc:cs.map (ev kv)=vs.map some):PV P (.makeFunc fn fs.toArray cs.toArray) ty kv w (.func fn us.toArray vs.toArray):=by
 have key:∀(l:List Operand) (vs:List Value),l.map (ev kv)=vs.map some→l.map (mi kv)=vs∧∀x∈l,(ev kv x).isSome=true:=by
  intro l
  induction l with
  | nil=>intro vs h;simp at h;simp [h]
  | cons x r ih=>
   intro vs h
   cases vs with
   | nil=>simp at h
   | cons v vs=>grind [aK]
 obtain⟨h1,h2⟩:=key fs us hf;obtain⟨h3,h4⟩:=key cs vs hc;refine⟨rfl,?_,fun _ _ _ _=>?_⟩
 ·
  grind [known,opers]
 simp only [execOp,Instr.makeFunc,List.map_toArray,h1,h3];rfl
end
/-! ### places in maps -/
def KE{κ:Type}(enc:κ→Value) (w:World) (b:Nat) (l:List (κ × Value)) (k:κ) (st:Nat):Prop:=
 ∃es clock,w.heap[b]?=some (Obj.map es clock)∧es.toList.map (fun e=>(e.key,e.val))=l.map (fun p=>(enc p.1,p.2))∧(l.map (·.1)).Nodup∧(∀e∈es.toList,e.born<clock)∧(es.toList.map (·.born)).Nodup∧
  ∃(m:Nat) (e:MapEntry) (v:Value),es.toList[m]?=some e∧e.born=st∧l[m]?=some (k,v)
section
variable {κ:Type} [DecidableEq κ] {enc:κ→Value}{P:Program}{kt:TypeId}{w w':World}{b:Nat}{l:List (κ × Value)}
variable {n:Nat}{kv:KV}{K:KV→World→Prop}
variable {d:Tmp}{ty:TypeId}{pos:String}{af:Array Edge}{g:Option (Nat × Bool)}{T e:TypeId}
omit [DecidableEq κ] in
theorem KE.km{k:κ}{st:Nat}(h:KE enc w b l k st):KM enc w b l:=by obtain⟨es,c,h1,h2,h3,h4,h5,_⟩:=h;exact⟨es,c,h1,h2,h3,h4,h5⟩
theorem Sq:∀{l:List (κ × Value)}{m:Nat}{k:κ}{v:Value},(l.map (·.1)).Nodup→l[m]?=some (k,v)→∀u,dH l k u=l.set m (k,u):=by
 intro l
 induction l with
 | nil=>intro m k v _ h;simp at h
 | cons p r ih=>
  obtain⟨k0,v0⟩:=p;intro m k v hn h u;simp only [List.map_cons,List.nodup_cons] at hn
  cases m with
  | zero=>grind [dH]
  | succ m=>
   simp at h
   have kh:k0≠k:=fun e=>hn.1 (by grind);simp only [dH,if_neg kh,List.set_cons_succ,ih hn.2 h u]
theorem OY(hK:KK P kt enc) (hT:P.underlying T=some (.map kt e)) {z:Value}(hz:∀w,(zeroValue e).run P w=.ok z w) (hb:KM enc w b l) (k:κ) :
  ∃(w':World) (st:Nat) (v:Value),(Instr.mapEntry T (.map (some b)) (enc k)).run P w=.ok (.tuple #[v,.int .i64 (st:Int)]) w'∧bj [b] w w'∧w'.heap.size=w.heap.size∧KE enc w' b (dH l k ((ck l k).getD z)) k st:=by
 obtain⟨es,clock,hm,he,hn,hbo,G8⟩:=hb;have ze:b<w.heap.size:=(Array.getElem?_eq_some_iff.1 hm).1
 have hlen:es.toList.length=l.length:=by simpa using congrArg List.length he
 cases hx:tX l k 0 with
 | none=>
  obtain⟨h1,h2⟩:=mS hx;refine⟨_,clock,z,?_,kQ w b (.map (es.push {key:=enc k,val:=z,born:=clock}) (clock+1)),by simp,?_⟩
  ·
   simp only [Instr.mapEntry,Sem.run_bind,run_underlying hT,Result.andThen_ok,MapKept.run_getObj_map hm,hK.check,hK.find l es.toList k w he,hx,hz,MapKept.run_setObj_map _ hm]
   first | done | rfl
  refine⟨_,_,by simp [ze];exact⟨rfl,rfl⟩,?_,iK hn k _,?_,?_,l.length,{key:=enc k,val:=z,born:=clock},z,?_,rfl,?_⟩
  ·
   rw [h2,h1];simp [he]
  ·
   grind
  ·
   grind
  ·
   simp [← hlen]
  rw [h2,h1];simp
 | some p=>
  obtain⟨j,v0⟩:=p;obtain⟨m,h1,h2,h3,h4,_⟩:=lE hx
  have qz:j=m:=by omega
  subst qz
  have mu:j<es.toList.length:=by grind
  have ED:(((es[j]?).map (·.key)).getD (enc k))=enc k:=by
   have:=congrArg (fun x=>x[j]?) he
   grind
  have hvj:(es[j]'(by simpa using mu)).val=v0:=by
   have:=congrArg (fun x=>x[j]?) he
   grind
  obtain⟨h5,h6⟩:=mr (u:=v0) es j k v0 (fun e=>{e with key:=enc k,val:=v0}) (fun e=>⟨rfl,rfl,rfl⟩) he h2
  have Cu:(es.modify j fun e=>{e with key:=enc k})=es.modify j fun e=>{e with key:=enc k,val:=v0}:=by grind
  refine⟨_,((es[j]?).map (·.born)).getD 0,v0,?_,kQ w b (.map (es.modify j fun e=>{e with key:=enc k}) clock),by simp,?_⟩
  ·
   simp only [Instr.mapEntry,Sem.run_bind,run_underlying hT,Result.andThen_ok,MapKept.run_getObj_map hm,hK.check,hK.find l es.toList k w he,hx,Instr.keyThatStays,ED,hK.same,if_true,Sem.run_pure,MapKept.run_setObj_map _ hm];rw [Array.getElem?_eq_getElem (show j<es.size by simpa using mu)]
   rfl
  rw [Cu];refine⟨_,_,by simp [ze];exact⟨rfl,rfl⟩,by rw [h4,h3];exact h5,iK hn k _,?_,by rw [h6];exact G8,j,{es[j]'(by simpa using mu) with key:=enc k,val:=v0},v0,?_,?_,?_⟩
  ·
   intro x hx
   have:x.born∈(es.modify j fun e=>{e with key:=enc k,val:=v0}).toList.map (·.born):=List.mem_map.2 ⟨x,hx,rfl⟩
   grind
  ·
   grind
  ·
   grind
  grind
theorem OX.WT(hK:KK P kt enc) (hT:P.underlying T=some (.map kt e)) {z:Value}(hz:∀w,(zeroValue e).run P w=.ok z w) (hb:KM enc w b l) {x y:Operand}{k:κ}(hd:Nat.blt d n=true) (hx:ev kv x=some (.map (some b))) (hy:ev kv y=some (enc k))
  (h:∀(w':World) (st:Nat) (v:Value),bj [b] w w'→w'.heap.size=w.heap.size→KE enc w' b (dH l k ((ck l k).getD z)) k st→K ((d,.tuple #[v,.int .i64 (st:Int)])::kv) w'):OX P ⟨some d,.mapEntry T x y,ty,pos,af,g⟩ n kv w K:=by
 obtain⟨w',st,v,hr,h1,h2,h3⟩:=OY hK hT hz hb k;refine⟨rfl,hd,by simp [known,opers,hx,hy],?_⟩
 have jz:(execOp (mi kv) ⟨some d,.mapEntry T x y,ty,pos,af,g⟩).run P w=.ok (.value (.tuple #[v,.int .i64 (st:Int)])) w':=by
  simp only [execOp,aK hx,aK hy,Sem.run_bind,hr,Result.andThen_ok];rfl
 rw [jz];exact h _ _ _ h1 h2 h3
theorem OX.JI{k:κ}{st:Nat}(hb:KE enc w b l k st) {x y u:Operand}{v:Value}(hx:ev kv x=some (.map (some b))) (hy:ev kv y=some (.int .i64 (st:Int))) (hu:ev kv u=some v)
  (h:∀w',bj [b] w w'→w'.heap.size=w.heap.size→KM enc w' b (dH l k v)→K kv w'):OX P ⟨none,.entryStore T x y u,ty,pos,af,g⟩ n kv w K:=by
 obtain⟨es,clock,hm,he,hn,hbo,G8,m,en,v0,hme,bF,hlm⟩:=hb;have ze:b<w.heap.size:=(Array.getElem?_eq_some_iff.1 hm).1
 have abV:m<es.size:=by grind
 have UT:es.findIdx? (fun e=>(e.born:Int) == (st:Int))=some m:=by
  rw [Array.findIdx?_eq_some_iff_getElem]
  have hem:es[m]=en:=by grind
  refine⟨abV,by simp [hem,bF],fun j hj=>?_⟩
  have abW:j<es.size:=by omega
  simp only [beq_iff_eq,Int.natCast_inj];intro e
  have h1:(es.toList.map (·.born))[j]?=some st:=by simp [abW,e]
  have h2:(es.toList.map (·.born))[m]?=some st:=by simp [abV,hem,bF]
  have:=(List.getElem?_inj (i:=j) (j:=m) (by simp [abW]) G8).1 (h1.trans h2.symm)
  omega
 obtain⟨h5,h6⟩:=mr (u:=v) es m k v0 (fun e=>{e with key:=enc k,val:=v}) (fun e=>⟨rfl,rfl,rfl⟩) he hlm
 have hkm:(es[m]).key=enc k:=by
  have:=congrArg (fun x=>x[m]?) he
  grind
 have Cu:(es.modify m fun e=>{e with val:=v})=es.modify m fun e=>{e with key:=enc k,val:=v}:=by grind
 refine⟨rfl,rfl,by simp [known,opers,hx,hy,hu],?_⟩
 have jz:(execOp (mi kv) ⟨none,.entryStore T x y u,ty,pos,af,g⟩).run P w=.ok .skip {w with heap:=w.heap.setIfInBounds b (.map (es.modify m fun e=>{e with val:=v}) clock)}:=by
  simp only [execOp,aK hx,aK hy,aK hu,Sem.run_bind,Instr.entryStore,MapKept.run_getObj_map hm,Result.andThen_ok,asInt,asIntOf,Sem.run_pure,UT,MapKept.run_setObj_map _ hm]
 rw [jz];refine h _ (kQ w b _) (by simp) ?_;rw [Cu];refine⟨_,_,by simp [ze];exact⟨rfl,rfl⟩,by rw [Sq hn hlm v];exact h5,iK hn k v,?_,by rw [h6];exact G8⟩;intro x hx
 have:x.born∈(es.modify m fun e=>{e with key:=enc k,val:=v}).toList.map (·.born):=List.mem_map.2 ⟨x,hx,rfl⟩
 grind
end
end Go.Rc

namespace Go.Rc
open Go
section
variable {α:Type}{A:Nat→Prop}{w w':World}{k n c base:Nat}{a:Option Addr}{cs:List Value}{R:α→List Value→Prop}{xs:List α}
variable {P:Program}{N:Nat}{kv:KV}{K:KV→World→Prop}
variable {d:Tmp}{ty:TypeId}{pos:String}{af:Array Edge}{g:Option (Nat × Bool)}{T E:TypeId}
theorem PV.cD{z us:List Value}{places:List (Nat × Nat)}(hT:BT P T z places) {ps:List (Nat × Operand)}{vs:List (Nat × Value)}(hv:mG kv ps=some vs) (eO:wJ places z.length vs=true) (hu:zJ places z vs=us) :
  PV P (.build T ps.toArray) ty kv w (.agg us.toArray):=by subst hu;exact PV.build hT hv eO
theorem OX.bA{len:Nat}{z us:List Value}(hT:BS P T E k len z) {ps:List (Nat × Operand)}{vs:List (Nat × Value)}(hd:Nat.blt d N=true) (hv:mG kv ps=some vs) (eO:OS k z.length vs=true) (hu:WM k z vs=us)
  (h:∀b w',GS w w' b→cJ w' b E us→K ((d,.slice (some ⟨b,0,none⟩) len len)::kv) w'):OX P ⟨some d,.buildSlice T len ps.toArray,ty,pos,af,g⟩ N kv w K:=by
 subst hu;exact OX.WN hT hd hv eO h
theorem OL.blk{b m:Nat}{l:List Value}(h:cJ w b E l) (hb:base≤b) (hl:l.length=m*k) (h1:∀u∈l,u.oneCell'=true) (hm:m≤140737488355328):OL base w E k (some ⟨b,0,none⟩) m m l:=
 ⟨h1,hl,.inr ⟨b,m,l.toArray,rfl,hb,h,Nat.le_refl _,by simp [maxLen];omega,by simpa using hl,by rw [← hl];simp⟩⟩
theorem OR.eP{b:Nat}{l:List Value}{x:α}(h:cJ w b E l) (hb:base≤b) (hl:l.length=k) (h1:∀u∈l,u.oneCell'=true) (hR:R x l):OR base w E k R (some ⟨b,0,none⟩) 1 1 [x]:=
 ⟨rfl,[l],rfl,by simpa using hl,by simpa using OL.blk (k:=k) h hb (m:=1) (by simpa using hl) h1 (by omega),fun i y r h1 h2=>by
  cases i with
  | zero=>simp at h1 h2;subst h1 h2;exact hR
  | succ i=>simp at h1⟩
theorem OX.qA{f:FuncId}(hf:CF P f) {t:Tmp}{fs cs:Array Value}{xs:List Operand}{tU:Array TypeId}{args:List Value}(hd:Nat.blt d N=true) (ht:look kv t=some (.func (.func f) fs cs)) (hx:xs.map (ev kv)=args.map some)
  (h:Calls P f (fs++args.toArray++cs) w fun e w'=>∃v,e=.returned v∧K ((d,v)::kv) w'):OX P ⟨some d,.call {callee:=.value (.tmp t),args:=xs.toArray,argTypes:=tU},ty,pos,af,g⟩ N kv w K:=by
 have key:∀(l:List Operand) (vs:List Value),l.map (ev kv)=vs.map some→l.map (mi kv)=vs∧∀x∈l,(ev kv x).isSome=true:=by
  intro l
  induction l with
  | nil=>intro vs h;simp at h;simp [h]
  | cons x r ih=>
   intro vs h
   cases vs with
   | nil=>simp at h
   | cons v vs=>
    simp at h
    obtain⟨h1,h2⟩:=ih vs h.2;exact⟨by simp [aK h.1,h1],fun y hy=>by rcases List.mem_cons.1 hy with rfl | hy;simp [h.1];exact h2 y hy⟩
 obtain⟨h1,h2⟩:=key xs args hx;have dR:ev kv (.tmp t)=some (.func (.func f) fs cs):=ht;refine⟨rfl,hd,?_,?_⟩
 ·
  simp only [known,opers,List.all_eq_true];intro x hx
  simp at hx
  rcases hx with rfl | hx
  ·
   simp [dR]
  exact h2 x hx
 have hr:(execOp (mi kv) ⟨some d,.call {callee:=.value (.tmp t),args:=xs.toArray,argTypes:=tU},ty,pos,af,g⟩).run P w=.ok (.enter f (fs++args.toArray++cs)) w:=by
  simp only [execOp,resolve,Deferred.ofValue,aK dR,Sem.run_bind,List.map_toArray,h1]
  first
   | (simp only [Sem.run_pure,Result.andThen_ok,invoke];exact hf _ w)
   | (simp only [invoke];exact hf _ w)
 rw [hr];exact h
end
def oy(P:Program) (A:Nat→Prop) (w:World):Prop:=(∃b,A b∧b<w.heap.size∧∀w',w'.heap[b]?=w.heap[b]?→Lib.TabIs P w' "internal/strconv.uint64pow10" .u64 Lib.pow10Tab)∧∀n,n = "strconv.ErrSyntax"∨n = "strconv.ErrRange"→∀g,P.globalNamed n=some g→A g∧g<w.heap.size∧∃ev:Value,(ev=.nilIface∨∃t p,ev=.iface t p)∧∀w':World,w'.heap[g]?=w.heap[g]?→w'.cell? ⟨g,0,none⟩=some ev
theorem oy.err{P:Program}{A:Nat→Prop}{w:World}(h:oy P A w) {n:String}(hn:n = "strconv.ErrSyntax"∨n = "strconv.ErrRange") {g:Nat}(hg:P.globalNamed n=some g):∃ev:Value,w.cell? ⟨g,0,none⟩=some ev∧(ev=.nilIface∨∃t p,ev=.iface t p):=by
 obtain⟨_,_,ev,h1,h2⟩:=h.2 n hn g hg;exact⟨ev,h2 w rfl,h1⟩
theorem oy.of{P:Program}{A A':Nat→Prop}{w w':World}(h:oy P A w) (hA:∀x,A x→A' x) (hs:w.heap.size≤w'.heap.size) (hb:∀x,A x→x<w.heap.size→w'.heap[x]?=w.heap[x]?):oy P A' w':=by
 obtain⟨⟨b,h1,h2,h3⟩,h4⟩:=h;refine⟨⟨b,hA b h1,Nat.lt_of_lt_of_le h2 hs,fun w2 e=>h3 w2 (e.trans (hb b h1 h2))⟩,fun n hn g hg=>?_⟩;obtain⟨h5,h6,ev,h7,h8⟩:=h4 n hn g hg;exact⟨hA g h5,Nat.lt_of_lt_of_le h6 hs,ev,h7,fun w2 e=>h8 w2 (e.trans (hb g h5 h6))⟩
theorem oy.cX{P:Program}{A:Nat→Prop}{w w':World}{S:List Nat}(h:oy P A w) (c:bj S w w') (hS:∀b∈S,¬A b):oy P A w':=
 h.of (fun _ h=>h) c.size fun x hx ed=>c.block x ed fun hm=>hS x hm hx
theorem oy.ext{P:Program}{A:Nat→Prop}{w w':World}(h:oy P A w) (c:bj [] w w'):oy P A w':=h.cX c (by simp)
def itoa(n:Int):ByteArray:=⟨(Lib.itoa n).toArray⟩
end Go.Rc

namespace Go.Rc
open Go
def PL(P:Program):List Field→List (Nat × Nat)→Prop
 | [],[]=>True
 | f::fs,(o,s)::ps=>f.offset=o∧(∀w,(sizeOf f.type).run P w=.ok s w)∧PL P fs ps
 | _,_=>False
theorem WV{P:Program}:∀{fs:List Field}{ps:List (Nat × Nat)},PL P fs ps→∀w,(fs.mapM fun f=>(do pure (f.offset,← sizeOf f.type):Sem (Nat × Nat))).run P w=.ok ps w:=by
 intro fs
 induction fs with
 | nil=>intro ps h w;cases ps with
  | nil=>rfl
  | cons p r=>cases h
 | cons f fs ih=>
  intro ps h w
  cases ps with
  | nil=>cases h
  | cons p r=>
   obtain⟨o,s⟩:=p;obtain⟨h1,h2,h3⟩:=h;subst h1;simp only [List.mapM_cons,Sem.run_bind,h2 w,Result.andThen_ok,Sem.run_pure,ih h3 w]
theorem kS{P:Program}{T:TypeId}{v:Value}{z:List Value}{fs:List Field}{places:List (Nat × Nat)}(h1:∀w,(zeroValue T).run P w=.ok v w) (h2:v.cells=z.toArray) (h3:P.underlying T=some (.struct fs.toArray)) (h4:PL P fs places) :
  BT P T z places:=by
 refine⟨⟨v,h1,h2⟩,fs.toArray,h3,fun w=>?_⟩
 have:=WV h4 w
 rw [List.mapM_toArray];rw [map_eq_pure_bind];simp only [Sem.run_bind,this,Result.andThen_ok]
 rfl
theorem ML{P:Program}{T T0 T1:TypeId}{f0 f1:Field}(hu:P.underlying T=some (.struct #[f0,f1])) (wK:f0.type=T0) (Sk:f1.type=T1) (ho0:f0.offset=0) (ho1:f1.offset=1)
  (h0:P.underlying T0=some (.int .i64)) (h1:P.underlying T1=some .string) (a0:∀w,(isAgg T0).run P w=.ok false w) (a1:∀w,(isAgg T1).run P w=.ok false w) :
  ∀em (k:Key) w,(Instr.checkKey em 10000 T k.val).run P w=.ok () w:=by
 intro em k w;subst wK Sk
 have r0:∀n v w,(Instr.checkKey em (n+1) f0.type (.int .i64 v)).run P w=.ok () w:=fun n v w=>by simp [Instr.checkKey,run_underlying h0]
 have r1:∀n v w,(Instr.checkKey em (n+1) f1.type (.string v)).run P w=.ok () w:=fun n v w=>by simp [Instr.checkKey,run_underlying h1]
 have key:∀n,(Instr.checkKey em (n+2) T k.val).run P w=.ok () w:=fun n=>by
  rw [show n+2=(n+1)+1 from rfl]
  unfold Instr.checkKey
  simp only [Key.val,Sem.run_bind,run_underlying hu,Result.andThen_ok]
  by_cases e0:f0.name = "_" <;> by_cases e1:f1.name = "_" <;> simp [part,a0,a1,ho0,ho1,r0 n,r1 n,e0,e1]
 exact key 9998
end Go.Rc
namespace Go.Rc
open Go
theorem ry{P:Program}{T E k bytes:Nat}{z:Value}(hu:P.underlying T=some (.slice E)) (hi:(P.info? E).map (fun i=>(i.zero,i.size,i.bytes))=some (some z,k,bytes)) (hz:z.cells.size=k) (hp:0<k):AP P T E k bytes:=by
 cases h:P.info? E with
 | none=>rw [h] at hi;cases hi
 | some i=>
  rw [h] at hi;simp only [Option.map_some,Option.some.injEq,Prod.mk.injEq] at hi;exact⟨hu,⟨i,z,rfl.trans h,hi.1,hi.2.1,hi.2.2,hz⟩,hp⟩
end Go.Rc

namespace Go.Rc
open Go
class kA (P:Program) (T f:Nat) (off:outParam Nat):Prop where
 h:FA P T f off
class JJ (P:Program) (T:Nat) (E k:outParam Nat):Prop where
 h:Ck P T E k
class MM (P:Program) (T:Nat):Prop where
 h:MJ P T
class WW (P:Program) (T:Nat) (z:outParam (List Value)) (pl:outParam (List (Nat × Nat))):Prop where
 h:BT P T z pl
class rz (P:Program) (T:Nat) (d:outParam TypeDesc):Prop where
 h:P.underlying T=some d
class jn (P:Program) (f:FuncId):Prop where
 h:CF P f
class Oc (P:Program) (T:Nat) (k:outParam Nat):Prop where
 h:(P.info? T).map (·.size)=some k
class Jn (P:Program) (T:Nat) (l:outParam (List Value)):Prop where
 h:ZV P T l
class Od (P:Program) (T:Nat) (E k bytes:outParam Nat):Prop where
 h:AP P T E k bytes
theorem PV.zero{P:Program}{kv:KV}{w:World}{T ty:TypeId}{z:List Value}{pl:List (Nat × Nat)}(hT:BT P T z pl):PV P (.build T #[]) ty kv w (.agg z.toArray):=PV.cD (ps:=[]) (vs:=[]) hT rfl rfl rfl
end Go.Rc

namespace Go.Rc
def aI(l:List aJ) (i:Nat):Bool:=(l[i]?).any (·.ring)
def cz(l:List aJ):Nat→Nat
 | 0=>0
 | k+1=>if aI l k then cz l k else k+1
def fw(l:List aJ) (m:Nat):Nat:=m+((l.drop m).takeWhile (·.ring)).length
def block(l:List aJ) (n:Int):Int × Int:=
 if n<0∨(l.length:Int)≤n then (0,0) else if aI l n.toNat then (cz l n.toNat,fw l (n.toNat+1)) else (n,n+1)
theorem Dt(l:List aJ) (n:Int) (h:n<0∨l.length≤n):block l n=(0,0):=if_pos h
theorem aq{α:Type}{l:List α}{i:Nat}(h:i<l.length):l[i]?=some l[i]:=by simp [h]
theorem da{l:List aJ}{i:Nat}(h:i<l.length):aI l i=l[i].ring:=by simp [aI,h]
theorem xN{l:List aJ}{m:Nat}(h:aI l m=true):fw l m=fw l (m+1):=by
 unfold aI at h
 have hm:m<l.length:=by grind
 rw [aq hm] at h;simp only [Option.any_some] at h
 unfold fw
 rw [List.drop_eq_getElem_cons hm,List.takeWhile_cons,if_pos h]
 simp;omega
theorem zO{l:List aJ}{m:Nat}(h:aI l m=false):fw l m=m:=by
 unfold fw
 rcases Nat.lt_or_ge m l.length with hm | hm
 ·
  rw [da hm] at h;rw [List.drop_eq_getElem_cons hm,List.takeWhile_cons,if_neg (by simp [h])]
  simp
 rw [List.drop_eq_nil_of_le hm];simp
theorem pQ{l:List aJ}{m:Nat}(h:l.length≤m):aI l m=false:=by grind [aI]
theorem ve{l:List aJ}{k:Nat}(h:aI l k=true):cz l (k+1)=cz l k:=by simp [cz,h]
theorem xO{l:List aJ}{k:Nat}(h:k=0∨aI l (k - 1)=false):cz l k=k:=by
 cases k with
 | zero=>rfl
 | succ k=>grind [cz]
theorem MN(n m:Int):n.tmod m % m=n % m:=by
 have h:=Int.tmod_add_mul_tdiv n m
 have:n % m=(n.tmod m+m*n.tdiv m) % m:=by rw [h]
 rw [this,Int.add_mul_emod_self_left]
end Go.Rc
namespace Go.Rc
theorem dJ{α:Type}{l:List α}{k:Nat}(hk:k<l.length) {P:Nat→α→Prop}(h:∀j x,j<k→l[j]?=some x→P j x) (hP:P k l[k]):∀j x,j<k+1→l[j]?=some x→P j x:=by grind
end Go.Rc

namespace Go.Rc
open Go
def aB(k:Key):Bool:=decide (k.kind=1) || (decide (k.kind=2) || decide (k.kind=30))
def pR(n:Int):Bool:=decide (n=7) || (decide (n=14) || (decide (n=17) || decide (n=18)))
def aA(k:Key):Bool:=decide (k.kind=32) || (decide (1≤k.kind) && decide (k.kind≤22) && pR k.kind)
def decFrom(s:List UInt8) (n:Int):Int:=match s with
 | []=>n
 | c::r=>if c.toNat<48∨57<c.toNat then -1 else decFrom r (10*n+((c.toNat:Int) - 48))
def fA(s:ByteArray):Int:=
 if s.size=0∨9<s.size∨(s.data.toList.head?=some 48∧s.size≠1) then -1 else decFrom s.data.toList 0
def number(k:Key):Int:=if 30≤k.kind∧k.kind≤32∧fA k.text≤99 then fA k.text else -1
def ik(k:Key):Bool:=
 if 30≤k.kind∧k.kind≤32 then decide (0≤number k)
 else decide (1≤k.kind∧k.kind≤22∧k.text.size≤1073741824∧(k.text=⟨#[]⟩∨(k.kind≠1∧k.kind≠21)))
def fW:Key:=⟨0,⟨#[]⟩⟩
def eL(n:Int):Key:=if n<0∨99<n then fW else ⟨30,itoa n⟩
def aQ(ab:List aJ) (n:Int):Key:=if n<0∨(ab.length:Int)≤n∨99<n then fW else ⟨if aI ab n.toNat then 32 else 31,itoa n⟩
def cE(a b:Key):Int:=if a.kind<b.kind then -1 else if b.kind<a.kind then 1 else Lib.compareBytes a.text.data.toList b.text.data.toList
end Go.Rc
namespace Go.Rc
open Go
theorem Du(s:ByteArray):s=⟨#[]⟩↔s.size=0:=by
 constructor
 ·
  rintro rfl;rfl
 intro h;obtain⟨d⟩:=s;grind [ByteArray.size]
def pS(s:ByteArray):Bool:=decide (s=⟨#[]⟩) || (decide (9<(s.size:Int)) || (decide (((s.data.toList.head?.map (·.toNat)).getD 0:Int)=48) && decide (s≠⟨#[48]⟩)))
theorem G9(s:ByteArray) (h:0<s.size):∃b,s[0]?=some b∧((s.data.toList.head?.map (·.toNat)).getD 0:Int)=(b.toNat:Int):=by
 obtain⟨⟨l⟩⟩:=s
 cases l with
 | nil=>simp [ByteArray.size] at h
 | cons b r=>exact⟨b,rfl,by simp⟩
theorem zP(s:ByteArray):s=⟨#[48]⟩↔s.data.toList.head?=some 48∧s.size=1:=by
 obtain⟨⟨l⟩⟩:=s
 cases l with
 | nil=>simp
 | cons b r=>grind [ByteArray.size]
theorem xP(s:ByteArray):fA s=if pS s=true then -1 else decFrom s.data.toList 0:=by
 unfold fA
 congr 1
 simp only [pS,Bool.or_eq_true,Bool.and_eq_true,decide_eq_true_eq,Du];refine propext (or_congr_right (or_congr (by omega) ?_));rw [show(s≠⟨#[48]⟩) = ¬(s.data.toList.head?=some 48∧s.size=1) from by rw [ne_eq,zP]]
 cases h:s.data.toList.head? with
 | none=>simp
 | some b=>
  simp
  have:(b.toNat=48↔b=48):=by rw [← UInt8.toNat_inj];rfl
  grind
theorem MO{s:ByteArray}(h:pS s=false):s.size≤9:=by
 simp [pS] at h
 omega
theorem EG(s:ByteArray) {i:Nat}{n:Int}(h:i<s.size):∃b,s[i]?=some b∧decFrom (s.data.toList.drop i) n=if (b.toNat:Int)<48∨57<(b.toNat:Int) then -1 else decFrom (s.data.toList.drop (i+1)) (10*n+((b.toNat:Int) - 48)):=by
 have h':i<s.data.toList.length:=by rw [Array.length_toList];exact h
 refine⟨s.data.toList[i],?_,?_⟩
 ·
  obtain⟨⟨l⟩⟩:=s
  have e:(ByteArray.mk ⟨l⟩)[i]?=if h:i<(ByteArray.mk ⟨l⟩).size then some (ByteArray.mk ⟨l⟩)[i] else none:=rfl
  rw [e,dif_pos h]
  rfl
 grind [List.drop_eq_getElem_cons,decFrom]
theorem Ha(k:Key) (h:k.kind<30∨32<k.kind):ik k=(decide (1≤k.kind) && (decide (k.kind≤22) && (decide ((k.text.size:Int)≤1073741824) && (decide (k.text=⟨#[]⟩) || (decide (k.kind≠1) && decide (k.kind≠21)))))):=by
 unfold ik
 grind
end Go.Rc

namespace Go.Rc
open Go
instance:Inhabited aJ:=⟨⟨false,[],0,0⟩⟩
instance:Inhabited Ask:=⟨⟨false,false,0,0⟩⟩
def Ask.val(x:Ask):Value:=.agg #[.bool x.cell,.bool x.pick,.int .i64 x.n,.int .i64 x.JF]
structure Hb where
 done:Bool
 value:ByteArray
 ask:Key
 deriving DecidableEq
def Hb.val(t:Hb):Value:=.agg #[.bool t.done,.string t.value,.int .i64 t.ask.kind,.string t.ask.text]
def il(ab:List aJ) (i:Nat):Int:=if aI ab i then (block ab i).2 else (block ab i).1
def iX(ab:List aJ) (i:Nat) (cell:Bool) (n:Int):Bool:=
 if cell then decide (0≤n) && decide (n≤15) else decide (0≤n) && decide (n<il ab i)
def eh(s:ByteArray):Nat:=if fA s<0∨65535<fA s then 0 else (fA s).toNat
theorem n9(s:ByteArray):eh s≤65535:=by unfold eh;split <;> omega
def zQ(c:Nat) (l:List Nat):Nat:=l.foldl (· + ·) c
def xQ(c:Nat) (l:List Nat):Nat:=l.foldl max c
def gK(c:Nat) (l:List Nat):Nat:=l.foldl (· ||| ·) c
def gi(kind:Int) (c:Nat) (l:List Nat):Nat:=
 if kind=1 then zQ c l % 1000 else if kind=2 then zQ c l / 2 % 1000 else if kind=3 then xQ c l else if kind=4 then zQ c l % 2 else gK c l
theorem tY{f:Nat→Nat→Nat}{c:Nat}{l:List Nat}{i:Nat}(h:i<l.length):(l.take (i+1)).foldl f c=f ((l.take i).foldl f c) l[i]:=by grind [List.take_succ_eq_append_getElem]
theorem Dv{c:Nat}{l:List Nat}{i:Nat}(h:i<l.length):zQ c (l.take (i+1))=zQ c (l.take i)+l[i]:=tY h
theorem zR{c:Nat}{l:List Nat}{i:Nat}(h:i<l.length):xQ c (l.take (i+1))=max (xQ c (l.take i)) l[i]:=tY h
theorem zS{c:Nat}{l:List Nat}{i:Nat}(h:i<l.length):gK c (l.take (i+1))=gK c (l.take i) ||| l[i]:=tY h
theorem zh{c:Nat}:∀{l:List Nat},(∀x∈l,x≤65535)→zQ c l≤c+65535*l.length:=by
 intro l
 induction l generalizing c with
 | nil=>simp [zQ]
 | cons x r ih=>
  intro h
  have h1:=ih (c:=c+x) fun y hy=>h y (by simp [hy])
  have h2:=h x (by simp)
  grind [zQ]
theorem rA{c:Nat}:∀{l:List Nat},c≤65535→(∀x∈l,x≤65535)→xQ c l≤65535:=by
 intro l
 induction l generalizing c with
 | nil=>intro h _;simpa [xQ] using h
 | cons x r ih=>
  intro h0 h;have h2:=h x (by simp)
  exact ih (c:=max c x) (by omega) fun y hy=>h y (by simp [hy])
theorem pc{c:Nat}:∀{l:List Nat},c≤65535→(∀x∈l,x≤65535)→gK c l≤65535:=by
 intro l
 induction l generalizing c with
 | nil=>intro h _;simpa [gK] using h
 | cons x r ih=>
  intro h0 h;have h2:=h x (by simp)
  refine ih (c:=c ||| x) ?_ fun y hy=>h y (by simp [hy])
  have:c ||| x<2 ^ 16:=Nat.or_lt_two_pow (by omega) (by omega)
  omega
theorem sJ{kind:Int}{c:Nat}{l:List Nat}(hc:c≤65535) (h:∀x∈l,x≤65535):gi kind c l≤65535:=by grind [gi,rA,pc]
def dP(ab:List aJ) (k:Key) (ao:List ByteArray):Hb:=
 if number k<0∨(ab.length:Int)≤number k∨aQ ab (number k)≠k then ⟨true,⟨#[]⟩,fW⟩
 else
  let r:=ab[(number k).toNat]!
  if r.asks.length≤ao.length then ⟨true,itoa (gi r.final r.c.toNat ((ao.take r.asks.length).map eh)),fW⟩
  else
   let x:=r.asks[ao.length]!
   let to:=if x.pick=true∧(ao.length=0∨eh ao[ao.length - 1]! % 2=0) then x.JF else x.n
   ⟨false,⟨#[]⟩,if x.cell then eL to else aQ ab to⟩
def gU(x:Ask) (ao:List ByteArray):Bool:=x.pick && (decide (ao.length=0) || decide (eh ao[ao.length - 1]! % 2=0))
def tZ(x:Ask) (ao:List ByteArray):Int:=if gU x ao then x.JF else x.n
theorem OZ{ab:List aJ}{k:Key}{ao:List ByteArray}(h:number k<0∨(ab.length:Int)≤number k∨aQ ab (number k)≠k):dP ab k ao=⟨true,⟨#[]⟩,fW⟩:=by
 unfold dP;rw [if_pos h]
theorem sK{ab:List aJ}{k:Key}{ao:List ByteArray}{i:Nat}(hk:number k=i) (hi:i<ab.length) (ho:aQ ab (number k)=k) (hn:ab[i].asks.length≤ao.length) :
  dP ab k ao=⟨true,itoa (gi ab[i].final ab[i].c.toNat ((ao.take ab[i].asks.length).map eh)),fW⟩:=by
 unfold dP
 grind
theorem wM{ab:List aJ}{k:Key}{ao:List ByteArray}{i:Nat}(hk:number k=i) (hi:i<ab.length) (ho:aQ ab (number k)=k) (hn:ao.length<ab[i].asks.length) :
  dP ab k ao=⟨false,⟨#[]⟩,if ab[i].asks[ao.length].cell then eL (tZ ab[i].asks[ao.length] ao) else aQ ab (tZ ab[i].asks[ao.length] ao)⟩:=by
 unfold dP
 rw [if_neg (by rw [ho];simp;omega)];simp only [hk,Int.toNat_natCast,getElem!_pos ab i hi,getElem!_pos ab[i].asks ao.length hn];rw [if_neg (by omega)];simp only [tZ,gU,Bool.and_eq_true,Bool.or_eq_true,decide_eq_true_eq]
def gV(ab:List aJ) (i:Nat) (ring:Bool) (k:Nat) (x:Ask):Bool:=
 iX ab i x.cell x.n && (if x.pick then !ring && decide (k≠0) && iX ab i x.cell x.JF else decide (x.JF=0))
def jV(r:aJ):Bool:=
 if r.ring then decide (r.final=5) && decide (0≤r.c) && decide (r.c≤65535) else decide (1≤r.final) && decide (r.final≤4) && decide (0≤r.c) && decide (r.c≤999)
def pT(ab:List aJ) (i:Nat) (r:aJ):Prop:=r.asks.length≤6∧(∀k x,r.asks[k]?=some x→gV ab i r.ring k x=true)∧jV r=true
def ay(ab:List aJ):Prop:=ab.length≤24∧∀i r,ab[i]?=some r→pT ab i r
theorem PV.orN{P:Program}{kv:KV}{w:World}{T U ty:TypeId}{x y:Operand}{p q:Nat}(hx:ev kv x=some (.int .i64 (p:Int))) (hy:ev kv y=some (.int .i64 (q:Int))) (hp:p<2 ^ 62) (hq:q<2 ^ 62) :
  PV P (.binOp .or T x y U) ty kv w (.int .i64 ((p ||| q:Nat):Int)):=by
 refine⟨rfl,by simp [known,opers,hx,hy],fun _ _ _ _=>fC .or (by simp) _ ?_ hx hy⟩;have h:p ||| q<2 ^ 62:=Nat.or_lt_two_pow hp hq
 have e:((BitVec.ofInt (IntKind.bits .i64) (p:Int)) ||| (BitVec.ofInt (IntKind.bits .i64) (q:Int))).toNat=p ||| q:=by
  have hb:IntKind.bits .i64=64:=rfl
  grind
 simp only [Op.intBits,e];rw [sG (by omega) (by omega)]
 rfl
end Go.Rc

namespace Go.Rc
open Go
def abX(z:Int) (r:List Value):Prop:=r=[.int .i64 z]
def Ints(A:Nat→Prop) (w:World) (a:Option Addr) (n c:Nat) (l:List Int):Prop:=SR A w 1 abX a n c l
def JK(A:Nat→Prop) (w:World) (E d:Nat):Prop:=
 ∃(l:List Int) (a:Option Addr) (n c:Nat) (at_:Nat),cJ w d E [.slice a n c,.int .i64 (at_:Int)]∧Ints A w a n c l∧n≤400∧at_≤400
variable {A:Nat→Prop}{w w':World}{E d:Nat}
theorem JK.lt(h:JK A w E d):d<w.heap.size:=by obtain⟨_,_,_,_,_,h,_⟩:=h;exact h.lt
structure Change where
 key:Key
 value:ByteArray
def Change.cells(c:Change):List Value:=[.int .i64 c.key.kind,.string c.key.text,.string c.value]
def Change.small(c:Change):Prop:=(∃n:Int,0≤n∧n≤9∧c.key=eL n)∧c.value.size≤100
end Go.Rc
namespace Go.Rc
open Go
def pU(ab:List aJ) (k:Key):Prop:=(∃n:Int,0≤n∧n≤3∧k=eL n)∨∃i:Nat,i<ab.length∧k=aQ ab i
end Go.Rc

