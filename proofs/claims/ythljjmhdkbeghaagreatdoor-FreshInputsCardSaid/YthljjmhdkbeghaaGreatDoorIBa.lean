/- Base of the proof: frames, memory, ownership, and the plain meaning of rule systems. Conditions: as each lemma says. -/
import Derived.Orders
import Derived.Tactics
import Derived.Below
import Derived.Laws.AppendOwn
import Derived.IntWalk
import Derived.Laws.Strings
import Derived.DataShut
import Derived.Deep.MidRow
set_option linter.unusedVariables false
set_option linter.unusedSimpArgs false
set_option linter.unusedSectionVars false
namespace Go.Rc
open Go
theorem M0 {α:Type _} {a:α} {l:List α}:a∈a::l:=.head _
theorem M1 {α:Type _} {a b0:α} {l:List α}:a∈b0::a::l:=.tail _ M0
theorem M2 {α:Type _} {a b0 b1:α} {l:List α}:a∈b0::b1::a::l:=.tail _ M1
theorem M3 {α:Type _} {a b0 b1 b2:α} {l:List α}:a∈b0::b1::b2::a::l:=.tail _ M2
theorem M4 {α:Type _} {a b0 b1 b2 b3:α} {l:List α}:a∈b0::b1::b2::b3::a::l:=.tail _ M3
theorem M5 {α:Type _} {a b0 b1 b2 b3 b4:α} {l:List α}:a∈b0::b1::b2::b3::b4::a::l:=.tail _ M4
theorem M6 {α:Type _} {a b0 b1 b2 b3 b4 b5:α} {l:List α}:a∈b0::b1::b2::b3::b4::b5::a::l:=.tail _ M5
theorem M7 {α:Type _} {a b0 b1 b2 b3 b4 b5 b6:α} {l:List α}:a∈b0::b1::b2::b3::b4::b5::b6::a::l:=.tail _ M6
theorem M8 {α:Type _} {a b0 b1 b2 b3 b4 b5 b6 b7:α} {l:List α}:a∈b0::b1::b2::b3::b4::b5::b6::b7::a::l:=.tail _ M7
theorem M9 {α:Type _} {a b0 b1 b2 b3 b4 b5 b6 b7 b8:α} {l:List α}:a∈b0::b1::b2::b3::b4::b5::b6::b7::b8::a::l:=.tail _ M8
theorem M10 {α:Type _} {a b0 b1 b2 b3 b4 b5 b6 b7 b8 b9:α} {l:List α}:a∈b0::b1::b2::b3::b4::b5::b6::b7::b8::b9::a::l:=.tail _ M9
theorem M11 {α:Type _} {a b0 b1 b2 b3 b4 b5 b6 b7 b8 b9 b10:α} {l:List α}:a∈b0::b1::b2::b3::b4::b5::b6::b7::b8::b9::b10::a::l:=.tail _ M10
theorem M12 {α:Type _} {a b0 b1 b2 b3 b4 b5 b6 b7 b8 b9 b10 b11:α} {l:List α}:a∈b0::b1::b2::b3::b4::b5::b6::b7::b8::b9::b10::b11::a::l:=.tail _ M11
theorem M13 {α:Type _} {a b0 b1 b2 b3 b4 b5 b6 b7 b8 b9 b10 b11 b12:α} {l:List α}:a∈b0::b1::b2::b3::b4::b5::b6::b7::b8::b9::b10::b11::b12::a::l:=.tail _ M12
theorem M14 {α:Type _} {a b0 b1 b2 b3 b4 b5 b6 b7 b8 b9 b10 b11 b12 b13:α} {l:List α}:a∈b0::b1::b2::b3::b4::b5::b6::b7::b8::b9::b10::b11::b12::b13::a::l:=.tail _ M13
theorem M15 {α:Type _} {a b0 b1 b2 b3 b4 b5 b6 b7 b8 b9 b10 b11 b12 b13 b14:α} {l:List α}:a∈b0::b1::b2::b3::b4::b5::b6::b7::b8::b9::b10::b11::b12::b13::b14::a::l:=.tail _ M14
theorem M16 {α:Type _} {a b0 b1 b2 b3 b4 b5 b6 b7 b8 b9 b10 b11 b12 b13 b14 b15:α} {l:List α}:a∈b0::b1::b2::b3::b4::b5::b6::b7::b8::b9::b10::b11::b12::b13::b14::b15::a::l:=.tail _ M15
theorem M17 {α:Type _} {a b0 b1 b2 b3 b4 b5 b6 b7 b8 b9 b10 b11 b12 b13 b14 b15 b16:α} {l:List α}:a∈b0::b1::b2::b3::b4::b5::b6::b7::b8::b9::b10::b11::b12::b13::b14::b15::b16::a::l:=.tail _ M16
theorem M18 {α:Type _} {a b0 b1 b2 b3 b4 b5 b6 b7 b8 b9 b10 b11 b12 b13 b14 b15 b16 b17:α} {l:List α}:a∈b0::b1::b2::b3::b4::b5::b6::b7::b8::b9::b10::b11::b12::b13::b14::b15::b16::b17::a::l:=.tail _ M17
theorem M19 {α:Type _} {a b0 b1 b2 b3 b4 b5 b6 b7 b8 b9 b10 b11 b12 b13 b14 b15 b16 b17 b18:α} {l:List α}:a∈b0::b1::b2::b3::b4::b5::b6::b7::b8::b9::b10::b11::b12::b13::b14::b15::b16::b17::b18::a::l:=.tail _ M18
theorem M20 {α:Type _} {a b0 b1 b2 b3 b4 b5 b6 b7 b8 b9 b10 b11 b12 b13 b14 b15 b16 b17 b18 b19:α} {l:List α}:a∈b0::b1::b2::b3::b4::b5::b6::b7::b8::b9::b10::b11::b12::b13::b14::b15::b16::b17::b18::b19::a::l:=.tail _ M19
abbrev KV:=List (Nat × Value)
def look:KV→Nat→Option Value
 | [],_=>none
 | (t,v)::r,s=>match Nat.beq t s with
  | true=>some v
  | false=>look r s
def ev (kv:KV):Operand→Option Value
 | .tmp t=>look kv t
 | .const v=>some v
 | .global g=>some (.pointer (some ⟨g,0,none⟩))
 | .func f=>some (.func (.func f) #[] #[])
def upd (kv:KV):Option Tmp→Value→KV
 | some d,v=>(d,v)::kv
 | none,_=>kv
structure Fr (n:Nat) (a:Act) (kv:KV):Prop where
 size:a.tmps.size=n
 nod:a.defers=[]
 val:∀t v,look kv t=some v→a.tmps.getD t undef=v
theorem Fr.eval {n:Nat} {a:Act} {kv:KV} (h:Fr n a kv) {x:Operand} {v:Value} (hx:ev kv x=some v):a.eval x=v:=by
 cases x with
 | tmp t=>exact h.val t v hx
 | const u=>simpa [ev,Act.eval] using hx
 | global g=>simpa [ev,Act.eval] using hx
 | func f=>simpa [ev,Act.eval] using hx
def dstOk (n:Nat):Option Tmp→Bool
 | some d=>Nat.blt d n
 | none=>true
theorem Fr.put {n:Nat} {a:Act} {kv:KV} (h:Fr n a kv) {dst:Option Tmp} (hd:dstOk n dst=true) (v:Value):Fr n (a.put dst v) (upd kv dst v):=by
 cases dst with
 | none=>exact h
 | some d=>
  refine ⟨by simp [Act.put,h.size],h.nod,fun t u hu=>?_⟩
  have hdn:d<n:=by simp only [dstOk,Nat.blt] at hd;exact Nat.le_of_ble_eq_true hd
  simp only [upd,look] at hu
  by_cases hdt:d=t
  ·
   subst hdt
   simp at hu
   subst hu
   simp [Act.put,h.size,hdn]
  have hb:Nat.beq d t=false:=Bool.eq_false_iff.2 fun e=>hdt (Nat.eq_of_beq_eq_true e)
  rw [hb] at hu
  have:=h.val t u hu
  simp only [Act.put];rw [← this]
  simp [Array.getElem?_setIfInBounds_ne hdt]
def outc (P:Program) (r:Result Next) (R:Value→World→Prop):Prop:=
 match r with
 | .ok (.value v) w=>R v w
 | .ok .skip w=>R undef w
 | .ok (.enter f args) w=>Calls P f args w fun e w'=>∃v,e=.returned v∧R v w'
 | _=>False
theorem outc.mono {P:Program} {r:Result Next} {R R':Value→World→Prop} (h:outc P r R) (hr:∀v w,R v w→R' v w):outc P r R':=by
 unfold outc at *
 split at h
 ·
  exact hr _ _ h
 ·
  exact hr _ _ h
 ·
  exact h.mono fun e w' ⟨v,he,hR⟩=>⟨v,he,hr _ _ hR⟩
 exact h.elim
theorem outc_upon {P:Program} {o:Oper} {a:Act} {K:Act→World→Prop} {Q:Exit→Act→World→Prop} {r:Result Next} {R:Value→World→Prop}
  (h:outc P r R) (hk:∀v w,R v w→K (a.put o.dst v) w):o.upon P a K Q r:=by
 unfold outc at h
 split at h
 ·
  exact hk _ _ h
 ·
  exact hk _ _ h
 ·
  refine h.mono fun e w' ⟨v,he,hR⟩=>?_;subst he;exact hk _ _ hR
 exact h.elim
theorem outc.exists {P:Program} {r:Result Next} {R:Value→World→Prop} (h:outc P r R):∃v w,R v w:=by
 unfold outc at h
 split at h
 ·
  exact ⟨_,_,h⟩
 ·
  exact ⟨_,_,h⟩
 ·
  obtain ⟨e,w',fr,⟨v,he,hR⟩,_⟩:=h [];exact ⟨v,w',hR⟩
 exact h.elim
def opers:Op→List Operand
 | .alloc _ | .ready _ | .waits _=>[]
 | .move x | .assign x | .box _ x | .load _ x | .nilCheck x | .unOp _ _ x | .convert _ _ x | .sliceToArrayPointer _ x | .makeInterface _ x
 | .makeChan _ x | .fieldAddr _ x _ | .field _ x _ | .range _ x | .next x _ | .entry x | .typeAssert x _ _ _ | .extract x _ | .panic x | .recv _ x _=>[x]
 | .pick c a b=>[c,a,b]
 | .build _ ps | .buildSlice _ _ ps=>ps.toList.map (·.2)
 | .store _ a v | .binOp _ _ a v _ | .makeSlice _ a v | .indexAddr _ a v | .index _ a v | .lookup _ a v _ | .mapEntry _ a v | .send a v=>[a,v]
 | .makeFunc _ first captured=>first.toList++captured.toList
 | .makeMap _ r=>r.toList
 | .slice _ x l h m=>x::(l.toList++h.toList++m.toList)
 | .mapUpdate _ m k v | .entryStore _ m k v | .insert _ m k v=>[m,k,v]
 | .call c | .go c | .defer c=>(match c.callee with | .value f=>[f] | .invoke r _=>[r] | .builtin _=>[])++c.args.toList
 | .select cs _=>(cs.flatMap fun c=>#[c.chan]++c.send.toArray).toList
theorem opers_eq (op:Op):op.operands.toList=opers op:=by
 cases op <;> simp [Op.operands,opers,Call.operands]
 all_goals (rename_i c;cases c.callee <;> simp)
def known (kv:KV) (op:Op):Bool:=(opers op).all fun x=>(ev kv x).isSome
def lkO (kv:KV) (x:Operand):Value:=(ev kv x).getD undef
def isSelect:Op→Bool
 | .select _ _=>true
 | _=>false
theorem Fr.exec {n:Nat} {a:Act} {kv:KV} (h:Fr n a kv) {o:Oper} (hs:isSelect o.op=false) (hk:known kv o.op=true) :
  execOp a.eval o=execOp (lkO kv) o:=by
 refine execOp_congr o (fun cs b e=>by rw [e] at hs;simp [isSelect] at hs) fun x hx=>?_
 have:=(List.all_eq_true.1 hk) x (by rw [← opers_eq];simpa using hx)
 obtain ⟨v,hv⟩:=Option.isSome_iff_exists.1 this;rw [h.eval hv]
 simp [lkO,hv]
/-! ### the judgements -/
def WL (P:Program) (ops:Array Oper) (Q:Exit→Act→World→Prop) (l:List Oper) (n:Nat) (kv:KV) (w:World):Prop:=
 ∀a,Fr n a kv→wpList P ops Q l a w
def WC (P:Program) (c:Code) (Q:Exit→Act→World→Prop) (n:Nat) (kv:KV) (w:World):Prop:=
 ∀a,Fr n a kv→c.wp P Q a w
def EX (Q:Exit→Act→World→Prop) (e:Exit) (n:Nat) (kv:KV) (w:World):Prop:=
 ∀a,Fr n a kv→Q e a w
def OX (P:Program) (o:Oper) (n:Nat) (kv:KV) (w:World) (K:KV→World→Prop):Prop:=
 isSelect o.op=false∧dstOk n o.dst=true∧known kv o.op=true∧outc P ((execOp (lkO kv) o).run P w) fun v w'=>K (upd kv o.dst v) w'
def gd (ops:Array Oper) (kv:KV) (o:Oper):Option Bool:=
 match o.guard with
 | none=>some true
 | some (j,b)=>match ((ops[j]?).bind (·.dst)).bind (look kv) with
  | some (.bool c)=>some (c == b)
  | some (.tuple _)=>some false
  | _=>none
theorem Fr.wanted {n:Nat} {a:Act} {kv:KV} (h:Fr n a kv) {ops:Array Oper} {o:Oper} {b:Bool} (hg:gd ops kv o=some b) :
  Region.wanted o (yielded ops a.tmps)=b:=by
 unfold gd at hg
 unfold Region.wanted
 split at hg
 ·
  rename_i hgu;rw [hgu];simpa using hg
 rename_i j c hgu
 rw [hgu]
 simp only
 split at hg
 ·
  rename_i d hd
  have hyl:yielded ops a.tmps j=some d:=by
   unfold yielded
   cases ht:(ops[j]?).bind (·.dst) with
   | none=>rw [ht] at hd;simp at hd
   | some t=>
    rw [ht] at hd;simp only [Option.bind_some] at hd ⊢;have hv:=h.val t _ hd
    by_cases hlt:t<a.tmps.size
    ·
     simp [Array.getD,hlt] at hv
     simp [hlt,hv]
    simp [Array.getD,hlt,undef] at hv
  rw [hyl]
  have hb:(d == c)=b:=by simpa using hg
  rw [← hb]
  cases d <;> cases c <;> rfl
 ·
  rename_i d hd
  have hyl:yielded ops a.tmps j=none:=by
   unfold yielded
   cases ht:(ops[j]?).bind (·.dst) with
   | none=>rfl
   | some t=>
    rw [ht] at hd;simp only [Option.bind_some] at hd ⊢;have hv:=h.val t _ hd
    by_cases hlt:t<a.tmps.size
    ·
     simp [Array.getD,hlt] at hv
     simp [hlt,hv]
    simp [hlt]
  rw [hyl]
  have hb:false=b:=by simpa using hg
  rw [← hb]
  cases c <;> rfl
 cases hg
section
variable {P:Program} {ops:Array Oper} {Q:Exit→Act→World→Prop} {n:Nat} {kv:KV} {w:World} {rest:List Oper} {o:Oper}
theorem WL.go (hg:gd ops kv o=some true) (h:OX P o n kv w fun kv' w'=>WL P ops Q rest n kv' w'):WL P ops Q (o::rest) n kv w:=by
 intro a hF;obtain ⟨hs,hd,hk,ho⟩:=h
 unfold wpList
 rw [if_pos (hF.wanted hg)];refine .inl ?_
 unfold Oper.wp
 rw [hF.exec hs hk]
 exact outc_upon ho fun v w' h'=>h' _ (hF.put hd v)
theorem WL.no (hg:gd ops kv o=some false) (hd:dstOk n o.dst=true) (h:WL P ops Q rest n (upd kv o.dst undef) w):WL P ops Q (o::rest) n kv w:=by
 intro a hF
 unfold wpList
 rw [if_neg (by rw [hF.wanted hg];simp)];exact h _ (hF.put hd undef)
theorem WL.nil (h:EX Q .normal n kv w):WL P ops Q [] n kv w:=h
theorem WC.region {id:Nat} {l:List Oper} (h:WL P l.toArray Q l n kv w):WC P (.region id l.toArray false) Q n kv w:=
 fun a hF=>wp_region_lit (h a hF)
theorem WC.seq {x y:Code} (h:WC P x (Exit.then (y.wp P Q) Q) n kv w):WC P (.seq x y) Q n kv w:=fun a hF=>wp_seq (h a hF)
theorem WC.skip (h:EX Q .normal n kv w):WC P .skip Q n kv w:=fun a hF=>wp_skip (h a hF)
theorem WC.exit {id:Nat} (h:EX Q (.exit id) n kv w):WC P (.exit id) Q n kv w:=fun a hF=>wp_exit (h a hF)
theorem WC.ret (h:EX Q .ret n kv w):WC P .ret Q n kv w:=fun a hF=>wp_ret (h a hF)
theorem WC.block {id:Nat} {c:Code} (h:WC P c (Exit.inBlock id Q) n kv w):WC P (.block id c) Q n kv w:=fun a hF=>wp_block (h a hF)
theorem WC.condT {c:Operand} {x y:Code} (hc:ev kv c=some (.bool true)) (h:WC P x Q n kv w):WC P (.cond c x y) Q n kv w:=fun a hF=>wp_cond (hF.eval hc) (h a hF)
theorem WC.condF {c:Operand} {x y:Code} (hc:ev kv c=some (.bool false)) (h:WC P y Q n kv w):WC P (.cond c x y) Q n kv w:=fun a hF=>wp_cond (hF.eval hc) (h a hF)
theorem WC.cond {c:Operand} {x y:Code} {b:Bool} (hc:ev kv c=some (.bool b)) (ht:b=true→WC P x Q n kv w) (hf:b=false→WC P y Q n kv w) :
  WC P (.cond c x y) Q n kv w:=by
 cases b
 ·
  exact WC.condF hc (hf rfl)
 exact WC.condT hc (ht rfl)
/-! leaving by the layers -/
theorem EX.seqN {y:Code} (h:WC P y Q n kv w):EX (Exit.then (y.wp P Q) Q) .normal n kv w:=h
theorem EX.thenX {N:Act→World→Prop} {id:Nat} (h:EX Q (.exit id) n kv w):EX (Exit.then N Q) (.exit id) n kv w:=h
theorem EX.thenR {N:Act→World→Prop} (h:EX Q .ret n kv w):EX (Exit.then N Q) .ret n kv w:=h
theorem EX.blkN {id:Nat} (h:EX Q .normal n kv w):EX (Exit.inBlock id Q) .normal n kv w:=h
theorem EX.blkR {id:Nat} (h:EX Q .ret n kv w):EX (Exit.inBlock id Q) .ret n kv w:=h
theorem EX.blkX {id:Nat} (h:EX Q .normal n kv w):EX (Exit.inBlock id Q) (.exit id) n kv w:=fun a hF=>by
 simp only [Exit.inBlock,if_true];exact h a hF
def Sub (kv:KV):KV→Prop
 | []=>True
 | (t,v)::r=>look kv t=some v∧Sub kv r
theorem Sub.look {kv kv':KV} (h:Sub kv kv'):∀t v,look kv' t=some v→look kv t=some v:=by
 induction kv' with
 | nil=>intro t v hv;simp [Rc.look] at hv
 | cons p r ih=>
  obtain ⟨s,u⟩:=p;intro t v hv;simp only [Rc.look] at hv
  cases hb:Nat.beq s t with
  | true=>
   rw [hb] at hv
   have hst:s=t:=by simpa using hb
   simp at hv
   rw [← hst,← hv];exact h.1
  | false=>rw [hb] at hv;exact ih h.2 t v hv
theorem Fr.sub {a:Act} {kv':KV} (h:Fr n a kv) (hs:Sub kv kv'):Fr n a kv':=⟨h.size,h.nod,fun t v hv=>h.val t v (hs.look t v hv)⟩
theorem WC.cutG {σ:Type} {c:Code} (kv':σ→KV) (J:σ→World→Prop) (h:WC P c (fun e a w'=>e=.normal∧∃s,Fr n a (kv' s)∧J s w') n kv w) (hJ:∀s w',J s w'→EX Q .normal n (kv' s) w') :
  WC P c Q n kv w:=fun a hF=>wp_mono (h a hF) fun e a' w' ⟨he,s,hF',hj⟩=>by subst he;exact hJ s w' hj a' hF'
theorem EX.meetG {σ:Type} {kv':σ→KV} {J:σ→World→Prop} (s:σ) (hs:Sub kv (kv' s)) (hj:J s w):EX (fun e a w'=>e=.normal∧∃s,Fr n a (kv' s)∧J s w') .normal n kv w:=
 fun _ hF=>⟨rfl,s,hF.sub hs,hj⟩
theorem WC.loop {σ:Type} {c:Code} (kvs:σ→KV) (I:σ→World→Prop) (μ:σ→Nat) (s₀:σ) (hs:Sub kv (kvs s₀)) (h₀:I s₀ w)
  (round:∀s w,I s w→WC P c (Exit.then (fun a' w'=>∃s',Fr n a' (kvs s')∧I s' w'∧μ s'<μ s) Q) n (kvs s) w):WC P (.loop c) Q n kv w:=by
 intro a hF b k cs;have key:∀m s a w,μ s=m→I s w→Fr n a (kvs s)→
   ∃e a' w',Q e a' w'∧Arrives P (lone (b.at a (.code c::.inLoop c::k)) cs w) b k cs e a' w':=by
  intro m
  induction m using Nat.strongRecOn with
  | _ m ih=>
   intro s a w hm hI hF;obtain ⟨e,a₁,w₁,hq,harr⟩:=round s w hI a hF b (.inLoop c::k) cs
   cases e with
   | normal=>
    obtain ⟨s',hF',hI',hlt⟩:=hq;obtain ⟨e₂,a₂,w₂,hq₂,harr₂⟩:=ih (μ s') (hm ▸ hlt) s' a₁ w₁ rfl hI' hF';exact ⟨e₂,a₂,w₂,hq₂,.of_steps (Steps.trans harr (.one step_inLoop)) harr₂⟩
   | exit id=>exact ⟨_,a₁,w₁,hq,.pass (x:=.inLoop c) rfl (fun _ _=>.inl (by simp)) harr⟩
   | goto l=>exact ⟨_,a₁,w₁,hq,.pass (x:=.inLoop c) rfl (fun _ _=>.inl (by simp)) harr⟩
   | ret=>exact ⟨_,a₁,w₁,hq,.pass (x:=.inLoop c) rfl (fun _ _=>.inl (by simp)) harr⟩
   | panic ch=>exact ⟨_,a₁,w₁,hq,.pass (x:=.inLoop c) rfl (fun _ _=>.inl (by simp)) harr⟩
   | outgrown=>exact ⟨_,a₁,w₁,hq,.pass (x:=.inLoop c) rfl (fun _ _=>.inl (by simp)) harr⟩
 obtain ⟨e,a',w',hq,harr⟩:=key _ s₀ a w rfl h₀ (hF.sub hs);exact ⟨e,a',w',hq,.of_steps (.one step_loop) harr⟩
theorem EX.again {σ:Type} {kvs:σ→KV} {I:σ→World→Prop} {μ:σ→Nat} {m:Nat} (s':σ) (hs:Sub kv (kvs s')) (hi:I s' w) (hm:μ s'<m) :
  EX (Exit.then (fun a' w'=>∃s',Fr n a' (kvs s')∧I s' w'∧μ s'<m) Q) .normal n kv w:=fun _ hF=>⟨s',hF.sub hs,hi,hm⟩
end
/-! ### a function's beginning and end -/
def kvArgs (k:Nat):List Value→KV
 | []=>[]
 | v::r=>(k,v)::kvArgs (k+1) r
theorem look_kvArgs (l:List Value):∀k t v,look (kvArgs k l) t=some v→k≤t∧l[t - k]?=some v:=by
 induction l with
 | nil=>intro k t v h;simp [kvArgs,look] at h
 | cons x r ih=>
  intro k t v h;simp only [kvArgs,look] at h
  cases hb:Nat.beq k t with
  | true=>
   rw [hb] at h
   have hkt:k=t:=by simpa using hb
   subst hkt
   simp at h
   simp [h]
  | false=>
   rw [hb] at h;obtain ⟨h1,h2⟩:=ih (k+1) t v h;refine ⟨by omega,?_⟩;rw [show t - k=(t - (k+1))+1 by omega]
   simpa using h2
theorem enter {P:Program} {f:FuncId} {fn:Func} {c:Code} {args:List Value} {w:World} {R:Ending→World→Prop} {n:Nat}
  (hf:P.funcs[f]?=some fn) (hb:fn.body=some c) (hn:fn.ntmps=n) (hle:Nat.ble args.length n=true)
  (h:WC P c (bodyPost P fn R) n (kvArgs 0 args) w):Calls P f args.toArray w R:=by
 subst hn
 have hle':args.length≤fn.ntmps:=by simpa using hle
 refine calls_of_wp hf hb (h _ ⟨by simp;omega,rfl,fun t v hv=>?_⟩);obtain ⟨_,h2⟩:=look_kvArgs args 0 t v hv;simp only [Nat.sub_zero] at h2;have hlt:t<args.length:=(List.getElem?_eq_some_iff.1 h2).1;simp only [Array.getD_eq_getD_getElem?];rw [Array.getElem?_append_left (by simpa using hlt)]
 simp [h2]
section
variable {P:Program} {n:Nat} {kv:KV} {w:World} {fn:Func} {R:Ending→World→Prop}
theorem EX.ret0 {e:Exit} (he:e=.ret∨e=.normal) (hr:fn.results=#[]) (h:R (.returned (.tuple #[])) w):EX (bodyPost P fn R) e n kv w:=by
 intro a hF;have hx:a.defers=[]∧∃v,(results fn a.tmps).run P w=.ok v w∧R (.returned v) w:=⟨hF.nod,_,results_none hr _ _ _,h⟩
 rcases he with rfl | rfl <;> exact hx
theorem EX.ret1 {t:Tmp} {v:Value} (hr:fn.results=#[.tmp t]) (hv:look kv t=some v) (h:R (.returned v) w):EX (bodyPost P fn R) .ret n kv w:=
 fun a hF=>⟨hF.nod,v,by rw [results_tmp hr,hF.val t v hv],h⟩
theorem EX.ret2 {t u:Tmp} {v x:Value} (hr:fn.results=#[.tmp t,.tmp u]) (hv:look kv t=some v) (hx:look kv u=some x) (h:R (.returned (.tuple #[v,x])) w):EX (bodyPost P fn R) .ret n kv w:=
 fun a hF=>⟨hF.nod,_,by rw [results_tmp2 hr,hF.val t v hv,hF.val u x hx],h⟩
end
end Go.Rc

namespace Go.Rc
open Go
theorem lkO_of {kv:KV} {x:Operand} {v:Value} (h:ev kv x=some v):lkO kv x=v:=by simp [lkO,h]
section
variable {P:Program} {n:Nat} {kv:KV} {w:World} {K:KV→World→Prop}
variable {d:Tmp} {ty:TypeId} {pos:String} {af:Array Edge} {g:Option (Nat × Bool)}
def PV (P:Program) (op:Op) (ty:TypeId) (kv:KV) (w:World) (v:Value):Prop:=
 isSelect op=false∧known kv op=true∧∀d pos af g,(execOp (lkO kv) ⟨d,op,ty,pos,af,g⟩).run P w=.ok (.value v) w
theorem WL.p {ops:Array Oper} {Q:Exit→Act→World→Prop} {rest:List Oper} {op:Op} {v:Value} (hg:gd ops kv ⟨some d,op,ty,pos,af,g⟩=some true) (hd:Nat.blt d n=true) (h:PV P op ty kv w v)
  (next:WL P ops Q rest n ((d,v)::kv) w):WL P ops Q (⟨some d,op,ty,pos,af,g⟩::rest) n kv w:=
 WL.go hg ⟨h.1,hd,h.2.1,by rw [h.2.2];exact next⟩
theorem PV.mv {x:Operand} {v:Value} (hx:ev kv x=some v) :PV P (.move x) ty kv w (v):=
 ⟨rfl,(by simp [known,opers,hx]),fun _ _ _ _=>by simp only [execOp,lkO_of hx];rfl⟩
theorem PV.as {x:Operand} {v:Value} (hx:ev kv x=some v) :PV P (.assign x) ty kv w (v):=
 ⟨rfl,(by simp [known,opers,hx]),fun _ _ _ _=>by simp only [execOp,lkO_of hx];rfl⟩
theorem PV.pickT {c x y:Operand} {v u:Value} (hc:ev kv c=some (.bool true)) (hx:ev kv x=some v) (hy:ev kv y=some u) :PV P (.pick c x y) ty kv w (v):=
 ⟨rfl,(by simp [known,opers,hc,hx,hy]),fun _ _ _ _=>by simp only [execOp,lkO_of hx,lkO_of hc];rfl⟩
theorem PV.pickF {c x y:Operand} {v u:Value} (hc:ev kv c=some (.bool false)) (hx:ev kv x=some v) (hy:ev kv y=some u) :PV P (.pick c x y) ty kv w (u):=
 ⟨rfl,(by simp [known,opers,hc,hx,hy]),fun _ _ _ _=>by simp only [execOp,lkO_of hy,lkO_of hc];rfl⟩
/-! integers -/
section
variable {T U:TypeId} {x y:Operand} {k:IntKind} {p q:Int}
theorem run_binInt {d:Option Tmp} {ty:TypeId} {pos:String} {af:Array Edge} {g:Option (Nat × Bool)} (op:BinOp) (hsh:op≠.shl∧op≠.shr) (v:Value)
  (h:(match op with
  | .add | .sub | .mul=>Op.intArith op k p q
  | .quo | .rem=>Op.intDiv op k p q
  | .and | .or | .xor | .andNot=>Op.intBits op k p q
  | _=>Op.intCmp op p q:Sem Value).run P w=.ok v w) (hx:ev kv x=some (.int k p)) (hy:ev kv y=some (.int k q)) :
  (execOp (lkO kv) ⟨d,.binOp op T x y U,ty,pos,af,g⟩).run P w=.ok (.value v) w:=by
 simp only [execOp,lkO_of hx,lkO_of hy];obtain ⟨h1,h2⟩:=hsh
 cases op <;> first | exact absurd rfl h1 | exact absurd rfl h2 | simp_all [eqGuard,binOp]
theorem PV.lss (hx:ev kv x=some (.int k p)) (hy:ev kv y=some (.int k q)) :PV P (.binOp .lss T x y U) ty kv w (.bool (decide (p<q))):=
 ⟨rfl,(by simp [known,opers,hx,hy]),fun _ _ _ _=>run_binInt .lss (by simp) _ rfl hx hy⟩
theorem PV.leq (hx:ev kv x=some (.int k p)) (hy:ev kv y=some (.int k q)) :PV P (.binOp .leq T x y U) ty kv w (.bool (decide (p≤q))):=
 ⟨rfl,(by simp [known,opers,hx,hy]),fun _ _ _ _=>run_binInt .leq (by simp) _ rfl hx hy⟩
theorem PV.gtr (hx:ev kv x=some (.int k p)) (hy:ev kv y=some (.int k q)) :PV P (.binOp .gtr T x y U) ty kv w (.bool (decide (q<p))):=
 ⟨rfl,(by simp [known,opers,hx,hy]),fun _ _ _ _=>run_binInt .gtr (by simp) _ rfl hx hy⟩
theorem PV.geq (hx:ev kv x=some (.int k p)) (hy:ev kv y=some (.int k q)) :PV P (.binOp .geq T x y U) ty kv w (.bool (decide (q≤p))):=
 ⟨rfl,(by simp [known,opers,hx,hy]),fun _ _ _ _=>run_binInt .geq (by simp) _ rfl hx hy⟩
theorem PV.eqi (hx:ev kv x=some (.int k p)) (hy:ev kv y=some (.int k q)) :PV P (.binOp .eql T x y U) ty kv w (.bool (decide (p=q))):=
 ⟨rfl,(by simp [known,opers,hx,hy]),fun _ _ _ _=>run_binInt .eql (by simp) _ (by
  have:(p == q)=decide (p=q):=by by_cases e:p=q <;> simp [e]
  simp only [Op.intCmp,this];rfl) hx hy⟩
theorem PV.nei (hx:ev kv x=some (.int k p)) (hy:ev kv y=some (.int k q)) :PV P (.binOp .neq T x y U) ty kv w (.bool (decide (p≠q))):=
 ⟨rfl,(by simp [known,opers,hx,hy]),fun _ _ _ _=>run_binInt .neq (by simp) _ (by
  have:(p != q)=decide (p≠q):=by by_cases e:p=q <;> simp [e]
  simp only [Op.intCmp,this];rfl) hx hy⟩
theorem wrap_id {r:Int} (h1:-9223372036854775808≤r) (h2:r≤9223372036854775807):IntKind.i64.wrap r=r:=by
 exact IntWalk.i64_in _ (by omega)
theorem PV.add (hx:ev kv x=some (.int .i64 p)) (hy:ev kv y=some (.int .i64 q)) (h1:-9223372036854775808≤p+q) (h2:p+q≤9223372036854775807)
   : PV P (.binOp .add T x y U) ty kv w (.int .i64 (p+q)):=
 ⟨rfl,(by simp [known,opers,hx,hy]),fun _ _ _ _=>run_binInt .add (by simp) _ (by simp only [Op.intArith,wrap_id h1 h2];rfl) hx hy⟩
theorem PV.sub (hx:ev kv x=some (.int .i64 p)) (hy:ev kv y=some (.int .i64 q)) (h1:-9223372036854775808≤p - q) (h2:p - q≤9223372036854775807)
   : PV P (.binOp .sub T x y U) ty kv w (.int .i64 (p - q)):=
 ⟨rfl,(by simp [known,opers,hx,hy]),fun _ _ _ _=>run_binInt .sub (by simp) _ (by simp only [Op.intArith,wrap_id h1 h2];rfl) hx hy⟩
theorem PV.mul (hx:ev kv x=some (.int .i64 p)) (hy:ev kv y=some (.int .i64 q)) (h1:-9223372036854775808≤p*q) (h2:p*q≤9223372036854775807)
   : PV P (.binOp .mul T x y U) ty kv w (.int .i64 (p*q)):=
 ⟨rfl,(by simp [known,opers,hx,hy]),fun _ _ _ _=>run_binInt .mul (by simp) _ (by simp only [Op.intArith,wrap_id h1 h2];rfl) hx hy⟩
theorem PV.rem (hx:ev kv x=some (.int k p)) (hy:ev kv y=some (.int k q)) (h0:q≠0)
   : PV P (.binOp .rem T x y U) ty kv w (.int k (p.tmod q)):=
 ⟨rfl,(by simp [known,opers,hx,hy]),fun _ _ _ _=>run_binInt .rem (by simp) _ (by simp only [Op.intDiv,if_neg h0];rfl) hx hy⟩
theorem PV.quo (hx:ev kv x=some (.int .i64 p)) (hy:ev kv y=some (.int .i64 q)) (h0:q≠0) (h1:-9223372036854775808≤p.tdiv q) (h2:p.tdiv q≤9223372036854775807)
   : PV P (.binOp .quo T x y U) ty kv w (.int .i64 (p.tdiv q)):=
 ⟨rfl,(by simp [known,opers,hx,hy]),fun _ _ _ _=>run_binInt .quo (by simp) _ (by simp only [Op.intDiv,if_neg h0,wrap_id h1 h2];rfl) hx hy⟩
end
theorem PV.not {T:TypeId} {x:Operand} {b:Bool} (hx:ev kv x=some (.bool b)) :PV P (.unOp .not T x) ty kv w (.bool (!b)):=
 ⟨rfl,(by simp [known,opers,hx]),fun _ _ _ _=>by simp only [execOp,lkO_of hx];rfl⟩
theorem PV.ext {x:Operand} {vs:Array Value} {i:Nat} {v:Value} (hx:ev kv x=some (.tuple vs)) (hi:vs[i]?=some v) :PV P (.extract x i) ty kv w (v):=
 ⟨rfl,(by simp [known,opers,hx]),fun _ _ _ _=>by simp only [execOp,lkO_of hx,Instr.extract,hi];rfl⟩
theorem PV.nilc {x:Operand} {a:Addr} (hx:ev kv x=some (.pointer (some a))) :PV P (.nilCheck x) ty kv w (.pointer (some a)):=
 ⟨rfl,(by simp [known,opers,hx]),fun _ _ _ _=>by simp only [execOp,lkO_of hx];rfl⟩
/-! strings -/
section
variable {T U:TypeId} {x y:Operand} {p q:ByteArray}
theorem PV.eqs (hx:ev kv x=some (.string p)) (hy:ev kv y=some (.string q)) :PV P (.binOp .eql T x y U) ty kv w (.bool (decide (p=q))):=
 ⟨rfl,(by simp [known,opers,hx,hy]),fun _ _ _ _=>by
  have:(p.toList == q.toList)=decide (p=q):=by
   by_cases e:p=q
   ·
    simp [e]
   have:p.toList≠q.toList:=fun h=>e (ByteArray.ext (Array.toList_inj.1 (by rw [← ByteArray.toList_eq,← ByteArray.toList_eq];exact h)))
   simp [e,this]
  simp only [execOp,lkO_of hx,lkO_of hy,eqGuard,binOp,Op.stringOp,this]
  rfl⟩
theorem PV.nes (hx:ev kv x=some (.string p)) (hy:ev kv y=some (.string q)) :PV P (.binOp .neq T x y U) ty kv w (.bool (decide (p≠q))):=
 ⟨rfl,(by simp [known,opers,hx,hy]),fun _ _ _ _=>by
  have:(p.toList == q.toList)=decide (p=q):=by
   by_cases e:p=q
   ·
    simp [e]
   have:p.toList≠q.toList:=fun h=>e (ByteArray.ext (Array.toList_inj.1 (by rw [← ByteArray.toList_eq,← ByteArray.toList_eq];exact h)))
   simp [e,this]
  have h2:(!decide (p=q))=decide (p≠q):=by simp
  simp only [execOp,lkO_of hx,lkO_of hy,eqGuard,binOp,Op.stringOp,this,h2]
  rfl⟩
theorem PV.cat (hx:ev kv x=some (.string p)) (hy:ev kv y=some (.string q)) (hs:p.size+q.size≤9223372036854775807) :PV P (.binOp .add T x y U) ty kv w (.string (p++q)):=
 ⟨rfl,(by simp [known,opers,hx,hy]),fun _ _ _ _=>by
  have hm:¬(((p.size+q.size:Nat):Int) > IntKind.i64.max):=by rw [IntKind.max_i64];omega
  simp only [execOp,lkO_of hx,lkO_of hy,eqGuard,binOp,Op.stringOp,if_neg hm]
  rfl⟩
theorem PV.lenS (hT:P.underlying T=some .string) (hx:ev kv x=some (.string p)) :PV P (.call {callee:=.builtin .len,args:=#[x],argTypes:=#[T]}) ty kv w (.int .i64 (p.size:Int)):=
 ⟨rfl,(by simp [known,opers,hx]),fun _ _ _ _=>by
  simp [execOp,lkO_of hx,resolve,invoke,builtin,Builtin.len_,run_underlying hT,goInt]⟩
end
theorem PV.len {T E:TypeId} {x:Operand} {a:Option Addr} {m c:Nat} (hT:P.underlying T=some (.slice E)) (hx:ev kv x=some (.slice a m c)) :PV P (.call {callee:=.builtin .len,args:=#[x],argTypes:=#[T]}) ty kv w (.int .i64 (m:Int)):=
 ⟨rfl,(by simp [known,opers,hx]),fun _ _ _ _=>by
  simp [execOp,lkO_of hx,resolve,invoke,builtin,Builtin.len_,run_underlying hT,goInt]⟩
end
end Go.Rc

namespace Go.Rc
open Go
structure Chg (S:List Nat) (w w':World):Prop where
 os:w'.os=w.os
 tape:w'.tape=w.tape
 output:w'.output=w.output
 size:w.heap.size≤w'.heap.size
 drawn:w.drawn≤w'.drawn
 block:∀k,k<w.heap.size→k∉S→w'.heap[k]?=w.heap[k]?
theorem Chg.refl (S:List Nat) (w:World):Chg S w w:=⟨rfl,rfl,rfl,Nat.le_refl _,Nat.le_refl _,fun _ _ _=>rfl⟩
theorem Chg.trans {S:List Nat} {a b c:World} (h:Chg S a b) (k:Chg S b c):Chg S a c:=
 ⟨k.os.trans h.os,k.tape.trans h.tape,k.output.trans h.output,Nat.le_trans h.size k.size,Nat.le_trans h.drawn k.drawn,
  fun i hi hS=>(k.block i (Nat.lt_of_lt_of_le hi h.size) hS).trans (h.block i hi hS)⟩
theorem Chg.trans' {S S':List Nat} {a b c:World} (h:Chg S a b) (k:Chg S' b c) (hS:∀x,x∈S'→x∈S∨a.heap.size≤x):Chg S a c:=
 ⟨k.os.trans h.os,k.tape.trans h.tape,k.output.trans h.output,Nat.le_trans h.size k.size,Nat.le_trans h.drawn k.drawn,
  fun i hi hn=>(k.block i (Nat.lt_of_lt_of_le hi h.size) (fun hm=>by rcases hS i hm with h | h;exact hn h;omega)).trans (h.block i hi hn)⟩
theorem Chg.mono {S S':List Nat} {a b:World} (h:Chg S a b) (hS:∀x,x∈S→x∈S'):Chg S' a b:=
 ⟨h.os,h.tape,h.output,h.size,h.drawn,fun i hi hn=>h.block i hi fun hm=>hn (hS i hm)⟩
theorem Chg.nil {S:List Nat} {a b:World} (h:Chg [] a b):Chg S a b:=h.mono (by simp)
theorem Chg.get {S:List Nat} {a b:World} (h:Chg S a b) {k:Nat} {o:Obj} (hk:a.heap[k]?=some o) (hS:k∉S):b.heap[k]?=some o:=by
 rw [h.block k (Array.getElem?_eq_some_iff.1 hk).1 hS,hk]
theorem Chg.drew (S:List Nat) (w:World):Chg S w {w with drawn:=w.drawn+1}:=⟨rfl,rfl,rfl,Nat.le_refl _,Nat.le_succ _,fun _ _ _=>rfl⟩
def Blk (w:World) (b:Nat) (e:TypeId) (l:List Value):Prop:=w.heap[b]?=some (.cells l.toArray e (0,0))
theorem Blk.lt {w:World} {b:Nat} {e:TypeId} {l:List Value} (h:Blk w b e l):b<w.heap.size:=(Array.getElem?_eq_some_iff.1 h).1
theorem Blk.chg {S:List Nat} {w w':World} {b:Nat} {e:TypeId} {l:List Value} (h:Blk w b e l) (c:Chg S w w') (hS:b∉S):Blk w' b e l:=c.get h hS
theorem Blk.ext {w w':World} {b:Nat} {e:TypeId} {l:List Value} (h:Blk w b e l) (c:Chg [] w w'):Blk w' b e l:=c.get h (by simp)
theorem Blk.range {w:World} {b:Nat} {e:TypeId} {l:List Value} (h:Blk w b e l):w.rangeAt b 0 l:=fun j v hv=>by
 have h':w.heap[b]?=some (.cells l.toArray e (0,0)):=h;simp only [World.cell?,h',Nat.zero_add]
 simpa using hv
theorem range_chg {S:List Nat} {w w':World} {b o:Nat} {cs:List Value} (h:w.rangeAt b o cs) (c:Chg S w w') (hS:b∉S):w'.rangeAt b o cs:=fun j v hv=>by
 have h1:=h j v hv;have hb:b<w.heap.size:=World.block_lt_of_cell? w _ h1;rw [← h1];exact World.cell?_of_block (a:=⟨b,o+j,none⟩) (c.block b hb hS)
theorem range_part {w:World} {b o:Nat} {cs:List Value} (h:w.rangeAt b o cs) (j:Nat) (us:List Value) (hu:∀i v,us[i]?=some v→cs[j+i]?=some v):w.rangeAt b (o+j) us:=fun i v hv=>by
 rw [Nat.add_assoc];exact h (j+i) v (hu i v hv)
def nth:List Value→Nat→Option Value
 | [],_=>none
 | v::_,0=>some v
 | _::r,i+1=>nth r i
theorem nth_eq (l:List Value):∀i,nth l i=l[i]?:=by
 induction l with
 | nil=>intro i;simp [nth]
 | cons v r ih=>intro i;cases i <;> simp [nth,ih]
def setN:List Value→Nat→Value→List Value
 | [],_,_=>[]
 | _::r,0,u=>u::r
 | v::r,i+1,u=>v::setN r i u
theorem setN_eq (l:List Value) (u:Value):∀i,setN l i u=l.set i u:=by
 induction l with
 | nil=>intro i;simp [setN]
 | cons v r ih=>intro i;cases i <;> simp [setN,ih]
section
variable {P:Program} {n:Nat} {kv:KV} {w:World} {K:KV→World→Prop}
variable {d:Tmp} {ty:TypeId} {pos:String} {af:Array Edge} {g:Option (Nat × Bool)} {T:TypeId}
def One (P:Program) (T:TypeId):Prop:=∀w,(isAgg T).run P w=.ok false w
def Agg (P:Program) (T:TypeId) (k:Nat):Prop:=(∃fs,P.underlying T=some (.struct fs))∧(P.info? T).map (·.size)=some k
theorem Agg.row {k:Nat} (h:Agg P T k):∃de,P.underlying T=some de∧de.isRow=true:=by
 obtain ⟨⟨fs,h⟩,_⟩:=h;exact ⟨_,h,rfl⟩
theorem Addr.add_at (b o j:Nat):(⟨b,o,none⟩:Addr).add j=⟨b,o+j,none⟩:=Addr.add_mid b o j
/-! ### loads -/
theorem run_ld1 (hT:One P T) {b o:Nat} {v:Value} (hc:w.cell? ⟨b,o,none⟩=some v):(Instr.loadAt T (.pointer (some ⟨b,o,none⟩))).run P w=.ok v w:=by
 simp only [Instr.loadAt,Instr.sureAddr,Sem.run_bind,Sem.run_pure,Result.andThen_ok,loadVar,hT w,Bool.false_eq_true,if_false]
 simp [load,Sem.run,hc]
theorem PV.ld1 (hT:One P T) {x:Operand} {b o j:Nat} {vs:List Value} {v:Value} (hc:w.rangeAt b o vs) (hx:ev kv x=some (.pointer (some ⟨b,o+j,none⟩))) (hv:nth vs j=some v)
   : PV P (.load T x) ty kv w (v):=
 ⟨rfl,(by simp [known,opers,hx]),fun _ _ _ _=>by simp only [execOp,lkO_of hx,Sem.run_bind,run_ld1 hT (hc j v (by rw [← nth_eq];exact hv)),Result.andThen_ok];rfl⟩
theorem PV.ld0 (hT:One P T) {x:Operand} {b o:Nat} {vs:List Value} {v:Value} (hc:w.rangeAt b o vs) (hx:ev kv x=some (.pointer (some ⟨b,o,none⟩))) (hv:nth vs 0=some v)
   : PV P (.load T x) ty kv w (v):=
 ⟨rfl,(by simp [known,opers,hx]),fun _ _ _ _=>by simp only [execOp,lkO_of hx,Sem.run_bind,run_ld1 hT (show w.cell? ⟨b,o,none⟩=some v from hc 0 v (by rw [← nth_eq];exact hv)),Result.andThen_ok];rfl⟩
theorem PV.ldA {k:Nat} (hT:Agg P T k) {x:Operand} {b o:Nat} {vs:List Value} (hc:w.rangeAt b o vs) (hl:vs.length=k) (hx:ev kv x=some (.pointer (some ⟨b,o,none⟩))) :
  PV P (.load T x) ty kv w (.agg vs.toArray):=by
 obtain ⟨de,hu,hr⟩:=hT.row;exact ⟨rfl,by simp [known,opers,hx],fun _ _ _ _=>by simp only [execOp,lkO_of hx,Sem.run_bind,run_loadAt_mid w b o T vs de hc hu hr (by rw [hT.2,hl]),Result.andThen_ok];rfl⟩
def seg (vs:List Value):Nat→Nat→Option (List Value)
 | _,0=>some []
 | j,k+1=>match nth vs j with
  | none=>none
  | some v=>match seg vs (j+1) k with
   | none=>none
   | some r=>some (v::r)
theorem seg_spec (vs:List Value):∀(k j:Nat) (us:List Value),seg vs j k=some us→us.length=k∧∀i v,us[i]?=some v→vs[j+i]?=some v:=by
 intro k
 induction k with
 | zero=>intro j us h;simp only [seg,Option.some.injEq] at h;subst h;simp
 | succ k ih=>
  intro j us h;simp only [seg] at h
  split at h
  ·
   cases h
  rename_i v hv
  split at h
  ·
   cases h
  rename_i r hr
  simp only [Option.some.injEq] at h;subst h;obtain ⟨h1,h2⟩:=ih (j+1) r hr;refine ⟨by simp [h1],fun i u hu=>?_⟩
  cases i with
  | zero=>rw [nth_eq] at hv;simp at hu;subst hu;simpa using hv
  | succ i=>have:=h2 i u (by simpa using hu);rwa [show j+(i+1)=j+1+i by omega]
theorem PV.ldM {k j:Nat} (hT:Agg P T k) {x:Operand} {b o:Nat} {vs us:List Value} (hc:w.rangeAt b o vs) (hx:ev kv x=some (.pointer (some ⟨b,o+j,none⟩))) (hs:seg vs j k=some us) :
  PV P (.load T x) ty kv w (.agg us.toArray):=
 PV.ldA hT (range_part hc j us (seg_spec vs k j us hs).2) (seg_spec vs k j us hs).1 hx
/-! ### addresses -/
def FA (P:Program) (T:TypeId) (f off:Nat):Prop:=∀(b o:Nat) (w:World),(Instr.fieldAt T (.pointer (some ⟨b,o,none⟩)) f).run P w=.ok (.pointer (some ⟨b,o+off,none⟩)) w
theorem PV.fa {f off:Nat} (hT:FA P T f off) {x:Operand} {b o:Nat} (hx:ev kv x=some (.pointer (some ⟨b,o,none⟩))) :
  PV P (.fieldAddr T x f) ty kv w (.pointer (some ⟨b,o+off,none⟩)):=
 ⟨rfl,by simp [known,opers,hx],fun _ _ _ _=>by simp only [execOp,lkO_of hx,Sem.run_bind,hT b o w,Result.andThen_ok];rfl⟩
structure SlT (P:Program) (T E k:Nat):Prop where
 und:P.underlying T=some (.slice E)
 size:∀w,(sizeOf E).run P w=.ok k w
theorem PV.ix {E k:Nat} (hT:SlT P T E k) {x y:Operand} {b o m c i:Nat} (hx:ev kv x=some (.slice (some ⟨b,o,none⟩) m c)) (hy:ev kv y=some (.int .i64 (i:Int))) (hi:i<m)
   : PV P (.indexAddr T x y) ty kv w (.pointer (some ⟨b,o+i*k,none⟩)):=
 ⟨rfl,(by simp [known,opers,hx,hy]),fun _ _ _ _=>by
  simp only [execOp,lkO_of hx,lkO_of hy,Instr.indexAt]
  simp [asIntOf,run_underlying hT.und,hi,hT.size,Addr.add_at]⟩
theorem PV.len' {E k:Nat} (hT:SlT P T E k) {x:Operand} {a:Option Addr} {m c:Nat} (hx:ev kv x=some (.slice a m c)) :
  PV P (.call {callee:=.builtin .len,args:=#[x],argTypes:=#[T]}) ty kv w (.int .i64 (m:Int)):=PV.len hT.und hx
/-! ### new blocks -/
theorem chg_alloc (w:World) (o:Obj):Chg [] w (w.alloc o):=⟨rfl,rfl,rfl,by simp,Nat.le_refl _,fun k hk _=>RowKit.Below.heap_alloc w o k hk⟩
theorem alloc_get (w:World) (o:Obj):(w.alloc o).heap[w.heap.size]?=some o:=heap_alloc_new w o
structure New (w w':World) (b:Nat):Prop where
 ext:Chg [] w w'
 ge:w.heap.size≤b
 lt:b<w'.heap.size
def ZV (P:Program) (T:TypeId) (l:List Value):Prop:=∃z:Value,(∀w,(zeroValue T).run P w=.ok z w)∧z.cells=l.toArray
theorem OX.alloc {l:List Value} (hT:ZV P T l) (hd:Nat.blt d n=true) (h:∀b w',New w w' b→Blk w' b T l→K ((d,.pointer (some ⟨b,0,none⟩))::kv) w') :
  OX P ⟨some d,.alloc T,ty,pos,af,g⟩ n kv w K:=by
 obtain ⟨z,hz,hl⟩:=hT;refine ⟨rfl,hd,by simp [known,opers],?_⟩
 have hr:(execOp (lkO kv) ⟨some d,.alloc T,ty,pos,af,g⟩).run P w=.ok (.value (.pointer (some ⟨w.heap.size,0,none⟩))) (w.alloc (.cells l.toArray T)):=by
  simp only [execOp,Instr.alloc,Sem.run_bind,hz w,Result.andThen_ok,newVar,newRow,hl]
  rfl
 rw [hr];exact h _ _ ⟨chg_alloc _ _,Nat.le_refl _,by simp⟩ (alloc_get _ _)
theorem OX.box {x:Operand} {v:Value} {l:List Value} (hd:Nat.blt d n=true) (hx:ev kv x=some v) (hl:v.cells=l.toArray) (h:∀b w',New w w' b→Blk w' b T l→K ((d,.pointer (some ⟨b,0,none⟩))::kv) w') :
  OX P ⟨some d,.box T x,ty,pos,af,g⟩ n kv w K:=by
 refine ⟨rfl,hd,by simp [known,opers,hx],?_⟩
 have hr:(execOp (lkO kv) ⟨some d,.box T x,ty,pos,af,g⟩).run P w=.ok (.value (.pointer (some ⟨w.heap.size,0,none⟩))) (w.alloc (.cells l.toArray T)):=by
  simp only [execOp,lkO_of hx,Instr.box,newVar,newRow,hl]
  rfl
 rw [hr];exact h _ _ ⟨chg_alloc _ _,Nat.le_refl _,by simp⟩ (alloc_get _ _)
/-! ### stores into blocks of one's own -/
theorem chg_setRow (w:World) (b:Nat) (cs:Array Value):Chg [b] w (w.setRow b cs):=
 ⟨rfl,rfl,rfl,by simp,Nat.le_refl _,fun k _ hk=>setRow_other w b k cs (by simpa using hk)⟩
theorem run_st1 {b j:Nat} {e:TypeId} {l:List Value} {v:Value} (hT:(P.info? T).map (·.size)=some 1) (hb:Blk w b e l) (hj:j<l.length) (h1:v.oneCell'=true) :
  (Instr.storeAt T (.pointer (some ⟨b,j,none⟩)) v).run P w=.ok () (w.setRow b (l.set j v).toArray):=by
 have hc:v.cells=#[v]:=by cases v <;> simp_all [Value.cells,Value.oneCell']
 have hcell:w.cell? ⟨b,j,none⟩=some l[j]:=by simp [World.cell?,show w.heap[b]?=_ from hb,hj]
 have hfro:w.frozen? ⟨b,j,none⟩=false:=by simp [World.frozen?,show w.heap[b]?=_ from hb]
 have hst:(store ⟨b,j,none⟩ v).run P w=.ok () (w.setRow b (l.set j v).toArray):=by
  rw [run_store P w _ v _ h1,hcell];simp only [hfro,Bool.false_eq_true,if_false];rw [setCell_eq_setRow w b j l.toArray e (0,0) v hb]
  simp
 cases hq:P.info? T with
 | none=>simp [hq] at hT
 | some i=>
  have hs:i.size=1:=by simpa [hq] using hT
  simp only [Instr.storeAt,Instr.sureAddr,Sem.run_bind,Sem.run_pure,Result.andThen_ok,storeVar,sizeOf,typeInfo]
  simp [hq,hs,hc,storeCells,hst,Addr.add]
theorem OX.st {x y:Operand} {b j:Nat} {e:TypeId} {l l':List Value} {v:Value} (hT:(P.info? T).map (·.size)=some 1) (hb:Blk w b e l) (hx:ev kv x=some (.pointer (some ⟨b,0+j,none⟩))) (hy:ev kv y=some v)
  (hj:nth l j≠none) (h1:v.oneCell'=true) (hl:setN l j v=l') (h:∀w',Chg [b] w w'→w'.heap.size=w.heap.size→Blk w' b e l'→K kv w') :
  OX P ⟨none,.store T x y,ty,pos,af,g⟩ n kv w K:=by
 have hj':j<l.length:=by
  rw [nth_eq] at hj
  rcases Nat.lt_or_ge j l.length with h | h
  ·
   exact h
  exact absurd (List.getElem?_eq_none h) hj
 subst hl;rw [Nat.zero_add] at hx;refine ⟨rfl,rfl,by simp [known,opers,hx,hy],?_⟩;simp only [execOp,lkO_of hx,lkO_of hy,Sem.run_bind,run_st1 hT hb hj' h1,Result.andThen_ok];refine h _ (chg_setRow _ _ _) (by simp) ?_;rw [setN_eq];exact setRow_heap w b _ _ e _ hb
theorem OX.st0 {x y:Operand} {b:Nat} {e:TypeId} {l l':List Value} {v:Value} (hT:(P.info? T).map (·.size)=some 1) (hb:Blk w b e l) (hx:ev kv x=some (.pointer (some ⟨b,0,none⟩))) (hy:ev kv y=some v)
  (hj:nth l 0≠none) (h1:v.oneCell'=true) (hl:setN l 0 v=l') (h:∀w',Chg [b] w w'→w'.heap.size=w.heap.size→Blk w' b e l'→K kv w') :
  OX P ⟨none,.store T x y,ty,pos,af,g⟩ n kv w K:=OX.st (j:=0) hT hb hx hy hj h1 hl h
theorem setRow_of_setCells (b:Nat) (e:TypeId):∀(vs:List Value) (o:Nat) (w:World) (l:List Value),Blk w b e l→o+vs.length≤l.length→w.setCells b o vs=w.setRow b (l.take o++vs++l.drop (o+vs.length)).toArray:=by
 intro vs
 induction vs with
 | nil=>
  intro o w l hb _;simp only [World.setCells,List.append_nil,List.length_nil,Nat.add_zero,List.take_append_drop];exact (setRow_self w b _ e _ hb).symm
 | cons v r ih=>
  intro o w l hb hl
  have ho:o<l.length:=by simp at hl;omega
  have h1:w.setCell ⟨b,o,none⟩ v=w.setRow b (l.set o v).toArray:=by rw [setCell_eq_setRow w b o l.toArray e (0,0) v hb];simp
  have h2:Blk (w.setRow b (l.set o v).toArray) b e (l.set o v):=setRow_heap w b _ _ e _ hb;simp only [World.setCells,h1];rw [ih (o+1) _ _ h2 (by simp at hl ⊢;omega),setRow_setRow]
  congr 2
  apply List.ext_getElem?
  intro i
  have e1:min (o+1) l.length=o+1:=by omega
  have e2:min o l.length=o:=by omega
  simp only [List.getElem?_append,List.getElem?_take,List.getElem?_drop,List.length_append,List.length_take,List.length_set,List.getElem?_set,List.length_cons,e1,e2]
  rcases Nat.lt_trichotomy i o with hi | hi | hi
  ·
   rw [if_pos (by omega),if_pos (by omega),if_pos (by omega),if_neg (by omega),if_pos (by omega),if_pos hi,if_pos hi]
  ·
   subst hi;rw [if_pos (by omega),if_pos (by omega),if_pos (by omega),if_pos rfl,if_pos ho,if_pos (by omega),if_neg (by omega)]
   simp
  by_cases h3:i<o+1+r.length
  ·
   rw [if_pos h3,if_neg (by omega),if_pos (by omega),if_neg (by omega),show i - o=(i - (o+1))+1 by omega]
   simp
  rw [if_neg h3,if_neg (by omega),if_neg (by omega)]
  congr 1
  omega
theorem OX.stA {x y:Operand} {k:Nat} {b o:Nat} {e:TypeId} {l us l':List Value} (hT:(P.info? T).map (·.size)=some k) (hb:Blk w b e l) (hx:ev kv x=some (.pointer (some ⟨b,o,none⟩))) (hy:ev kv y=some (.agg us.toArray))
  (hk:us.length=k) (ho:o+us.length≤l.length) (h1:∀v∈us,v.oneCell'=true) (hl:l.take o++us++l.drop (o+us.length)=l')
  (h:∀w',Chg [b] w w'→w'.heap.size=w.heap.size→Blk w' b e l'→K kv w') :
  OX P ⟨none,.store T x y,ty,pos,af,g⟩ n kv w K:=by
 subst hl;refine ⟨rfl,rfl,by simp [known,opers,hx,hy],?_⟩
 have hth:w.there b o us.toArray.size:=fun j hj=>by
  have hj':o+j<l.length:=by simp at hj;omega
  simp [World.cell?,World.frozen?,show w.heap[b]?=_ from hb,hj']
 have hr:=run_storeAt_mid (P:=P) w b o T us.toArray hth (by rw [hT];simp [hk]) (all_oneCell_toArray h1);simp only [execOp,lkO_of hx,lkO_of hy,Sem.run_bind,hr,Result.andThen_ok];rw [setRow_of_setCells b e us.toArray.toList o w l hb (by simpa using ho)];exact h _ (chg_setRow _ _ _) (by simp) (setRow_heap w b _ _ e _ hb)
theorem OX.stW {x y:Operand} {k:Nat} {b:Nat} {e:TypeId} {l us:List Value} (hT:(P.info? T).map (·.size)=some k) (hb:Blk w b e l) (hx:ev kv x=some (.pointer (some ⟨b,0,none⟩))) (hy:ev kv y=some (.agg us.toArray))
  (hk:us.length=k) (hlen:l.length=k) (h1:us.all (·.oneCell')=true)
  (h:∀w',Chg [b] w w'→w'.heap.size=w.heap.size→Blk w' b e us→K kv w') :
  OX P ⟨none,.store T x y,ty,pos,af,g⟩ n kv w K:=
 OX.stA hT hb hx hy hk (by omega) (fun v hv=>List.all_eq_true.1 h1 v hv) (by simp;omega) h
/-! ### calls -/
def CF (P:Program) (f:FuncId):Prop:=∀args w,(callFunc f args).run P w=.ok (.enter f args) w
theorem OX.call {f:FuncId} (hf:CF P f) {xs:List Operand} {ats:Array TypeId} {args:List Value} (hd:Nat.blt d n=true) (hx:xs.map (ev kv)=args.map some)
  (h:Calls P f args.toArray w fun e w'=>∃v,e=.returned v∧K ((d,v)::kv) w') :
  OX P ⟨some d,.call {callee:=.value (.func f),args:=xs.toArray,argTypes:=ats},ty,pos,af,g⟩ n kv w K:=by
 have hev:∀x∈xs,∃v,ev kv x=some v:=fun x hxm=>by
  have:ev kv x∈xs.map (ev kv):=List.mem_map.2 ⟨x,hxm,rfl⟩
  rw [hx] at this;obtain ⟨v,_,hv⟩:=List.mem_map.1 this;exact ⟨v,hv.symm⟩
 refine ⟨rfl,hd,?_,?_⟩
 ·
  refine List.all_eq_true.2 fun x hxm=>?_;simp only [opers,List.mem_append] at hxm
  rcases hxm with hxm | hxm
  ·
   simp at hxm;subst hxm;rfl
  obtain ⟨v,hv⟩:=hev x (by simpa using hxm);simp [hv]
 have hargs:(xs.toArray.map (lkO kv))=args.toArray:=by
  simp only [List.map_toArray]
  congr 1
  have:∀(xs:List Operand) (args:List Value),xs.map (ev kv)=args.map some→xs.map (lkO kv)=args:=by
   intro xs
   induction xs with
   | nil=>intro args h;cases args <;> simp_all
   | cons x r ih=>
    intro args h
    cases args with
    | nil=>simp at h
    | cons a s=>
     simp only [List.map_cons,List.cons.injEq] at h ⊢;exact ⟨lkO_of h.1,ih s h.2⟩
  exact this xs args hx
 have hr:(execOp (lkO kv) ⟨some d,.call {callee:=.value (.func f),args:=xs.toArray,argTypes:=ats},ty,pos,af,g⟩).run P w=.ok (.enter f args.toArray) w:=by
  simp only [execOp,resolve,hargs]
  simp [lkO,ev,Deferred.ofValue,invoke,hf args.toArray w]
 rw [hr];exact h
end
end Go.Rc

namespace Go.Rc
open Go
def deps (o:Oper):List Nat:=(o.after.toList.filter (Region.binds .any)).map (·.on)
def depsAt (ops:Array Oper) (i:Nat):List Nat:=match ops[i]? with | some o=>deps o | none=>[]
abbrev Facts:=List (Nat × (World→Prop))
def elemN (j:Nat):List Nat→Bool
 | []=>false
 | x::r=>match Nat.beq x j with
  | true=>true
  | false=>elemN j r
theorem elemN_iff {j:Nat}:∀{l:List Nat},elemN j l=true↔j∈l
 | []=>by simp [elemN]
 | x::r=>by
  simp only [elemN]
  cases h:Nat.beq x j with
  | true=>have:x=j:=Nat.eq_of_beq_eq_true h;simp [this]
  | false=>
   have hne:x≠j:=fun e=>by rw [e] at h;simp at h
   rw [elemN_iff]
   simp [hne.symm]
def allF:Facts→World→Prop
 | [],_=>True
 | (_,f)::r,w=>f w∧allF r w
def depF (ds:List Nat):Facts→World→Prop
 | [],_=>True
 | (j,f)::r,w=>(match elemN j ds with | true=>f w | false=>True)∧depF ds r w
theorem allF_iff {F:Facts} {w:World}:allF F w↔∀p∈F,p.2 w:=by
 induction F with
 | nil=>simp [allF]
 | cons p r ih=>obtain ⟨j,f⟩:=p;simp [allF,ih]
theorem depF_of {ds:List Nat} {F:Facts} {w:World} (h:∀p∈F,p.1∈ds→p.2 w):depF ds F w:=by
 induction F with
 | nil=>simp [depF]
 | cons p r ih=>
  obtain ⟨j,f⟩:=p;refine ⟨?_,ih fun q hq=>h q (by simp [hq])⟩
  cases he:elemN j ds with
  | true=>exact h (j,f) (by simp) (elemN_iff.1 he)
  | false=>trivial
section
variable (P:Program) (ops:Array Oper) (n:Nat) (C:World→Prop) (T:Nat→World→World→Prop) (E:Nat→Option (Value→World→Prop)) (Fin:KV→World→Prop)
def DW:Nat→List Oper→KV→Facts→Prop
 | _,[],kv,F=>∀w,C w→allF F w→Fin kv w
 | i,o::rest,kv,F=>
  isSelect o.op=false∧dstOk n o.dst=true∧
  ((gd ops kv o=some false∧DW (i+1) rest (upd kv o.dst undef) F)∨
   (gd ops kv o=some true∧known kv o.op=true∧E i=none∧∃e,(∀w,C w→(execOp (lkO kv) o).run P w=.ok (.value e) w)∧DW (i+1) rest (upd kv o.dst e) F)∨
   (gd ops kv o=some true∧known kv o.op=true∧∃S,E i=some S∧
    (∀w,C w→depF (deps o) F w→outc P ((execOp (lkO kv) o).run P w) fun v w'=>C w'∧T i w w'∧S v w')∧
    (∀v w,C w→S v w→DW (i+1) rest (upd kv o.dst v) ((i,S v)::F))))
end
def dstAt (ops:Array Oper) (i:Nat):Option Tmp:=(ops[i]?).bind (·.dst)
def kvOf (ops:Array Oper) (kv:KV) (vals:Nat→Value):Nat→KV
 | 0=>kv
 | i+1=>upd (kvOf ops kv vals i) (dstAt ops i) (vals i)
theorem kvOf_congr {ops:Array Oper} {kv:KV} {vals vals':Nat→Value}:∀i,(∀j,j<i→vals j=vals' j)→kvOf ops kv vals i=kvOf ops kv vals' i:=by
 intro i
 induction i with
 | zero=>intro _;rfl
 | succ i ih=>intro h;simp only [kvOf];rw [ih fun j hj=>h j (by omega),h i (by omega)]
theorem look_upd {kv:KV} {dst:Option Tmp} {v u:Value} {t:Nat} (h:look (upd kv dst v) t=some u):(dst=some t∧u=v)∨(dst≠some t∧look kv t=some u):=by
 cases dst with
 | none=>exact .inr ⟨by simp,h⟩
 | some d=>
  simp only [upd,look] at h
  cases hb:Nat.beq d t with
  | true=>
   rw [hb] at h
   have:d=t:=Nat.eq_of_beq_eq_true hb
   simp at h
   exact .inl ⟨by rw [this],h.symm⟩
  | false=>
   rw [hb] at h
   have hne:d≠t:=fun e=>by rw [e] at hb;simp at hb
   exact .inr ⟨by simpa using hne,h⟩
theorem look_kvOf {ops:Array Oper} {kv:KV} {vals:Nat→Value} {t:Nat} {u:Value}:∀i,look (kvOf ops kv vals i) t=some u→
  (∃j,j<i∧dstAt ops j=some t∧u=vals j)∨((∀j,j<i→dstAt ops j≠some t)∧look kv t=some u):=by
 intro i
 induction i with
 | zero=>intro h;exact .inr ⟨fun j hj=>by omega,h⟩
 | succ i ih=>
  intro h
  rcases look_upd h with ⟨h1,h2⟩ | ⟨h1,h2⟩
  ·
   exact .inl ⟨i,by omega,h1,h2⟩
  rcases ih h2 with ⟨j,hj,h3,h4⟩ | ⟨h3,h4⟩
  ·
   exact .inl ⟨j,by omega,h3,h4⟩
  refine .inr ⟨fun j hj=>?_,h4⟩
  rcases Nat.lt_or_ge j i with hlt | hge
  ·
   exact h3 j hlt
  rw [show j=i by omega];exact h1
def Agree (ops:Array Oper) (o:Oper) (a:Act) (kv:KV):Prop:=∀t v,t∈o.looksAt ops→look kv t=some v→a.tmps.getD t undef=v
theorem Agree.exec {ops:Array Oper} {o:Oper} {a:Act} {kv:KV} (h:Agree ops o a kv) (hs:isSelect o.op=false) (hk:known kv o.op=true) :
  execOp a.eval o=execOp (lkO kv) o:=by
 refine execOp_congr o (fun cs b e=>by rw [e] at hs;simp [isSelect] at hs) fun x hx=>?_;obtain ⟨v,hv⟩:=Option.isSome_iff_exists.1 ((List.all_eq_true.1 hk) x (by rw [← opers_eq];simpa using hx))
 cases x with
 | tmp t=>
  have ht:t∈o.looksAt ops:=List.mem_append_left _ (List.mem_filterMap.2 ⟨.tmp t,by simpa using hx,rfl⟩)
  have:=h t v ht hv
  simp only [Act.eval,this,lkO,hv,Option.getD_some]
 | const u=>simp [ev] at hv;subst hv;simp [Act.eval,lkO,ev]
 | global u=>simp [ev] at hv;simp [Act.eval,lkO,ev]
 | func u=>simp [ev] at hv;simp [Act.eval,lkO,ev]
theorem Agree.wanted {ops:Array Oper} {o:Oper} {a:Act} {kv:KV} (h:Agree ops o a kv) {b:Bool} (hg:gd ops kv o=some b) :
  Region.wanted o (yielded ops a.tmps)=b:=by
 unfold gd at hg
 unfold Region.wanted
 split at hg
 ·
  rename_i hgu;rw [hgu];simpa using hg
 rename_i j c hgu
 rw [hgu]
 simp only
 split at hg
 ·
  rename_i d hd
  have hyl:yielded ops a.tmps j=some d:=by
   unfold yielded
   cases ht:(ops[j]?).bind (·.dst) with
   | none=>rw [ht] at hd;simp at hd
   | some t=>
    rw [ht] at hd;simp only [Option.bind_some] at hd ⊢;have hv:=h t _ (by unfold Oper.looksAt;rw [hgu];simp only;rw [ht];simp) hd
    by_cases hlt:t<a.tmps.size
    ·
     simp [Array.getD,hlt] at hv
     simp [hlt,hv]
    simp [Array.getD,hlt,undef] at hv
  rw [hyl]
  have hb:(d == c)=b:=by simpa using hg
  rw [← hb]
  cases d <;> cases c <;> rfl
 ·
  rename_i d hd
  have hyl:yielded ops a.tmps j=none:=by
   unfold yielded
   cases ht:(ops[j]?).bind (·.dst) with
   | none=>rfl
   | some t=>
    rw [ht] at hd;simp only [Option.bind_some] at hd ⊢;have hv:=h t _ (by unfold Oper.looksAt;rw [hgu];simp only;rw [ht];simp) hd
    by_cases hlt:t<a.tmps.size
    ·
     simp [Array.getD,hlt] at hv
     simp [hlt,hv]
    simp [hlt]
  rw [hyl]
  have hb:false=b:=by simpa using hg
  rw [← hb]
  cases c <;> rfl
 cases hg
/-! ### what is checked of the region -/
def masks:List Oper→List Nat→List Nat
 | [],acc=>acc
 | o::r,acc=>masks r (acc++[(deps o).foldl (fun s d=>s ||| ((2 ^ d) ||| acc.getD d 0)) 0])
structure RegB (ops:Array Oper) (m:Nat):Prop where
 le:m≤ops.size
 back:∀(i:Nat) o,ops[i]?=some o→∀k∈deps o,k<i
 waits:∀(i:Nat) o,i<m→ops[i]?=some o→∀t∈o.looksAt ops,∀j,j<m→dstAt ops j=some t→j∈deps o
 apart:∀i j,i<m→j<m→i≠j→∀t,dstAt ops i=some t→dstAt ops j≠some t
 nosel:∀(i:Nat) o,i<m→ops[i]?=some o→isSelect o.op=false
structure RegOk (ops:Array Oper) (m:Nat):Prop extends RegB ops m where
 tail:∀k,m≤k→k<ops.size→∀(D:Nat→Prop),(∀(j:Nat) o,D j→ops[j]?=some o→∀d∈deps o,D d)→(∀o,ops[k]?=some o→∀d∈deps o,D d)→∀j,j<k→D j
def okBack:List Oper→Nat→Bool
 | [],_=>true
 | o::r,i=>(deps o).all (fun k=>Nat.blt k i) && okBack r (i+1)
def regB (ops:List Oper) (m:Nat):Bool:=
 Nat.ble m ops.length && okBack ops 0 &&
 (ops.take m).all (fun o=>let ds:=deps o;(o.looksAt ops.toArray).all fun t=>((ops.take m).zipIdx.all fun (p,j)=>p.dst != some t || elemN j ds)) &&
 (let l:=(ops.take m).filterMap (·.dst);decide l.Nodup) && (ops.take m).all (fun o=>!isSelect o.op)
def regOk (ops:List Oper) (m:Nat):Bool:=
 regB ops m && (let ms:=masks ops [];(List.range ops.length).all fun k=>Nat.blt k m || (ms.getD k 0) % 2 ^ k == 2 ^ k - 1)
theorem okBack_spec:∀(l:List Oper) (i:Nat),okBack l i=true→∀(j:Nat) o,l[j]?=some o→∀k∈deps o,k<i+j:=by
 intro l
 induction l with
 | nil=>intro i _ j o h;simp at h
 | cons p r ih=>
  intro i h j o ho k hk;simp only [okBack,Bool.and_eq_true,List.all_eq_true] at h
  cases j with
  | zero=>simp at ho;subst ho;have:=h.1 k hk;simp only [Nat.blt] at this;have:=Nat.le_of_ble_eq_true this;omega
  | succ j=>have:=ih (i+1) h.2 j o (by simpa using ho) k hk;omega
theorem foldl_bits (acc:List Nat):∀(ds:List Nat) (s j:Nat),(ds.foldl (fun s d=>s ||| ((2 ^ d) ||| acc.getD d 0)) s).testBit j=true→
  s.testBit j=true∨∃d∈ds,j=d∨(acc.getD d 0).testBit j=true:=by
 intro ds
 induction ds with
 | nil=>intro s j h;exact .inl h
 | cons d r ih=>
  intro s j h
  rcases ih _ j h with h1 | ⟨d',hd',h1⟩
  ·
   simp only [Nat.testBit_or,Bool.or_eq_true] at h1
   rcases h1 with h1 | h1 | h1
   ·
    exact .inl h1
   ·
    refine .inr ⟨d,by simp,.inl ?_⟩;simp only [Nat.testBit_two_pow,decide_eq_true_eq] at h1;exact h1.symm
   exact .inr ⟨d,by simp,.inr h1⟩
  exact .inr ⟨d',by simp [hd'],h1⟩
theorem masks_spec (D:Nat→Prop):∀(l pre:List Oper) (acc:List Nat),acc.length=pre.length→
  (∀(j:Nat) o,D j→(pre++l)[j]?=some o→∀d∈deps o,D d)→
  (∀(k:Nat) o,pre[k]?=some o→(∀d∈deps o,D d)→∀j,(acc.getD k 0).testBit j=true→D j)→
  (∀(k:Nat) o,(pre++l)[k]?=some o→∀d∈deps o,d<k)→
  ∀(k:Nat) o,(pre++l)[k]?=some o→(∀d∈deps o,D d)→∀j,((masks l acc).getD k 0).testBit j=true→D j:=by
 intro l
 induction l with
 | nil=>intro pre acc hlen hcl hacc hb k o ho hd j hj;exact hacc k o (by simpa using ho) hd j hj
 | cons p r ih=>
  intro pre acc hlen hcl hacc hb k o ho hd j hj;simp only [masks] at hj;refine ih (pre++[p]) _ (by simp [hlen]) (by simpa using hcl) ?_ (by simpa using hb) k o (by simpa using ho) hd j hj;intro k o ho hd j hj
  rcases Nat.lt_or_ge k pre.length with hlt | hge
  ·
   rw [List.getElem?_append_left (by omega)] at ho;refine hacc k o ho hd j ?_
   simpa [List.getD,List.getElem?_append_left (show k<acc.length by omega)] using hj
  have hk:k=pre.length:=by
   have:=(List.getElem?_eq_some_iff.1 ho).1
   simp at this;omega
  subst hk
  simp at ho
  subst ho
  have e:(acc++[(deps p).foldl (fun s d=>s ||| ((2 ^ d) ||| acc.getD d 0)) 0]).getD pre.length 0=(deps p).foldl (fun s d=>s ||| ((2 ^ d) ||| acc.getD d 0)) 0:=by
   rw [← hlen];simp
  rw [e] at hj
  rcases foldl_bits acc _ _ _ hj with h1 | ⟨d,hdm,h1⟩
  ·
   simp at h1
  rcases h1 with rfl | h1
  ·
   exact hd _ hdm
  have hdl:d<pre.length:=hb pre.length p (by simp) d hdm;have hpd:∃q,pre[d]?=some q:=⟨pre[d],by simp [hdl]⟩;obtain ⟨q,hq⟩:=hpd;refine hacc d q hq (fun x hx=>hcl d q (hd d hdm) ?_ x hx) j h1;rw [List.getElem?_append_left hdl];exact hq
theorem regB_spec {l:List Oper} {m:Nat} (h:regB l m=true):RegB l.toArray m:=by
 simp only [regB,Bool.and_eq_true] at h;obtain ⟨⟨⟨⟨h1,h2⟩,h3⟩,h4⟩,h6⟩:=h;have hm:m≤l.length:=Nat.le_of_ble_eq_true h1
 have hback:∀(i:Nat) o,l[i]?=some o→∀k∈deps o,k<i:=fun i o ho k hk=>by have:=okBack_spec l 0 h2 i o ho k hk;omega
 have hget:∀(i:Nat) (o:Oper),i<m→l[i]?=some o→(l.take m)[i]?=some o:=fun i o hi ho=>by rw [List.getElem?_take,if_pos hi];exact ho
 have hdst:∀(j:Nat) t,dstAt l.toArray j=some t→∃p,l[j]?=some p∧p.dst=some t:=fun j t hj=>by
  unfold dstAt at hj
  simp only [List.getElem?_toArray] at hj
  cases hp:l[j]? with
  | none=>rw [hp] at hj;simp at hj
  | some p=>rw [hp] at hj;exact ⟨p,rfl,hj⟩
 refine ⟨by simpa using hm,fun i o ho=>hback i o (by simpa using ho),?_,?_,fun i o hi ho=>by simpa using List.all_eq_true.1 h6 o (List.mem_of_getElem? (hget i o hi (by simpa using ho)))⟩
 ·
  intro i o hi ho t ht j hj hjt;have ho':o∈l.take m:=List.mem_of_getElem? (hget i o hi (by simpa using ho))
  have:=List.all_eq_true.1 h3 o ho'
  have:=List.all_eq_true.1 this t ht
  obtain ⟨p,hp,hpt⟩:=hdst j t hjt
  have hpm:(p,j)∈(l.take m).zipIdx:=by
   rw [List.mem_zipIdx_iff_getElem?];exact hget j p hj hp
  have:=List.all_eq_true.1 this (p,j) hpm
  simp only [Bool.or_eq_true,bne_iff_ne,ne_eq,hpt,not_true_eq_false,false_or] at this;exact elemN_iff.1 this
 intro i j hi hj hne t hit hjt;obtain ⟨p,hp,hpt⟩:=hdst i t hit;obtain ⟨q,hq,hqt⟩:=hdst j t hjt
 have hnd:((l.take m).filterMap (·.dst)).Nodup:=by simpa using h4
 have key:∀(L:List Oper),(L.filterMap (·.dst)).Nodup→∀(i j:Nat) p q,i<j→L[i]?=some p→L[j]?=some q→p.dst=some t→q.dst≠some t:=by
  intro L
  induction L with
  | nil=>intro _ i j p q _ hp;simp at hp
  | cons x r ih=>
   intro hn i j p q hij hp hq hpt hqt
   cases j with
   | zero=>omega
   | succ j=>
    cases i with
    | zero=>
     simp at hp hq
     subst hp;rw [List.filterMap_cons,hpt] at hn;simp only [List.nodup_cons] at hn;exact hn.1 (List.mem_filterMap.2 ⟨q,List.mem_of_getElem? hq,hqt⟩)
    | succ i=>
     refine ih ?_ i j p q (by omega) (by simpa using hp) (by simpa using hq) hpt hqt;rw [List.filterMap_cons] at hn
     split at hn
     ·
      exact hn
     exact (List.nodup_cons.1 hn).2
 rcases Nat.lt_or_ge i j with hlt | hge
 ·
  exact key _ hnd i j p q hlt (hget i p hi hp) (hget j q hj hq) hpt hqt
 exact key _ hnd j i q p (by omega) (hget j q hj hq) (hget i p hi hp) hqt hpt
theorem regOk_spec {l:List Oper} {m:Nat} (h:regOk l m=true):RegOk l.toArray m:=by
 simp only [regOk,Bool.and_eq_true] at h;have hB:=regB_spec h.1;refine {hB with tail:=?_};have h5:=h.2;have hback:∀(i:Nat) o,l[i]?=some o→∀k∈deps o,k<i:=fun i o ho=>hB.back i o (by simpa using ho);intro k hmk hkn D hD hk j hj
 have:=List.all_eq_true.1 h5 k (by simpa using hkn)
 simp only [Bool.or_eq_true,beq_iff_eq] at this
 rcases this with h | h
 ·
  simp only [Nat.blt] at h;have:=Nat.le_of_ble_eq_true h;omega
 have hkn':k<l.length:=by simpa using hkn
 refine masks_spec D l [] [] rfl (fun j o hj ho=>hD j o hj (by simpa using ho)) (fun k o ho=>by simp at ho) (fun k o ho=>hback k o (by simpa using ho)) k l[k] (by simp [hkn']) (hk l[k] (by simp [hkn'])) j ?_
 have hb:((masks l []).getD k 0 % 2 ^ k).testBit j=true:=by rw [h,Nat.testBit_two_pow_sub_one];simpa using hj
 rw [Nat.testBit_mod_two_pow] at hb;simp only [Bool.and_eq_true] at hb;exact hb.2
end Go.Rc

namespace Go.Rc
open Go
section
variable {P:Program} {ops:Array Oper} {Q:Exit→Act→World→Prop} {n m:Nat} {C:World→Prop} {T:Nat→World→World→Prop} {E:Nat→Option (Value→World→Prop)}
structure Inv (P:Program) (ops:Array Oper) (n m:Nat) (C:World→Prop) (E:Nat→Option (Value→World→Prop)) (a0:Act) (L:Nat→Bool) (vals:Nat→Value) (a:Act) (w:World):Prop where
 c:C w
 size:a.tmps.size=n
 nod:a.defers=[]
 here:∀j,j<m→L j=true→∀t,dstAt ops j=some t→a.tmps.getD t undef=vals j
 old:∀t,(∀j,j<m→L j=true→dstAt ops j≠some t)→a.tmps.getD t undef=a0.tmps.getD t undef
 no:∀j o,j<m→L j=true→ops[j]?=some o→Region.wanted o (yielded ops a.tmps)=false→vals j=undef
 det:∀j o,j<m→L j=true→ops[j]?=some o→Region.wanted o (yielded ops a.tmps)=true→E j=none→∃wj,C wj∧(execOp a.eval o).run P wj=.ok (.value (vals j)) wj
 eff:∀j o S,j<m→L j=true→ops[j]?=some o→Region.wanted o (yielded ops a.tmps)=true→E j=some S→S (vals j) w
 closed:∀j o,j<m→L j=true→ops[j]?=some o→∀k∈deps o,L k=true
theorem agree_of {a0 a:Act} {kv0:KV} (hok:RegB ops m) (h0:Fr n a0 kv0) {L:Nat→Bool} {vals vals':Nat→Value} {w:World} (hI:Inv P ops n m C E a0 L vals a w)
  (hv:∀j,L j=true→vals' j=vals j) {i:Nat} {o:Oper} (hi:i<m) (ho:ops[i]?=some o) (hd:∀k∈deps o,L k=true):Agree ops o a (kvOf ops kv0 vals' i):=by
 intro t v ht hl
 rcases look_kvOf i hl with ⟨j,hj,hjt,rfl⟩ | ⟨hno,hl0⟩
 ·
  have hjd:=hok.waits i o hi ho t ht j (by omega) hjt;have hLj:=hd j hjd;rw [hv j hLj];exact hI.here j (by omega) hLj t hjt
 rw [hI.old t fun j hj hLj hjt=>?_]
 ·
  exact h0.val t v hl0
 have hjd:=hok.waits i o hi ho t ht j hj hjt;exact hno j (hok.back i o ho j hjd) hjt
variable (hS:∀i S,E i=some S→∀j S',E j=some S'→j≠i→j∉depsAt ops i→∀v w w',C w→C w'→T j w w'→S v w→S v w')
include hS
theorem path {a0 a:Act} {kv0:KV} {Fin:KV→World→Prop} (hok:RegB ops m) (h0:Fr n a0 kv0) {L:Nat→Bool} {vals:Nat→Value} {w:World} (hI:Inv P ops n m C E a0 L vals a w)
  (hdw:DW P ops n C T E Fin 0 (ops.toList.take m) kv0 []):∀i,i≤m→∃vals' F wh,(∀j,L j=true→vals' j=vals j)∧
   DW P ops n C T E Fin i ((ops.toList.take m).drop i) (kvOf ops kv0 vals' i) F∧C wh∧(∀j S v,j<m→L j=true→E j=some S→S v w→S v wh)∧(∀p∈F,p.2 wh)∧
   (∀p∈F,p.1<i∧(∃S v,E p.1=some S∧p.2=S v)∧(L p.1=true→p.2 w)):=by
 intro i
 induction i with
 | zero=>intro _;exact ⟨vals,[],w,fun _ _=>rfl,by simpa [kvOf] using hdw,hI.c,fun _ _ _ _ _ _ h=>h,by simp,by simp⟩
 | succ i ih=>
  intro hi;obtain ⟨vals',F,wh,hv,hnode,hC,hpres,hF,hFw⟩:=ih (by omega)
  have hin:i<ops.size:=by have:=hok.le;omega
  obtain ⟨o,ho⟩:∃o,ops[i]?=some o:=⟨ops[i],by simp [hin]⟩
  have hlen:i<(ops.toList.take m).length:=by simp;omega
  have hcons:(ops.toList.take m).drop i=o::(ops.toList.take m).drop (i+1):=by
   rw [List.drop_eq_getElem_cons hlen]
   congr 1
   have:(ops.toList.take m)[i]?=some o:=by rw [List.getElem?_take,if_pos (by omega)];simpa using ho
   rw [List.getElem?_eq_getElem hlen] at this
   simpa using this
  rw [hcons] at hnode
  have hdst:dstAt ops i=o.dst:=by simp [dstAt,ho]
  have next:∀u,kvOf ops kv0 (fun j=>if j=i then u else vals' j) (i+1)=upd (kvOf ops kv0 vals' i) o.dst u:=fun u=>by
   simp only [kvOf,hdst,if_true];rw [kvOf_congr (vals':=vals') i fun j hj=>by rw [if_neg (by omega)]]
  have hv':∀u,(L i=true→u=vals i)→∀j,L j=true→(if j=i then u else vals' j)=vals j:=fun u hu j hj=>by
   by_cases e:j=i
   ·
    subst e;rw [if_pos rfl];exact hu hj
   rw [if_neg e];exact hv j hj
  have hFw':∀p∈F,p.1<i+1∧(∃S v,E p.1=some S∧p.2=S v)∧(L p.1=true→p.2 w):=fun p hp=>⟨by have:=(hFw p hp).1;omega,(hFw p hp).2⟩;obtain ⟨hsel,hdok,hcase⟩:=hnode
  rcases hcase with ⟨hg,hrest⟩ | ⟨hg,hk,hE,e,hrun,hrest⟩ | ⟨hg,hk,S,hE,heff,hrest⟩
  ·
   refine ⟨fun j=>if j=i then undef else vals' j,F,wh,hv' _ fun hLi=>?_,by rw [next];exact hrest,hC,hpres,hF,hFw'⟩;have hag:=agree_of (vals':=vals') hok h0 hI hv (by omega) ho (hI.closed i o (by omega) hLi ho);exact (hI.no i o (by omega) hLi ho (hag.wanted hg)).symm
  ·
   refine ⟨fun j=>if j=i then e else vals' j,F,wh,hv' _ fun hLi=>?_,by rw [next];exact hrest,hC,hpres,hF,hFw'⟩;have hag:=agree_of (vals':=vals') hok h0 hI hv (by omega) ho (hI.closed i o (by omega) hLi ho);obtain ⟨wj,hCj,hrj⟩:=hI.det i o (by omega) hLi ho (hag.wanted hg) hE;rw [hag.exec hsel hk,hrun wj hCj] at hrj
   simpa using hrj
  by_cases hLi:L i=true
  ·
   have hag:=agree_of (vals':=vals') hok h0 hI hv (by omega) ho (hI.closed i o (by omega) hLi ho);have hSw:=hI.eff i o S (by omega) hLi ho (hag.wanted hg) hE;have hSh:=hpres i S _ (by omega) hLi hE hSw;refine ⟨fun j=>if j=i then vals i else vals' j,(i,S (vals i))::F,wh,hv' _ fun _=>rfl,by rw [next];exact hrest _ wh hC hSh,hC,hpres,?_,?_⟩
   ·
    intro p hp
    rcases List.mem_cons.1 hp with rfl | hp
    ·
     exact hSh
    exact hF p hp
   intro p hp
   rcases List.mem_cons.1 hp with rfl | hp
   ·
    exact ⟨by simp,⟨S,_,hE,rfl⟩,fun _=>hSw⟩
   exact hFw' p hp
  obtain ⟨v,wh',hC',hT,hSv⟩:=(heff wh hC (depF_of fun p hp _=>hF p hp)).exists;refine ⟨fun j=>if j=i then v else vals' j,(i,S v)::F,wh',hv' _ fun h=>absurd h hLi,by rw [next];exact hrest _ wh' hC' hSv,hC',fun j S' u hjm hLj hE' h=>hS j S' hE' i S hE (fun e=>hLi (e ▸ hLj)) (fun hm=>?_) u wh wh' hC hC' hT (hpres j S' u hjm hLj hE' h),?_,?_⟩
  ·
   obtain ⟨p,hp⟩:∃p,ops[j]?=some p:=⟨ops[j]'(by have:=hok.le;omega),by simp⟩;simp only [depsAt,hp] at hm;exact hLi (hI.closed j p hjm hLj hp i hm)
  ·
   intro p hp
   rcases List.mem_cons.1 hp with rfl | hp
   ·
    exact hSv
   obtain ⟨_,⟨S',u,hE',hp2⟩,_⟩:=hFw p hp
   have:=hF p hp
   rw [hp2] at this ⊢;refine hS p.1 S' hE' i S hE (by have:=(hFw p hp).1;omega) (fun hm=>?_) u wh wh' hC hC' hT this;obtain ⟨q,hq⟩:∃q,ops[p.1]?=some q:=⟨ops[p.1]'(by have:=(hFw p hp).1;omega),by simp⟩;simp only [depsAt,hq] at hm
   have:=hok.back p.1 q hq i hm
   have:=(hFw p hp).1
   omega
  intro p hp
  rcases List.mem_cons.1 hp with rfl | hp
  ·
   exact ⟨by simp,⟨S,_,hE,rfl⟩,fun h=>absurd h hLi⟩
  exact hFw' p hp
omit hS in
theorem Inv.put {a0 a:Act} {L:Nat→Bool} {vals:Nat→Value} {w w':World} {i:Nat} {o:Oper} {v:Value} (hok:RegB ops m) (hI:Inv P ops n m C E a0 L vals a w) (hi:i<m) (ho:ops[i]?=some o) (hL:L i=false)
  (hd:∀k∈deps o,L k=true) (hdo:dstOk n o.dst=true) (hc:C w') (hst:∀j S u,j<m→L j=true→E j=some S→S u w→S u w')
  (hno:Region.wanted o (yielded ops a.tmps)=false→v=undef) (hdet:Region.wanted o (yielded ops a.tmps)=true→E i=none→∃wj,C wj∧(execOp a.eval o).run P wj=.ok (.value v) wj)
  (heff:∀S,Region.wanted o (yielded ops a.tmps)=true→E i=some S→S v w') :
  Inv P ops n m C E a0 (fun j=>if j=i then true else L j) (fun j=>if j=i then v else vals j) (a.put o.dst v) w':=by
 have hdst:dstAt ops i=o.dst:=by simp [dstAt,ho]
 -- the new slot is looked at by no operation that is carried out, nor by this one
 have hlook:∀j p,j<m→(j=i∨L j=true)→ops[j]?=some p→∀d,o.dst=some d→d∉p.looksAt ops:=by
  intro j p hj hji hp d hod hmem;have hmd:=hok.waits j p hj hp d hmem i hi (by rw [hdst,hod])
  rcases hji with rfl | hLj
  ·
   have:=hok.back j p hp j hmd;omega
  have:=hI.closed j p hj hLj hp i hmd
  rw [hL] at this;cases this
 have hex:∀j p,j<m→(j=i∨L j=true)→ops[j]?=some p→execOp (a.put o.dst v).eval p=execOp a.eval p:=fun j p hj hji hp=>
  execOp_put (ops:=ops) p (fun cs b e=>by have:=hok.nosel j p hj hp;rw [e] at this;simp [isSelect] at this) a o.dst v (hlook j p hj hji hp)
 have hwa:∀j p,j<m→(j=i∨L j=true)→ops[j]?=some p→Region.wanted p (yielded ops (a.put o.dst v).tmps)=Region.wanted p (yielded ops a.tmps):=fun j p hj hji hp=>
  wanted_put p a o.dst v (hlook j p hj hji hp)
 have hcases:∀j,(if j=i then true else L j)=true→j=i∨(j≠i∧L j=true):=fun j h=>by
  by_cases e:j=i
  ·
   exact .inl e
  rw [if_neg e] at h;exact .inr ⟨e,h⟩
 have hget:∀t,o.dst≠some t→(a.put o.dst v).tmps.getD t undef=a.tmps.getD t undef:=fun t ht=>by
  cases hod:o.dst with
  | none=>rfl
  | some d=>
   have hne:d≠t:=fun e=>ht (by rw [hod,e])
   simp [Act.put,Array.getElem?_setIfInBounds_ne hne]
 refine ⟨hc,?_,?_,?_,?_,?_,?_,?_,?_⟩
 ·
  cases hod:o.dst <;> simp [Act.put,hI.size]
 ·
  cases hod:o.dst <;> simp [Act.put,hI.nod]
 ·
  intro j hj hLj t hjt
  rcases hcases j hLj with rfl | ⟨hne,hLj⟩
  ·
   rw [if_pos rfl];rw [hdst] at hjt
   have hts:t<a.tmps.size:=by
    rw [hI.size];rw [hjt] at hdo;simp only [dstOk,Nat.blt] at hdo;exact Nat.le_of_ble_eq_true hdo
   rw [hjt]
   simp [Act.put,hts]
  rw [if_neg hne,hget t fun hod=>hok.apart i j hi hj (fun e=>hne e.symm) t (by rw [hdst,hod]) hjt];exact hI.here j hj hLj t hjt
 ·
  intro t ht;have h1:o.dst≠some t:=fun hod=>ht i hi (by simp) (by rw [hdst,hod]);rw [hget t h1]
  exact hI.old t fun j hj hLj=>ht j hj (by by_cases e:j=i <;> simp [e,hLj])
 ·
  intro j p hj hLj hp hw
  rcases hcases j hLj with rfl | ⟨hne,hLj⟩
  ·
   rw [hwa j p hj (.inl rfl) hp] at hw;rw [ho] at hp
   simp at hp
   subst hp
   simp [hno hw]
  rw [hwa j p hj (.inr hLj) hp] at hw;rw [if_neg hne];exact hI.no j p hj hLj hp hw
 ·
  intro j p hj hLj hp hw hE
  rcases hcases j hLj with rfl | ⟨hne,hLj⟩
  ·
   rw [hwa j p hj (.inl rfl) hp] at hw;rw [hex j p hj (.inl rfl) hp,if_pos rfl];rw [ho] at hp
   simp at hp
   subst hp;exact hdet hw hE
  rw [hwa j p hj (.inr hLj) hp] at hw;rw [hex j p hj (.inr hLj) hp,if_neg hne];exact hI.det j p hj hLj hp hw hE
 ·
  intro j p S hj hLj hp hw hE
  rcases hcases j hLj with rfl | ⟨hne,hLj⟩
  ·
   rw [hwa j p hj (.inl rfl) hp] at hw;rw [if_pos rfl];rw [ho] at hp
   simp at hp
   subst hp;exact heff S hw hE
  rw [hwa j p hj (.inr hLj) hp] at hw;rw [if_neg hne];exact hst j S _ hj hLj hE (hI.eff j p S hj hLj hp hw hE)
 intro j p hj hLj hp k hk
 rcases hcases j hLj with rfl | ⟨hne,hLj⟩
 ·
  rw [ho] at hp
  simp at hp
  subst hp
  by_cases e:k=j
  ·
   simp [e]
  rw [if_neg e];exact hd k hk
 by_cases e:k=i
 ·
  simp [e]
 rw [if_neg e];exact hI.closed j p hj hLj hp k hk
def left (L:Nat→Bool):Nat→Nat
 | 0=>0
 | k+1=>left L k+(!L k).toNat
omit hS in
theorem left_zero {L:Nat→Bool}:∀{k:Nat},left L k=0→∀j,j<k→L j=true:=by
 intro k
 induction k with
 | zero=>intro _ j hj;omega
 | succ k ih=>
  intro h j hj;simp only [left] at h
  rcases Nat.lt_or_ge j k with hlt | hge
  ·
   exact ih (by omega) j hlt
  rw [show j=k by omega]
  cases hL:L k with
  | true=>rfl
  | false=>rw [hL] at h;simp at h
omit hS in
theorem left_set {L L':Nat→Bool} {i:Nat} (hL:L i=false) (hL':∀j,L' j=if j=i then true else L j):∀{k:Nat},(k≤i→left L' k=left L k)∧(i<k→left L' k+1=left L k):=by
 intro k
 induction k with
 | zero=>exact ⟨fun _=>rfl,fun h=>by omega⟩
 | succ k ih=>
  refine ⟨fun h=>?_,fun h=>?_⟩
  ·
   simp only [left];rw [ih.1 (by omega),hL' k,if_neg (by omega)]
  simp only [left]
  by_cases e:k=i
  ·
   subst e;rw [ih.1 (Nat.le_refl _),hL' k,if_pos rfl,hL]
   simp
  have:=ih.2 (by omega)
  rw [hL' k,if_neg e]
  omega
omit hS in
theorem phase2 (hok:RegOk ops m):∀(fuel k:Nat) (listed:Array Bool) (a:Act) (w:World),m≤k→k≤ops.size→(∀j,j<ops.size→listed[j]?=some (decide (j<k)))→listed.size=ops.size→
  ops.size - k≤fuel→wpList P ops Q (ops.toList.drop k) a w→wpAny P .any ops Q fuel listed a w:=by
 intro fuel
 induction fuel with
 | zero=>
  intro k listed a w hmk hk hlist hsz hf h
  have hk':k=ops.size:=by omega
  subst hk';rw [List.drop_eq_nil_of_le (by simp)] at h;refine ⟨?_,h⟩;refine List.eq_nil_iff_forall_not_mem.2 fun i hi=>?_;obtain ⟨h0,o,ho,_⟩:=mem_ready.1 hi;have hlt:i<ops.size:=(Array.getElem?_eq_some_iff.1 ho).1
  have:=hlist i hlt
  simp [this,hlt] at h0
 | succ fuel ih=>
  intro k listed a w hmk hk hlist hsz hf h
  have hready:∀i,i∈Region.ready .any ops listed→i=k∧k<ops.size:=by
   intro i hi;obtain ⟨h0,o,ho,hdo⟩:=mem_ready.1 hi;have hlt:i<ops.size:=(Array.getElem?_eq_some_iff.1 ho).1;have hl:=hlist i hlt
   have hge:¬i<k:=by
    intro hik
    simp [hl,hik] at h0
   refine ⟨?_,by omega⟩
   rcases Nat.lt_or_ge k i with hki | hki
   ·
    exfalso
    have hD:=hok.tail i (by omega) hlt (fun j=>j<k) (fun j p hj hp d hd=>by have:=hok.back j p hp d hd;omega) (fun p hp d hd=>by
     rw [ho] at hp;simp at hp;subst hp
     unfold deps at hd
     obtain ⟨e,he,rfl⟩:=List.mem_map.1 hd;obtain ⟨he1,he2⟩:=List.mem_filter.1 he;have hb:=hdo e (by simpa using he1) he2
     have hes:e.on<ops.size:=by have:=hok.back i o ho e.on (List.mem_map.2 ⟨e,he,rfl⟩);omega
     simp [hlist e.on hes] at hb
     exact hb) k hki
    omega
   omega
  refine ⟨fun hnil=>?_,fun i hi=>?_⟩
  ·
   rcases Nat.lt_or_ge k ops.size with hlt | hge
   ·
    exfalso
    have:k∈Region.ready .any ops listed:=by
     refine mem_ready.2 ⟨by simp [hlist k hlt],ops[k],by simp [hlt],fun e he hb=>?_⟩;have hek:e.on<k:=hok.back k ops[k] (by simp [hlt]) e.on (List.mem_map.2 ⟨e,List.mem_filter.2 ⟨by simpa using he,hb⟩,rfl⟩)
     simp [hlist e.on (by omega),hek]
    rw [hnil] at this
    cases this
   rw [List.drop_eq_nil_of_le (by simpa using hge)] at h;exact h
  obtain ⟨rfl,hlt⟩:=hready i hi
  have hcons:ops.toList.drop i=ops[i]::ops.toList.drop (i+1):=by
   rw [List.drop_eq_getElem_cons (by simpa using hlt)];simp
  rw [hcons] at h
  have hset:∀j,j<ops.size→(listed.setIfInBounds i true)[j]?=some (decide (j<i+1)):=fun j hj=>by
   by_cases e:i=j
   ·
    subst e;simp [hsz,hlt]
   rw [Array.getElem?_setIfInBounds_ne e,hlist j hj]
   congr 1
   simp only [decide_eq_decide]
   omega
  have next:=fun a w=>ih (i+1) (listed.setIfInBounds i true) a w (by omega) (by omega) hset (by simpa using hsz) (by omega)
  unfold wpOp
  rw [show ops[i]?=some ops[i] by simp [hlt]]
  simp only
  unfold wpList at h
  by_cases hw:Region.wanted ops[i] (yielded ops a.tmps)=true
  ·
   rw [if_pos hw] at h;rw [if_pos hw];exact h.imp (Oper.wp_mono next) id
  rw [if_neg hw] at h;rw [if_neg hw];exact next _ _ h
theorem phase1 {a0:Act} {kv0:KV} (hok:RegOk ops m) (h0:Fr n a0 kv0)
  (hdw:DW P ops n C T E (fun kv w=>WL P ops Q (ops.toList.drop m) n kv w) 0 (ops.toList.take m) kv0 []) :
  ∀(fuel:Nat) (listed:Array Bool) (vals:Nat→Value) (a:Act) (w:World),listed.size=ops.size→left (fun j=>listed.getD j false) ops.size≤fuel→(∀j,m≤j→listed.getD j false=false)→
  Inv P ops n m C E a0 (fun j=>listed.getD j false) vals a w→wpAny P .any ops Q fuel listed a w:=by
 -- when all of the first part has come up
 have fin:∀(listed:Array Bool) (vals:Nat→Value) (a:Act) (w:World),(∀j,j<m→listed.getD j false=true)→Inv P ops n m C E a0 (fun j=>listed.getD j false) vals a w→wpList P ops Q (ops.toList.drop m) a w:=by
  intro listed vals a w hall hI;obtain ⟨vals',F,wh,hv,hnode,hC,_,hF,hFw⟩:=path hS hok.toRegB h0 hI hdw m (Nat.le_refl _);have hnil:(ops.toList.take m).drop m=[]:=List.drop_eq_nil_of_le (by simp;omega);rw [hnil] at hnode;refine hnode w hI.c (allF_iff.2 fun p hp=>(hFw p hp).2.2 (hall p.1 (hFw p hp).1)) a ⟨hI.size,hI.nod,fun t v hl=>?_⟩
  rcases look_kvOf m hl with ⟨j,hj,hjt,rfl⟩ | ⟨hno,hl0⟩
  ·
   rw [hv j (hall j hj)];exact hI.here j hj (hall j hj) t hjt
  rw [hI.old t fun j hj _=>hno j hj];exact h0.val t v hl0
 intro fuel
 induction fuel with
 | zero=>
  intro listed vals a w hsz hleft htail hI;have hall:=left_zero (Nat.le_zero.1 hleft)
  have hm:m=ops.size:=by
   rcases Nat.lt_or_ge m ops.size with h | h
   ·
    have h1:=hall m h;have h2:=htail m (Nat.le_refl _);rw [h2] at h1;cases h1
   have:=hok.le;omega
  have h:=fin listed vals a w (fun j hj=>hall j (by omega)) hI;rw [List.drop_eq_nil_of_le (by simp;omega)] at h;refine ⟨List.eq_nil_iff_forall_not_mem.2 fun i hi=>?_,h⟩;obtain ⟨h0,o,ho,_⟩:=mem_ready.1 hi;have hlt:i<ops.size:=(Array.getElem?_eq_some_iff.1 ho).1;have h1:=hall i hlt;simp only [Array.getD_eq_getD_getElem?] at h0 h1
  cases hx:listed[i]? with
  | none=>rw [hx] at h0;simp at h0
  | some b=>rw [hx] at h0 h1;simp at h0 h1;rw [h0] at h1;cases h1
 | succ fuel ih=>
  intro listed vals a w hsz hleft htail hI
  have hlistB:∀j,j<ops.size→∀b,listed.getD j b=listed.getD j false:=fun j hj b=>by
   simp [Array.getD,show j<listed.size by omega]
  -- the least operation that has not come up may come up
  have least:Region.ready .any ops listed=[]→∀j,j<ops.size→listed.getD j false=true:=by
   intro hnil j
   induction j using Nat.strongRecOn with
   | _ j ihj=>
    intro hj
    cases hb:listed.getD j false with
    | true=>rfl
    | false=>
     exfalso
     have:j∈Region.ready .any ops listed:=by
      refine mem_ready.2 ⟨by rw [hlistB j hj true,hb],ops[j],by simp [hj],fun e he hbd=>?_⟩;have hek:e.on<j:=hok.back j ops[j] (by simp [hj]) e.on (List.mem_map.2 ⟨e,List.mem_filter.2 ⟨by simpa using he,hbd⟩,rfl⟩);exact ihj e.on hek (by omega)
     rw [hnil] at this
     cases this
  refine ⟨fun hnil=>?_,fun i hi=>?_⟩
  ·
   have hall:=least hnil
   have hm:m=ops.size:=by
    rcases Nat.lt_or_ge m ops.size with h | h
    ·
     have h1:=hall m h;have h2:=htail m (Nat.le_refl _);rw [h2] at h1;cases h1
    have:=hok.le;omega
   have h:=fin listed vals a w (fun j hj=>hall j (by omega)) hI;rw [List.drop_eq_nil_of_le (by simp;omega)] at h;exact h
  obtain ⟨hli,o,ho,hdo⟩:=mem_ready.1 hi;have hlt:i<ops.size:=(Array.getElem?_eq_some_iff.1 ho).1
  have hLi:listed.getD i false=false:=by rw [← hlistB i hlt true];exact hli
  have hd:∀k∈deps o,listed.getD k false=true:=fun k hk=>by
   unfold deps at hk
   obtain ⟨e,he,rfl⟩:=List.mem_map.1 hk;obtain ⟨he1,he2⟩:=List.mem_filter.1 he;exact hdo e (by simpa using he1) he2
  rcases Nat.lt_or_ge i m with him | him
  ·
   -- one of the first part
   obtain ⟨vals',F,wh,hv,hnode,hC,_,hF,hFw⟩:=path hS hok.toRegB h0 hI hdw i (by omega)
   have hlen:i<(ops.toList.take m).length:=by simp;omega
   have hcons:(ops.toList.take m).drop i=o::(ops.toList.take m).drop (i+1):=by
    rw [List.drop_eq_getElem_cons hlen]
    congr 1
    have:(ops.toList.take m)[i]?=some o:=by rw [List.getElem?_take,if_pos him];simpa using ho
    rw [List.getElem?_eq_getElem hlen] at this
    simpa using this
   rw [hcons] at hnode;obtain ⟨hsel,hdok,hcase⟩:=hnode;have hag:=agree_of (vals':=vals') hok.toRegB h0 hI hv him ho hd
   have hL':∀j,(listed.setIfInBounds i true).getD j false=if j=i then true else listed.getD j false:=fun j=>by
    by_cases e:j=i
    ·
     subst e;simp [hsz,hlt]
    rw [if_neg e]
    simp [Array.getElem?_setIfInBounds_ne (fun h=>e h.symm)]
   have next:∀v w',Inv P ops n m C E a0 (fun j=>if j=i then true else listed.getD j false) (fun j=>if j=i then v else vals j) (a.put o.dst v) w'→wpAny P .any ops Q fuel (listed.setIfInBounds i true) (a.put o.dst v) w':=fun v w' hI'=>by
    refine ih _ _ _ _ (by simpa using hsz) ?_ (fun j hj=>by rw [hL',if_neg (by omega)];exact htail j hj) (by have e:(fun j=>(listed.setIfInBounds i true).getD j false)=(fun j=>if j=i then true else listed.getD j false):=funext hL';rw [e];exact hI')
    have:=(left_set (L:=fun j=>listed.getD j false) (L':=fun j=>(listed.setIfInBounds i true).getD j false) hLi hL' (k:=ops.size)).2 hlt
    omega
   unfold wpOp
   rw [ho]
   simp only
   rcases hcase with ⟨hg,_⟩ | ⟨hg,hk,hE,e,hrun,_⟩ | ⟨hg,hk,S,hE,heff,_⟩
   ·
    have hw:=hag.wanted hg;rw [if_neg (by rw [hw];simp)];exact next undef w (hI.put hok.toRegB him ho hLi hd hdok hI.c (fun _ _ _ _ _ _ h=>h) (fun _=>rfl) (fun h=>by rw [hw] at h;cases h) (fun S h=>by rw [hw] at h;cases h))
   ·
    have hw:=hag.wanted hg;rw [if_pos hw];refine .inl ?_;have hr:=hrun w hI.c;rw [← hag.exec hsel hk] at hr
    unfold Oper.wp
    rw [hr];exact next e w (hI.put hok.toRegB him ho hLi hd hdok hI.c (fun _ _ _ _ _ _ h=>h) (fun h=>by rw [hw] at h;cases h) (fun _ _=>⟨w,hI.c,hr⟩) (fun S _ h=>by rw [hE] at h;cases h))
   have hw:=hag.wanted hg;rw [if_pos hw];refine .inl ?_
   unfold Oper.wp
   rw [hag.exec hsel hk];refine outc_upon (heff w hI.c (depF_of fun p hp hm=>(hFw p hp).2.2 (hd p.1 hm))) fun v w' ⟨hC',hT,hSv⟩=>?_
   exact next v w' (hI.put hok.toRegB him ho hLi hd hdok hC' (fun j S' u hjm hLj hE' h=>hS j S' hE' i S hE (fun e=>by subst e;rw [hLi] at hLj;cases hLj) (fun hm=>by
    obtain ⟨p,hp⟩:∃p,ops[j]?=some p:=⟨ops[j]'(by have:=hok.le;omega),by simp⟩;simp only [depsAt,hp] at hm;have h3:=hI.closed j p hjm hLj hp i hm;simp only [hLi] at h3
    cases h3) u w w' hI.c hC' hT h) (fun h=>by rw [hw] at h;cases h) (fun _ h=>by rw [hE] at h;cases h) (fun S' _ h=>by rw [hE] at h;simp at h;subst h;exact hSv))
  -- the first of the rest: all before it has come up
  have hD:=hok.tail i him hlt (fun j=>listed.getD j false=true) (fun j p hj hp d hdm=>by
   have hjm:j<m:=by
    rcases Nat.lt_or_ge j m with h | h
    ·
     exact h
    have:=htail j h;rw [this] at hj;cases hj
   exact hI.closed j p hjm hj hp d hdm) (fun p hp d hdm=>by rw [ho] at hp;simp at hp;subst hp;exact hd d hdm)
  have him':i=m:=by
   rcases Nat.lt_or_ge m i with h | h
   ·
    have h1:=hD m h;have h2:=htail m (Nat.le_refl _);rw [h2] at h1;cases h1
   omega
  subst him';have hall:∀j,j<i→listed.getD j false=true:=hD;have h:=fin listed vals a w hall hI
  have hlist:∀j,j<ops.size→listed[j]?=some (decide (j<i)):=fun j hj=>by
   have hjs:j<listed.size:=by omega
   rcases Nat.lt_or_ge j i with hji | hji
   ·
    have:=hall j hji
    simp [Array.getD,hjs] at this
    simp [hjs,this,hji]
   have:=htail j hji
   simp [Array.getD,hjs] at this
   simp [hjs,this,show ¬j<i by omega]
  have h2:=phase2 (P:=P) (Q:=Q) hok (fuel+1) i listed a w (Nat.le_refl _) (by omega) hlist hsz (by
   have hl:∀k,k≤ops.size→left (fun j=>listed.getD j false) k≥k - i:=by
    intro k
    induction k with
    | zero=>intro _;simp
    | succ k ihk=>
     intro hk
     have:=ihk (by omega)
     simp only [left]
     rcases Nat.lt_or_ge k i with h | h
     ·
      omega
     have h9:=htail k h;simp only [h9,Bool.not_false,Bool.toNat_true]
     omega
   have:=hl ops.size (Nat.le_refl _)
   omega) h
  exact h2.2 i hi
omit hS in
theorem WC.drawn {kv:KV} {w:World} {id:Nat} {l:List Oper}
  (hS:∀i S,E i=some S→∀j S',E j=some S'→j≠i→j∉depsAt l.toArray i→∀v w w',C w→C w'→T j w w'→S v w→S v w') (hm:P.follows .mixedOrders=true) (hok:regOk l m=true) (hC:C {w with drawn:=w.drawn+1})
  (hdw:DW P l.toArray n C T E (fun kv w=>WL P l.toArray Q (l.drop m) n kv w) 0 (l.take m) kv []):WC P (.region id l.toArray true) Q n kv w:=by
 intro a hF;refine wp_region_any hm ?_;have hok':=regOk_spec hok
 have hfalse:∀j,(Array.replicate l.toArray.size false).getD j false=false:=fun j=>by
  by_cases h:j<l.length <;> simp [Array.getD,h]
 refine phase1 (m:=m) (vals:=fun _=>undef) hS hok' hF (by simpa using hdw) l.toArray.size _ a _ (by simp) ?_ (fun j _=>hfalse j) ⟨hC,hF.size,hF.nod,?_,fun _ _=>rfl,?_,?_,?_,?_⟩
 ·
  have:∀k (L:Nat→Bool),left L k≤k:=by
   intro k L
   induction k with
   | zero=>simp [left]
   | succ k ih=>simp only [left];cases L k <;> simp <;> omega
  exact this _ _
 all_goals (intro j;intros;rename_i h _ ;first | (have:=hfalse j;simp_all;done) | skip)
end
/-! ### the walk of such a region -/
def lookE:List (Nat × (Value→World→Prop))→Nat→Option (Value→World→Prop)
 | [],_=>none
 | (j,S)::r,i=>match Nat.beq j i with
  | true=>some S
  | false=>lookE r i
section
variable {P:Program} {ops:Array Oper} {n i:Nat} {C:World→Prop} {T:Nat→World→World→Prop} {E:Nat→Option (Value→World→Prop)} {Fin:KV→World→Prop}
variable {rest:List Oper} {kv:KV} {F:Facts} {d:Tmp} {op:Op} {ty:TypeId} {pos:String} {af:Array Edge} {g:Option (Nat × Bool)}
theorem DW.p {v:Value} (hg:gd ops kv ⟨some d,op,ty,pos,af,g⟩=some true) (hs:isSelect op=false) (hk:known kv op=true) (hd:Nat.blt d n=true) (hE:E i=none) (h:∀w,C w→PV P op ty kv w v)
  (next:DW P ops n C T E Fin (i+1) rest ((d,v)::kv) F):DW P ops n C T E Fin i (⟨some d,op,ty,pos,af,g⟩::rest) kv F:=
 ⟨hs,hd,.inr (.inl ⟨hg,hk,hE,v,fun w hw=>(h w hw).2.2 _ _ _ _,next⟩)⟩
theorem DW.no (hg:gd ops kv ⟨some d,op,ty,pos,af,g⟩=some false) (hs:isSelect op=false) (hd:Nat.blt d n=true)
  (next:DW P ops n C T E Fin (i+1) rest ((d,undef)::kv) F):DW P ops n C T E Fin i (⟨some d,op,ty,pos,af,g⟩::rest) kv F:=
 ⟨hs,hd,.inl ⟨hg,next⟩⟩
theorem DW.e {S:Value→World→Prop} (hg:gd ops kv ⟨some d,op,ty,pos,af,g⟩=some true) (hs:isSelect op=false) (hk:known kv op=true) (hd:Nat.blt d n=true) (hE:E i=some S)
  (h:∀w,C w→depF (deps ⟨some d,op,ty,pos,af,g⟩) F w→OX P ⟨some d,op,ty,pos,af,g⟩ n kv w fun kv' w'=>C w'∧T i w w'∧∃v,kv'=(d,v)::kv∧S v w')
  (next:∀v w,C w→S v w→DW P ops n C T E Fin (i+1) rest ((d,v)::kv) ((i,S v)::F)):DW P ops n C T E Fin i (⟨some d,op,ty,pos,af,g⟩::rest) kv F:=by
 refine ⟨hs,hd,.inr (.inr ⟨hg,hk,S,hE,fun w hw hf=>?_,next⟩)⟩;refine (h w hw hf).2.2.2.mono fun v w' ⟨a,b,u,e,s⟩=>?_;simp only [upd,List.cons.injEq,Prod.mk.injEq,true_and,and_true] at e;subst e;exact ⟨a,b,s⟩
theorem DW.e0 {S:Value→World→Prop} (hg:gd ops kv ⟨none,op,ty,pos,af,g⟩=some true) (hs:isSelect op=false) (hk:known kv op=true) (hE:E i=some S)
  (h:∀w,C w→depF (deps ⟨none,op,ty,pos,af,g⟩) F w→OX P ⟨none,op,ty,pos,af,g⟩ n kv w fun _ w'=>C w'∧T i w w'∧∀v,S v w')
  (next:∀v w,C w→S v w→DW P ops n C T E Fin (i+1) rest kv ((i,S v)::F)):DW P ops n C T E Fin i (⟨none,op,ty,pos,af,g⟩::rest) kv F:=
 ⟨hs,rfl,.inr (.inr ⟨hg,hk,S,hE,fun w hw hf=>(h w hw hf).2.2.2.mono fun v w' ⟨a,b,s⟩=>⟨a,b,s v⟩,next⟩)⟩
theorem DW.nil (h:∀w,C w→allF F w→Fin kv w):DW P ops n C T E Fin i [] kv F:=h
end
end Go.Rc

namespace Go.Rc
open Go
theorem FA_of {P:Program} {T f off s:Nat} {fs:Array Field} {fd:Field} (hu:P.underlying T=some (.struct fs)) (hf:fs[f]?=some fd) (hs:∀w,(sizeOf fd.type).run P w=.ok s w) (h0:s≠0) (ho:fd.offset=off) :
  FA P T f off:=by
 intro b o w;subst ho
 simp [Instr.fieldAt,run_underlying hu,hf,Instr.sureAddr,fieldPlace,hs,h0,Addr.add_at]
end Go.Rc

