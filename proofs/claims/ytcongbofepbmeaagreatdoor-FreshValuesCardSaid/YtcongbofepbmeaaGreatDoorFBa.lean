/- Base of the proof: frames, memory, ownership, and the plain meaning of rule systems. Conditions: as each lemma says. -/
import Derived.Orders
import Derived.Tactics
import Derived.Below
import Derived.Laws.AppendOwn
import Derived.IntWalk
import Derived.Laws.Strings
import Derived.DataShut
import Derived.Deep.MidRow
set_option linter.all false
namespace Go.Rc
open Go
theorem M0{α:Type _}{a:α}{l:List α}:a∈a::l:=.head _
theorem M1{α:Type _}{a b0:α}{l:List α}:a∈b0::a::l:=.tail _ M0
theorem M2{α:Type _}{a b0 b1:α}{l:List α}:a∈b0::b1::a::l:=.tail _ M1
theorem M3{α:Type _}{a b0 b1 b2:α}{l:List α}:a∈b0::b1::b2::a::l:=.tail _ M2
theorem M4{α:Type _}{a b0 b1 b2 b3:α}{l:List α}:a∈b0::b1::b2::b3::a::l:=.tail _ M3
theorem M5{α:Type _}{a b0 b1 b2 b3 b4:α}{l:List α}:a∈b0::b1::b2::b3::b4::a::l:=.tail _ M4
theorem M6{α:Type _}{a b0 b1 b2 b3 b4 b5:α}{l:List α}:a∈b0::b1::b2::b3::b4::b5::a::l:=.tail _ M5
theorem M7{α:Type _}{a b0 b1 b2 b3 b4 b5 b:α}{l:List α}:a∈b0::b1::b2::b3::b4::b5::b::a::l:=.tail _ M6
theorem M8{α:Type _}{a b0 b1 b2 b3 b4 b5 b c:α}{l:List α}:a∈b0::b1::b2::b3::b4::b5::b::c::a::l:=.tail _ M7
theorem M9{α:Type _}{a b0 b1 b2 b3 b4 b5 b c e:α}{l:List α}:a∈b0::b1::b2::b3::b4::b5::b::c::e::a::l:=.tail _ M8
theorem iZ{α:Type _}{a b0 b1 b2 b3 b4 b5 b c e f:α}{l:List α}:a∈b0::b1::b2::b3::b4::b5::b::c::e::f::a::l:=.tail _ M9
theorem jj{α:Type _}{a b0 b1 b2 b3 b4 b5 b c e f h:α}{l:List α}:a∈b0::b1::b2::b3::b4::b5::b::c::e::f::h::a::l:=.tail _ iZ
theorem nh{α:Type _}{a b0 b1 b2 b3 b4 b5 b c e f h r:α}{l:List α}:a∈b0::b1::b2::b3::b4::b5::b::c::e::f::h::r::a::l:=.tail _ jj
theorem vz{α:Type _}{a b0 b1 b2 b3 b4 b5 b c e f h r s:α}{l:List α}:a∈b0::b1::b2::b3::b4::b5::b::c::e::f::h::r::s::a::l:=.tail _ nh
theorem Ca{α:Type _}{a b0 b1 b2 b3 b4 b5 b c e f h r s t:α}{l:List α}:a∈b0::b1::b2::b3::b4::b5::b::c::e::f::h::r::s::t::a::l:=.tail _ vz
theorem Nr{α:Type _}{a b0 b1 b2 b3 b4 b5 b c e f h r s t u:α}{l:List α}:a∈b0::b1::b2::b3::b4::b5::b::c::e::f::h::r::s::t::u::a::l:=.tail _ Ca
theorem RC{α:Type _}{a b0 b1 b2 b3 b4 b5 b c e f h r s t u z:α}{l:List α}:a∈b0::b1::b2::b3::b4::b5::b::c::e::f::h::r::s::t::u::z::a::l:=.tail _ Nr
theorem M17{α:Type _}{a b0 b1 b2 b3 b4 b5 b c e f h r s t u z A:α}{l:List α}:a∈b0::b1::b2::b3::b4::b5::b::c::e::f::h::r::s::t::u::z::A::a::l:=.tail _ RC
theorem M18{α:Type _}{a b0 b1 b2 b3 b4 b5 b c e f h r s t u z A B:α}{l:List α}:a∈b0::b1::b2::b3::b4::b5::b::c::e::f::h::r::s::t::u::z::A::B::a::l:=.tail _ M17
theorem M19{α:Type _}{a b0 b1 b2 b3 b4 b5 b c e f h r s t u z A B D:α}{l:List α}:a∈b0::b1::b2::b3::b4::b5::b::c::e::f::h::r::s::t::u::z::A::B::D::a::l:=.tail _ M18
theorem M20{α:Type _}{a b0 b1 b2 b3 b4 b5 b c e f h r s t u z A B D G:α}{l:List α}:a∈b0::b1::b2::b3::b4::b5::b::c::e::f::h::r::s::t::u::z::A::B::D::G::a::l:=.tail _ M19
abbrev KV:=List (Nat × Value)
def look:KV→Nat→Option Value
 | [],_=>none
 | (t,v)::r,s=>match Nat.beq t s with
  | true=>some v
  | false=>look r s
def ev(kv:KV):Operand→Option Value
 | .tmp t=>look kv t
 | .const v=>some v
 | .global g=>some (.pointer (some ⟨g,0,none⟩))
 | .func f=>some (.func (.func f) #[] #[])
def kR(kv:KV):Option Tmp→Value→KV
 | some d,v=>(d,v)::kv
 | none,_=>kv
structure Fr (n:Nat) (a:Act) (kv:KV):Prop where
 size:a.tmps.size=n
 j6:a.defers=[]
 val:∀t v,look kv t=some v→a.tmps.getD t undef=v
theorem Fr.eval{n:Nat}{a:Act}{kv:KV}(h:Fr n a kv) {x:Operand}{v:Value}(b:ev kv x=some v):a.eval x=v:=by
 cases x with
 | tmp t=>exact h.val t v b
 | const u=>simpa [ev,Act.eval] using b
 | global g=>simpa [ev,Act.eval] using b
 | func f=>simpa [ev,Act.eval] using b
def oQ(n:Nat):Option Tmp→Bool
 | some d=>Nat.blt d n
 | none=>true
theorem Fr.put{n:Nat}{a:Act}{kv:KV}(h:Fr n a kv) {dst:Option Tmp}(b:oQ n dst=true) (v:Value):Fr n (a.put dst v) (kR kv dst v):=by
 cases dst with
 | none=>exact h
 | some d=>
  refine⟨by simp [Act.put,h.size],h.j6,fun t u hu=>?_⟩
  have f:d<n:=by simp only [oQ,Nat.blt] at b;exact Nat.le_of_ble_eq_true b
  simp only [kR,look] at hu
  by_cases c:d=t
  ·
   subst c
   simp at hu
   subst hu
   simp [Act.put,h.size,f]
  have hb:Nat.beq d t=false:=Bool.eq_false_iff.2 fun e=>c (Nat.eq_of_beq_eq_true e)
  rw [hb] at hu
  have:=h.val t u hu
  simp only [Act.put]
  simp_all
def oR(P:Program) (r:Result Next) (R:Value→World→Prop):Prop:=
 match r with
 | .ok (.value v) w=>R v w
 | .ok .skip w=>R undef w
 | .ok (.enter f args) w=>Calls P f args w fun e w'=>∃v,e=.returned v∧R v w'
 | _=>False
theorem oR.mono{P:Program}{r:Result Next}{R a:Value→World→Prop}(h:oR P r R) (hr:∀v w,R v w→a v w):oR P r a:=by
 unfold oR at *
 split at h
 ·
  exact hr _ _ h
 ·
  exact hr _ _ h
 ·
  exact h.mono fun e w' ⟨v,he,b⟩=>⟨v,he,hr _ _ b⟩
 exact h.elim
theorem wF{P:Program}{o:Oper}{a:Act}{K:Act→World→Prop}{Q:Exit→Act→World→Prop}{r:Result Next}{R:Value→World→Prop}
  (h:oR P r R) (hk:∀v w,R v w→K (a.put o.dst v) w):o.upon P a K Q r:=by
 unfold oR at h
 split at h
 ·
  exact hk _ _ h
 ·
  exact hk _ _ h
 ·
  refine h.mono fun e w' ⟨v,he,b⟩=>?_;subst he;exact hk _ _ b
 exact h.elim
theorem oR.exists{P:Program}{r:Result Next}{R:Value→World→Prop}(h:oR P r R):∃v w,R v w:=by
 unfold oR at h
 split at h
 ·
  exact⟨_,_,h⟩
 ·
  exact⟨_,_,h⟩
 ·
  obtain⟨e,w',fr,⟨v,he,a⟩,_⟩:=h [];exact⟨v,w',a⟩
 exact h.elim
def opers:Op→List Operand
 | .alloc _ | .ready _ | .waits _=>[]
 | .move x | .assign x | .box _ x | .load _ x | .nilCheck x | .unOp _ _ x | .convert _ _ x | .sliceToArrayPointer _ x | .makeInterface _ x
 | .makeChan _ x | .fieldAddr _ x _ | .field _ x _ | .range _ x | .next x _ | .entry x | .typeAssert x _ _ _ | .extract x _ | .panic x | .recv _ x _=>[x]
 | .pick c a b=>[c,a,b]
 | .build _ ps | .buildSlice _ _ ps=>ps.toList.map (·.2)
 | .store _ a v | .binOp _ _ a v _ | .makeSlice _ a v | .indexAddr _ a v | .index _ a v | .lookup _ a v _ | .mapEntry _ a v | .send a v=>[a,v]
 | .makeFunc _ first captured=>first.toList++captured.toList
 | .makeMap _ r=>r.toList
 | .slice _ x l h m=>x::(l.toList++h.toList++m.toList)
 | .mapUpdate _ m k v | .entryStore _ m k v | .insert _ m k v=>[m,k,v]
 | .call c | .go c | .defer c=>(match c.callee with | .value f=>[f] | .invoke r _=>[r] | .builtin _=>[])++c.args.toList
 | .select cs _=>(cs.flatMap fun c=>#[c.chan]++c.send.toArray).toList
theorem zh(op:Op):op.operands.toList=opers op:=by
 cases op <;> simp [Op.operands,opers,Call.operands]
 all_goals (rename_i c;cases c.callee <;> simp)
def known(kv:KV) (op:Op):Bool:=(opers op).all fun x=>(ev kv x).isSome
def jk(kv:KV) (x:Operand):Value:=(ev kv x).getD undef
def a7:Op→Bool
 | .select _ _=>true
 | _=>false
theorem Fr.exec{n:Nat}{a:Act}{kv:KV}(h:Fr n a kv) {o:Oper}(l:a7 o.op=false) (hk:known kv o.op=true) :
  execOp a.eval o=execOp (jk kv) o:=by
 refine execOp_congr o (fun cs b e=>by grind [a7]) fun x f=>?_
 have:=(List.all_eq_true.1 hk) x (by rw [← zh];simpa using f)
 obtain⟨v,c⟩:=Option.isSome_iff_exists.1 this;rw [h.eval c]
 simp [jk,c]
/-! ### the judgements -/
def WL(P:Program) (ops:Array Oper) (Q:Exit→Act→World→Prop) (l:List Oper) (n:Nat) (kv:KV) (w:World):Prop:=
 ∀a,Fr n a kv→wpList P ops Q l a w
def WC(P:Program) (c:Code) (Q:Exit→Act→World→Prop) (n:Nat) (kv:KV) (w:World):Prop:=
 ∀a,Fr n a kv→c.wp P Q a w
def EX(Q:Exit→Act→World→Prop) (e:Exit) (n:Nat) (kv:KV) (w:World):Prop:=
 ∀a,Fr n a kv→Q e a w
def OX(P:Program) (o:Oper) (n:Nat) (kv:KV) (w:World) (K:KV→World→Prop):Prop:=
 a7 o.op=false∧oQ n o.dst=true∧known kv o.op=true∧oR P ((execOp (jk kv) o).run P w) fun v w'=>K (kR kv o.dst v) w'
def gd(ops:Array Oper) (kv:KV) (o:Oper):Option Bool:=
 match o.guard with
 | none=>some true
 | some (j,b)=>match ((ops[j]?).bind (·.dst)).bind (look kv) with
  | some (.bool c)=>some (c == b)
  | some (.tuple _)=>some false
  | _=>none
theorem Fr.wanted{n:Nat}{a:Act}{kv:KV}(h:Fr n a kv) {ops:Array Oper}{o:Oper}{b:Bool}(f:gd ops kv o=some b) :
  Region.wanted o (yielded ops a.tmps)=b:=by
 unfold gd at f
 unfold Region.wanted
 split at f
 ·
  grind
 rename_i j c r
 rw [r]
 simp only
 split at f
 ·
  rename_i d e
  have s:yielded ops a.tmps j=some d:=by
   unfold yielded
   cases ht:(ops[j]?).bind (·.dst) with
   | none=>rw [ht] at e;simp at e
   | some t=>
    rw [ht] at e;simp only [Option.bind_some] at e ⊢;have u:=h.val t _ e
    by_cases l:t<a.tmps.size
    ·
     simp_all
    grind [undef]
  simp_all
 ·
  rename_i d e
  have s:yielded ops a.tmps j=none:=by
   unfold yielded
   cases ht:(ops[j]?).bind (·.dst) with
   | none=>rfl
   | some t=>
    rw [ht] at e;simp only [Option.bind_some] at e ⊢;have u:=h.val t _ e
    by_cases l:t<a.tmps.size
    ·
     simp_all
    simp [l]
  grind
 cases f
section
variable {P:Program}{ops:Array Oper}{Q:Exit→Act→World→Prop}{n:Nat}{kv:KV}{w:World}{rest:List Oper}{o:Oper}
theorem WL.go(c:gd ops kv o=some true) (h:OX P o n kv w fun e w'=>WL P ops Q rest n e w'):WL P ops Q (o::rest) n kv w:=by
 intro a b;obtain⟨f,l,hk,r⟩:=h
 unfold wpList
 rw [if_pos (b.wanted c)];refine .inl ?_
 unfold Oper.wp
 rw [b.exec f hk]
 exact wF r fun v w' s=>s _ (b.put l v)
theorem WL.no(c:gd ops kv o=some false) (e:oQ n o.dst=true) (h:WL P ops Q rest n (kR kv o.dst undef) w):WL P ops Q (o::rest) n kv w:=by
 intro a b
 unfold wpList
 rw [if_neg (by rw [b.wanted c];simp)];exact h _ (b.put e undef)
theorem WL.nil(h:EX Q .normal n kv w):WL P ops Q [] n kv w:=h
theorem WC.region{id:Nat}{l:List Oper}(h:WL P l.toArray Q l n kv w):WC P (.region id l.toArray false) Q n kv w:=
 fun a b=>wp_region_lit (h a b)
theorem WC.seq{x y:Code}(h:WC P x (Exit.then (y.wp P Q) Q) n kv w):WC P (.seq x y) Q n kv w:=fun a b=>wp_seq (h a b)
theorem WC.skip(h:EX Q .normal n kv w):WC P .skip Q n kv w:=fun a b=>wp_skip (h a b)
theorem WC.exit{id:Nat}(h:EX Q (.exit id) n kv w):WC P (.exit id) Q n kv w:=fun a b=>wp_exit (h a b)
theorem WC.ret(h:EX Q .ret n kv w):WC P .ret Q n kv w:=fun a b=>wp_ret (h a b)
theorem WC.block{id:Nat}{c:Code}(h:WC P c (Exit.inBlock id Q) n kv w):WC P (.block id c) Q n kv w:=fun a b=>wp_block (h a b)
theorem WC.sE{c:Operand}{x y:Code}(hc:ev kv c=some (.bool true)) (h:WC P x Q n kv w):WC P (.cond c x y) Q n kv w:=fun a b=>wp_cond (b.eval hc) (h a b)
theorem WC.kS{c:Operand}{x y:Code}(hc:ev kv c=some (.bool false)) (h:WC P y Q n kv w):WC P (.cond c x y) Q n kv w:=fun a b=>wp_cond (b.eval hc) (h a b)
theorem WC.cond{c:Operand}{x y:Code}{b:Bool}(hc:ev kv c=some (.bool b)) (ht:b=true→WC P x Q n kv w) (a:b=false→WC P y Q n kv w) :
  WC P (.cond c x y) Q n kv w:=by
 cases b
 ·
  exact WC.kS hc (a rfl)
 exact WC.sE hc (ht rfl)
/-! leaving by the layers -/
theorem EX.XE{y:Code}(h:WC P y Q n kv w):EX (Exit.then (y.wp P Q) Q) .normal n kv w:=h
theorem EX.RD{N:Act→World→Prop}{id:Nat}(h:EX Q (.exit id) n kv w):EX (Exit.then N Q) (.exit id) n kv w:=h
theorem EX.RF{N:Act→World→Prop}(h:EX Q .ret n kv w):EX (Exit.then N Q) .ret n kv w:=h
theorem EX.XF{id:Nat}(h:EX Q .normal n kv w):EX (Exit.inBlock id Q) .normal n kv w:=h
theorem EX.JF{id:Nat}(h:EX Q .ret n kv w):EX (Exit.inBlock id Q) .ret n kv w:=h
theorem EX.XG{id:Nat}(h:EX Q .normal n kv w):EX (Exit.inBlock id Q) (.exit id) n kv w:=fun a b=>by
 simp only [Exit.inBlock,if_true];exact h a b
def Sub(kv:KV):KV→Prop
 | []=>True
 | (t,v)::r=>look kv t=some v∧Sub kv r
theorem Sub.look{kv b:KV}(h:Sub kv b):∀t v,look b t=some v→look kv t=some v:=by
 induction b with
 | nil=>intro t v a;simp [Rc.look] at a
 | cons p r c=>
  obtain⟨s,u⟩:=p;intro t v a;simp only [Rc.look] at a
  cases hb:Nat.beq s t with
  | true=>
   rw [hb] at a
   have e:s=t:=by simpa using hb
   simp at a
   rw [← e,← a];exact h.1
  | false=>rw [hb] at a;exact c h.2 t v a
theorem Fr.sub{a:Act}{b:KV}(h:Fr n a kv) (c:Sub kv b):Fr n a b:=⟨h.size,h.j6,fun t v e=>h.val t v (c.look t v e)⟩
theorem WC.XH{σ:Type}{c:Code}(b:σ→KV) (J:σ→World→Prop) (h:WC P c (fun e a w'=>e=.normal∧∃s,Fr n a (b s)∧J s w') n kv w) (f:∀s w',J s w'→EX Q .normal n (b s) w') :
  WC P c Q n kv w:=fun a l=>wp_mono (h a l) fun e r w' ⟨he,s,t,u⟩=>by subst he;exact f s w' u r t
theorem EX.RG{σ:Type}{b:σ→KV}{J:σ→World→Prop}(s:σ) (c:Sub kv (b s)) (f:J s w):EX (fun e a w'=>e=.normal∧∃s,Fr n a (b s)∧J s w') .normal n kv w:=
 fun _ h=>⟨rfl,s,h.sub c,f⟩
theorem WC.loop{σ:Type}{c:Code}(dm:σ→KV) (I:σ→World→Prop) (μ:σ→Nat) (z:σ) (B:Sub kv (dm z)) (D:I z w)
  (round:∀s w,I s w→WC P c (Exit.then (fun r w'=>∃s',Fr n r (dm s')∧I s' w'∧μ s'<μ s) Q) n (dm s) w):WC P (.loop c) Q n kv w:=by
 intro a A b k cs;have key:∀m s a w,μ s=m→I s w→Fr n a (dm s)→
   ∃e r w',Q e r w'∧Arrives P (lone (b.at a (.code c::.inLoop c::k)) cs w) b k cs e r w':=by
  intro m
  induction m using Nat.strongRecOn with
  | _ m G=>
   intro s a w hm H A;obtain⟨e,t,u,f,h⟩:=round s w H a A b (.inLoop c::k) cs
   cases e with
   | normal=>
    obtain⟨s',J,L,M⟩:=f;obtain⟨N,O,V,W,Y⟩:=G (μ s') (hm ▸ M) s' t u rfl L J;exact⟨N,O,V,W,.of_steps (Steps.trans h (.one step_inLoop)) Y⟩
   | exit id=>exact⟨_,t,u,f,.pass (x:=.inLoop c) rfl (fun _ _=>.inl (by simp)) h⟩
   | goto l=>exact⟨_,t,u,f,.pass (x:=.inLoop c) rfl (fun _ _=>.inl (by simp)) h⟩
   | ret=>exact⟨_,t,u,f,.pass (x:=.inLoop c) rfl (fun _ _=>.inl (by simp)) h⟩
   | panic ch=>exact⟨_,t,u,f,.pass (x:=.inLoop c) rfl (fun _ _=>.inl (by simp)) h⟩
   | outgrown=>exact⟨_,t,u,f,.pass (x:=.inLoop c) rfl (fun _ _=>.inl (by simp)) h⟩
 obtain⟨e,r,w',f,h⟩:=key _ z a w rfl D (A.sub B);exact⟨e,r,w',f,.of_steps (.one step_loop) h⟩
theorem EX.again{σ:Type}{dm:σ→KV}{I:σ→World→Prop}{μ:σ→Nat}{m:Nat}(s':σ) (a:Sub kv (dm s')) (hi:I s' w) (hm:μ s'<m) :
  EX (Exit.then (fun b w'=>∃s',Fr n b (dm s')∧I s' w'∧μ s'<m) Q) .normal n kv w:=fun _ c=>⟨s',c.sub a,hi,hm⟩
end
/-! ### a function's beginning and end -/
def sF(k:Nat):List Value→KV
 | []=>[]
 | v::r=>(k,v)::sF (k+1) r
theorem zj(l:List Value):∀k t v,look (sF k l) t=some v→k≤t∧l[t - k]?=some v:=by
 induction l with
 | nil=>grind [sF,look]
 | cons x r a=>
  intro k t v h;simp only [sF,look] at h
  cases hb:Nat.beq k t with
  | true=>simp_all
  | false=>grind
theorem enter{P:Program}{f:FuncId}{fn:Func}{c:Code}{args:List Value}{w:World}{R:Ending→World→Prop}{n:Nat}
  (b:P.funcs[f]?=some fn) (hb:fn.body=some c) (hn:fn.ntmps=n) (hle:Nat.ble args.length n=true)
  (h:WC P c (bodyPost P fn R) n (sF 0 args) w):Calls P f args.toArray w R:=by
 subst hn
 have l:args.length≤fn.ntmps:=by simpa using hle
 refine calls_of_wp b hb (h _ ⟨by simp;omega,rfl,fun t v e=>?_⟩);obtain⟨_,a⟩:=zj args 0 t v e;simp only [Nat.sub_zero] at a;have r:t<args.length:=(List.getElem?_eq_some_iff.1 a).1;simp only [Array.getD_eq_getD_getElem?]
 grind
section
variable {P:Program}{n:Nat}{kv:KV}{w:World}{fn:Func}{R:Ending→World→Prop}
theorem EX.sG{e:Exit}(he:e=.ret∨e=.normal) (hr:fn.results=#[]) (h:R (.returned (.tuple #[])) w):EX (bodyPost P fn R) e n kv w:=by
 intro a b;have c:a.defers=[]∧∃v,(results fn a.tmps).run P w=.ok v w∧R (.returned v) w:=⟨b.j6,_,results_none hr _ _ _,h⟩
 rcases he with rfl | rfl <;> exact c
theorem EX.RH{t:Tmp}{v:Value}(hr:fn.results=#[.tmp t]) (c:look kv t=some v) (h:R (.returned v) w):EX (bodyPost P fn R) .ret n kv w:=
 fun a b=>⟨b.j6,v,by rw [results_tmp hr,b.val t v c],h⟩
theorem EX.RJ{t u:Tmp}{v x:Value}(hr:fn.results=#[.tmp t,.tmp u]) (c:look kv t=some v) (e:look kv u=some x) (h:R (.returned (.tuple #[v,x])) w):EX (bodyPost P fn R) .ret n kv w:=
 fun a b=>⟨b.j6,_,by rw [results_tmp2 hr,b.val t v c,b.val u x e],h⟩
end
end Go.Rc

namespace Go.Rc
open Go
theorem aI{kv:KV}{x:Operand}{v:Value}(h:ev kv x=some v):jk kv x=v:=by simp [jk,h]
section
variable {P:Program}{n:Nat}{kv:KV}{w:World}{K:KV→World→Prop}
variable {d:Tmp}{ty:TypeId}{pos:String}{af:Array Edge}{g:Option (Nat × Bool)}
def PV(P:Program) (op:Op) (ty:TypeId) (kv:KV) (w:World) (v:Value):Prop:=
 a7 op=false∧known kv op=true∧∀d pos af g,(execOp (jk kv) ⟨d,op,ty,pos,af,g⟩).run P w=.ok (.value v) w
theorem WL.p{ops:Array Oper}{Q:Exit→Act→World→Prop}{rest:List Oper}{op:Op}{v:Value}(a:gd ops kv ⟨some d,op,ty,pos,af,g⟩=some true) (b:Nat.blt d n=true) (h:PV P op ty kv w v)
  (next:WL P ops Q rest n ((d,v)::kv) w):WL P ops Q (⟨some d,op,ty,pos,af,g⟩::rest) n kv w:=
 WL.go a ⟨h.1,b,h.2.1,by rw [h.2.2];exact next⟩
theorem PV.mv{x:Operand}{v:Value}(a:ev kv x=some v) :PV P (.move x) ty kv w (v):=
 ⟨rfl,(by simp [known,opers,a]),fun _ _ _ _=>by simp only [execOp,aI a];rfl⟩
theorem PV.as{x:Operand}{v:Value}(a:ev kv x=some v) :PV P (.assign x) ty kv w (v):=
 ⟨rfl,(by simp [known,opers,a]),fun _ _ _ _=>by simp only [execOp,aI a];rfl⟩
theorem PV.G0{c x y:Operand}{v u:Value}(hc:ev kv c=some (.bool true)) (a:ev kv x=some v) (hy:ev kv y=some u) :PV P (.pick c x y) ty kv w (v):=
 ⟨rfl,(by simp [known,opers,hc,a,hy]),fun _ _ _ _=>by simp only [execOp,aI a,aI hc];rfl⟩
theorem PV.G1{c x y:Operand}{v u:Value}(hc:ev kv c=some (.bool false)) (a:ev kv x=some v) (hy:ev kv y=some u) :PV P (.pick c x y) ty kv w (u):=
 ⟨rfl,(by simp [known,opers,hc,a,hy]),fun _ _ _ _=>by simp only [execOp,aI hy,aI hc];rfl⟩
/-! integers -/
section
variable {T U:TypeId}{x y:Operand}{k:IntKind}{p q:Int}
theorem dF{d:Option Tmp}{ty:TypeId}{pos:String}{af:Array Edge}{g:Option (Nat × Bool)}(op:BinOp) (a:op≠.shl∧op≠.shr) (v:Value)
  (h:(match op with
  | .add | .sub | .mul=>Op.intArith op k p q
  | .quo | .rem=>Op.intDiv op k p q
  | .and | .or | .xor | .andNot=>Op.intBits op k p q
  | _=>Op.intCmp op p q:Sem Value).run P w=.ok v w) (b:ev kv x=some (.int k p)) (hy:ev kv y=some (.int k q)) :
  (execOp (jk kv) ⟨d,.binOp op T x y U,ty,pos,af,g⟩).run P w=.ok (.value v) w:=by
 simp only [execOp,aI b,aI hy];obtain⟨h1,c⟩:=a
 cases op <;> first | exact absurd rfl h1 | exact absurd rfl c | simp_all [eqGuard,binOp]
theorem PV.lss(a:ev kv x=some (.int k p)) (hy:ev kv y=some (.int k q)) :PV P (.binOp .lss T x y U) ty kv w (.bool (decide (p<q))):=
 ⟨rfl,(by simp [known,opers,a,hy]),fun _ _ _ _=>dF .lss (by simp) _ rfl a hy⟩
theorem PV.leq(a:ev kv x=some (.int k p)) (hy:ev kv y=some (.int k q)) :PV P (.binOp .leq T x y U) ty kv w (.bool (decide (p≤q))):=
 ⟨rfl,(by simp [known,opers,a,hy]),fun _ _ _ _=>dF .leq (by simp) _ rfl a hy⟩
theorem PV.gtr(a:ev kv x=some (.int k p)) (hy:ev kv y=some (.int k q)) :PV P (.binOp .gtr T x y U) ty kv w (.bool (decide (q<p))):=
 ⟨rfl,(by simp [known,opers,a,hy]),fun _ _ _ _=>dF .gtr (by simp) _ rfl a hy⟩
theorem PV.geq(a:ev kv x=some (.int k p)) (hy:ev kv y=some (.int k q)) :PV P (.binOp .geq T x y U) ty kv w (.bool (decide (q≤p))):=
 ⟨rfl,(by simp [known,opers,a,hy]),fun _ _ _ _=>dF .geq (by simp) _ rfl a hy⟩
theorem PV.XI(a:ev kv x=some (.int k p)) (hy:ev kv y=some (.int k q)) :PV P (.binOp .eql T x y U) ty kv w (.bool (decide (p=q))):=
 ⟨rfl,(by simp [known,opers,a,hy]),fun _ _ _ _=>dF .eql (by simp) _ (by
  have:(p == q)=decide (p=q):=by by_cases e:p=q <;> simp [e]
  simp only [Op.intCmp,this];rfl) a hy⟩
theorem PV.Q7(a:ev kv x=some (.int k p)) (hy:ev kv y=some (.int k q)) :PV P (.binOp .neq T x y U) ty kv w (.bool (decide (p≠q))):=
 ⟨rfl,(by simp [known,opers,a,hy]),fun _ _ _ _=>dF .neq (by simp) _ (by
  have:(p != q)=decide (p≠q):=by by_cases e:p=q <;> simp [e]
  simp only [Op.intCmp,this];rfl) a hy⟩
theorem nj{r:Int}(h1:-9223372036854775808≤r) (a:r≤9223372036854775807):IntKind.i64.wrap r=r:=by
 exact IntWalk.i64_in _ (by omega)
theorem PV.add(a:ev kv x=some (.int .i64 p)) (hy:ev kv y=some (.int .i64 q)) (h1:-9223372036854775808≤p+q) (b:p+q≤9223372036854775807)
   : PV P (.binOp .add T x y U) ty kv w (.int .i64 (p+q)):=
 ⟨rfl,(by simp [known,opers,a,hy]),fun _ _ _ _=>dF .add (by simp) _ (by simp only [Op.intArith,nj h1 b];rfl) a hy⟩
theorem PV.sub(a:ev kv x=some (.int .i64 p)) (hy:ev kv y=some (.int .i64 q)) (h1:-9223372036854775808≤p - q) (b:p - q≤9223372036854775807)
   : PV P (.binOp .sub T x y U) ty kv w (.int .i64 (p - q)):=
 ⟨rfl,(by simp [known,opers,a,hy]),fun _ _ _ _=>dF .sub (by simp) _ (by simp only [Op.intArith,nj h1 b];rfl) a hy⟩
theorem PV.mul(a:ev kv x=some (.int .i64 p)) (hy:ev kv y=some (.int .i64 q)) (h1:-9223372036854775808≤p*q) (b:p*q≤9223372036854775807)
   : PV P (.binOp .mul T x y U) ty kv w (.int .i64 (p*q)):=
 ⟨rfl,(by simp [known,opers,a,hy]),fun _ _ _ _=>dF .mul (by simp) _ (by simp only [Op.intArith,nj h1 b];rfl) a hy⟩
theorem PV.rem(a:ev kv x=some (.int k p)) (hy:ev kv y=some (.int k q)) (h0:q≠0)
   : PV P (.binOp .rem T x y U) ty kv w (.int k (p.tmod q)):=
 ⟨rfl,(by simp [known,opers,a,hy]),fun _ _ _ _=>dF .rem (by simp) _ (by simp only [Op.intDiv,if_neg h0];rfl) a hy⟩
theorem PV.quo(a:ev kv x=some (.int .i64 p)) (hy:ev kv y=some (.int .i64 q)) (h0:q≠0) (h1:-9223372036854775808≤p.tdiv q) (b:p.tdiv q≤9223372036854775807)
   : PV P (.binOp .quo T x y U) ty kv w (.int .i64 (p.tdiv q)):=
 ⟨rfl,(by simp [known,opers,a,hy]),fun _ _ _ _=>dF .quo (by simp) _ (by simp only [Op.intDiv,if_neg h0,nj h1 b];rfl) a hy⟩
end
theorem PV.not{T:TypeId}{x:Operand}{b:Bool}(a:ev kv x=some (.bool b)) :PV P (.unOp .not T x) ty kv w (.bool (!b)):=
 ⟨rfl,(by simp [known,opers,a]),fun _ _ _ _=>by simp only [execOp,aI a];rfl⟩
theorem PV.ext{x:Operand}{vs:Array Value}{i:Nat}{v:Value}(a:ev kv x=some (.tuple vs)) (hi:vs[i]?=some v) :PV P (.extract x i) ty kv w (v):=
 ⟨rfl,(by simp [known,opers,a]),fun _ _ _ _=>by simp only [execOp,aI a,Instr.extract,hi];rfl⟩
theorem PV.Ns{x:Operand}{a:Addr}(b:ev kv x=some (.pointer (some a))) :PV P (.nilCheck x) ty kv w (.pointer (some a)):=
 ⟨rfl,(by simp [known,opers,b]),fun _ _ _ _=>by simp only [execOp,aI b];rfl⟩
/-! strings -/
section
variable {T U:TypeId}{x y:Operand}{p q:ByteArray}
theorem PV.eqs(a:ev kv x=some (.string p)) (hy:ev kv y=some (.string q)) :PV P (.binOp .eql T x y U) ty kv w (.bool (decide (p=q))):=
 ⟨rfl,(by simp [known,opers,a,hy]),fun _ _ _ _=>by
  have:(p.toList == q.toList)=decide (p=q):=by
   by_cases e:p=q
   ·
    simp [e]
   have:p.toList≠q.toList:=fun h=>e (ByteArray.ext (Array.toList_inj.1 (by rw [← ByteArray.toList_eq,← ByteArray.toList_eq];exact h)))
   simp [e,this]
  simp only [execOp,aI a,aI hy,eqGuard,binOp,Op.stringOp,this]
  rfl⟩
theorem PV.RM(a:ev kv x=some (.string p)) (hy:ev kv y=some (.string q)) :PV P (.binOp .neq T x y U) ty kv w (.bool (decide (p≠q))):=
 ⟨rfl,(by simp [known,opers,a,hy]),fun _ _ _ _=>by
  have:(p.toList == q.toList)=decide (p=q):=by
   by_cases e:p=q
   ·
    simp [e]
   have:p.toList≠q.toList:=fun h=>e (ByteArray.ext (Array.toList_inj.1 (by rw [← ByteArray.toList_eq,← ByteArray.toList_eq];exact h)))
   simp [e,this]
  have b:(!decide (p=q))=decide (p≠q):=by simp
  simp only [execOp,aI a,aI hy,eqGuard,binOp,Op.stringOp,this,b]
  rfl⟩
theorem PV.cat(a:ev kv x=some (.string p)) (hy:ev kv y=some (.string q)) (b:p.size+q.size≤9223372036854775807) :PV P (.binOp .add T x y U) ty kv w (.string (p++q)):=
 ⟨rfl,(by simp [known,opers,a,hy]),fun _ _ _ _=>by
  have hm:¬(((p.size+q.size:Nat):Int) > IntKind.i64.max):=by rw [IntKind.max_i64];omega
  simp only [execOp,aI a,aI hy,eqGuard,binOp,Op.stringOp,if_neg hm]
  rfl⟩
theorem PV.sH(hT:P.underlying T=some .string) (a:ev kv x=some (.string p)) :PV P (.call {callee:=.builtin .len,args:=#[x],argTypes:=#[T]}) ty kv w (.int .i64 (p.size:Int)):=
 ⟨rfl,(by simp [known,opers,a]),fun _ _ _ _=>by
  simp [execOp,aI a,resolve,invoke,builtin,Builtin.len_,run_underlying hT,goInt]⟩
end
theorem PV.len{T E:TypeId}{x:Operand}{a:Option Addr}{m c:Nat}(hT:P.underlying T=some (.slice E)) (b:ev kv x=some (.slice a m c)) :PV P (.call {callee:=.builtin .len,args:=#[x],argTypes:=#[T]}) ty kv w (.int .i64 (m:Int)):=
 ⟨rfl,(by simp [known,opers,b]),fun _ _ _ _=>by
  simp [execOp,aI b,resolve,invoke,builtin,Builtin.len_,run_underlying hT,goInt]⟩
end
end Go.Rc

namespace Go.Rc
open Go
structure aQ (S:List Nat) (w w':World):Prop where
 os:w'.os=w.os
 tape:w'.tape=w.tape
 output:w'.output=w.output
 size:w.heap.size≤w'.heap.size
 drawn:w.drawn≤w'.drawn
 block:∀k,k<w.heap.size→k∉S→w'.heap[k]?=w.heap[k]?
theorem aQ.refl(S:List Nat) (w:World):aQ S w w:=⟨rfl,rfl,rfl,Nat.le_refl _,Nat.le_refl _,fun _ _ _=>rfl⟩
theorem aQ.trans{S:List Nat}{a b c:World}(h:aQ S a b) (k:aQ S b c):aQ S a c:=
 ⟨k.os.trans h.os,k.tape.trans h.tape,k.output.trans h.output,Nat.le_trans h.size k.size,Nat.le_trans h.drawn k.drawn,
  fun i hi hS=>(k.block i (Nat.lt_of_lt_of_le hi h.size) hS).trans (h.block i hi hS)⟩
theorem aQ.trans'{S S':List Nat}{a b c:World}(h:aQ S a b) (k:aQ S' b c) (hS:∀x,x∈S'→x∈S∨a.heap.size≤x):aQ S a c:=
 ⟨k.os.trans h.os,k.tape.trans h.tape,k.output.trans h.output,Nat.le_trans h.size k.size,Nat.le_trans h.drawn k.drawn,
  fun i hi hn=>(k.block i (Nat.lt_of_lt_of_le hi h.size) (fun hm=>by grind)).trans (h.block i hi hn)⟩
theorem aQ.mono{S S':List Nat}{a b:World}(h:aQ S a b) (hS:∀x,x∈S→x∈S'):aQ S' a b:=
 ⟨h.os,h.tape,h.output,h.size,h.drawn,fun i hi hn=>h.block i hi fun hm=>hn (hS i hm)⟩
theorem aQ.nil{S:List Nat}{a b:World}(h:aQ [] a b):aQ S a b:=h.mono (by simp)
theorem aQ.get{S:List Nat}{a b:World}(h:aQ S a b) {k:Nat}{o:Obj}(hk:a.heap[k]?=some o) (hS:k∉S):b.heap[k]?=some o:=by
 rw [h.block k (Array.getElem?_eq_some_iff.1 hk).1 hS,hk]
theorem aQ.drew(S:List Nat) (w:World):aQ S w {w with drawn:=w.drawn+1}:=⟨rfl,rfl,rfl,Nat.le_refl _,Nat.le_succ _,fun _ _ _=>rfl⟩
def cC(w:World) (b:Nat) (e:TypeId) (l:List Value):Prop:=w.heap[b]?=some (.cells l.toArray e (0,0))
theorem cC.lt{w:World}{b:Nat}{e:TypeId}{l:List Value}(h:cC w b e l):b<w.heap.size:=(Array.getElem?_eq_some_iff.1 h).1
theorem cC.bT{S:List Nat}{w w':World}{b:Nat}{e:TypeId}{l:List Value}(h:cC w b e l) (c:aQ S w w') (hS:b∉S):cC w' b e l:=c.get h hS
theorem cC.ext{w w':World}{b:Nat}{e:TypeId}{l:List Value}(h:cC w b e l) (c:aQ [] w w'):cC w' b e l:=c.get h (by simp)
theorem cC.range{w:World}{b:Nat}{e:TypeId}{l:List Value}(h:cC w b e l):w.rangeAt b 0 l:=fun j v a=>by
 have c:w.heap[b]?=some (.cells l.toArray e (0,0)):=h;simp only [World.cell?,c,Nat.zero_add]
 simpa using a
theorem aV{S:List Nat}{w w':World}{b o:Nat}{cs:List Value}(h:w.rangeAt b o cs) (c:aQ S w w') (hS:b∉S):w'.rangeAt b o cs:=fun j v e=>by
 have h1:=h j v e;have hb:b<w.heap.size:=World.block_lt_of_cell? w _ h1;rw [← h1];exact World.cell?_of_block (a:=⟨b,o+j,none⟩) (c.block b hb hS)
theorem oe{w:World}{b o:Nat}{cs:List Value}(h:w.rangeAt b o cs) (j:Nat) (us:List Value) (hu:∀i v,us[i]?=some v→cs[j+i]?=some v):w.rangeAt b (o+j) us:=fun i v a=>by
 rw [Nat.add_assoc];exact h (j+i) v (hu i v a)
def nth:List Value→Nat→Option Value
 | [],_=>none
 | v::_,0=>some v
 | _::r,i+1=>nth r i
theorem sJ(l:List Value):∀i,nth l i=l[i]?:=by
 induction l with
 | nil=>intro i;simp [nth]
 | cons v r a=>intro i;cases i <;> simp [nth,a]
def zk:List Value→Nat→Value→List Value
 | [],_,_=>[]
 | _::r,0,u=>u::r
 | v::r,i+1,u=>v::zk r i u
theorem JG(l:List Value) (u:Value):∀i,zk l i u=l.set i u:=by
 induction l with
 | nil=>intro i;simp [zk]
 | cons v r a=>intro i;cases i <;> simp [zk,a]
section
variable {P:Program}{n:Nat}{kv:KV}{w:World}{K:KV→World→Prop}
variable {d:Tmp}{ty:TypeId}{pos:String}{af:Array Edge}{g:Option (Nat × Bool)}{T:TypeId}
def One(P:Program) (T:TypeId):Prop:=∀w,(isAgg T).run P w=.ok false w
def rS(P:Program) (T:TypeId) (k:Nat):Prop:=(∃fs,P.underlying T=some (.struct fs))∧(P.info? T).map (·.size)=some k
theorem rS.row{k:Nat}(h:rS P T k):∃a,P.underlying T=some a∧a.isRow=true:=by
 obtain⟨⟨fs,h⟩,_⟩:=h;exact⟨_,h,rfl⟩
theorem Addr.sK(b o j:Nat):(⟨b,o,none⟩:Addr).add j=⟨b,o+j,none⟩:=Addr.add_mid b o j
/-! ### loads -/
theorem D2(hT:One P T) {b o:Nat}{v:Value}(hc:w.cell? ⟨b,o,none⟩=some v):(Instr.loadAt T (.pointer (some ⟨b,o,none⟩))).run P w=.ok v w:=by
 simp only [Instr.loadAt,Instr.sureAddr,Sem.run_bind,Sem.run_pure,Result.andThen_ok,loadVar,hT w,Bool.false_eq_true,if_false]
 simp [load,Sem.run,hc]
theorem PV.ld1(hT:One P T) {x:Operand}{b o j:Nat}{vs:List Value}{v:Value}(hc:w.rangeAt b o vs) (a:ev kv x=some (.pointer (some ⟨b,o+j,none⟩))) (c:nth vs j=some v)
   : PV P (.load T x) ty kv w (v):=
 ⟨rfl,(by simp [known,opers,a]),fun _ _ _ _=>by simp only [execOp,aI a,Sem.run_bind,D2 hT (hc j v (by rw [← sJ];exact c)),Result.andThen_ok];rfl⟩
theorem PV.nI(hT:One P T) {x:Operand}{b o:Nat}{vs:List Value}{v:Value}(hc:w.rangeAt b o vs) (a:ev kv x=some (.pointer (some ⟨b,o,none⟩))) (c:nth vs 0=some v)
   : PV P (.load T x) ty kv w (v):=
 ⟨rfl,(by simp [known,opers,a]),fun _ _ _ _=>by simp only [execOp,aI a,Sem.run_bind,D2 hT (show w.cell? ⟨b,o,none⟩=some v from hc 0 v (by rw [← sJ];exact c)),Result.andThen_ok];rfl⟩
theorem PV.Fa{k:Nat}(hT:rS P T k) {x:Operand}{b o:Nat}{vs:List Value}(hc:w.rangeAt b o vs) (hl:vs.length=k) (a:ev kv x=some (.pointer (some ⟨b,o,none⟩))) :
  PV P (.load T x) ty kv w (.agg vs.toArray):=by
 obtain⟨c,hu,hr⟩:=hT.row;exact⟨rfl,by simp [known,opers,a],fun _ _ _ _=>by simp only [execOp,aI a,Sem.run_bind,run_loadAt_mid w b o T vs c hc hu hr (by rw [hT.2,hl]),Result.andThen_ok];rfl⟩
def LU(vs:List Value):Nat→Nat→Option (List Value)
 | _,0=>some []
 | j,k+1=>match nth vs j with
  | none=>none
  | some v=>match LU vs (j+1) k with
   | none=>none
   | some r=>some (v::r)
theorem zl(vs:List Value):∀(k j:Nat) (us:List Value),LU vs j k=some us→us.length=k∧∀i v,us[i]?=some v→vs[j+i]?=some v:=by
 intro k
 induction k with
 | zero=>grind [LU]
 | succ k a=>
  intro j us h;simp only [LU] at h
  split at h
  ·
   cases h
  rename_i v b
  split at h
  ·
   cases h
  rename_i r hr
  simp only [Option.some.injEq] at h;subst h;obtain⟨h1,c⟩:=a (j+1) r hr;refine⟨by simp [h1],fun i u hu=>?_⟩
  cases i with
  | zero=>grind [sJ]
  | succ i=>grind
theorem PV.xE{k j:Nat}(hT:rS P T k) {x:Operand}{b o:Nat}{vs us:List Value}(hc:w.rangeAt b o vs) (c:ev kv x=some (.pointer (some ⟨b,o+j,none⟩))) (a:LU vs j k=some us) :
  PV P (.load T x) ty kv w (.agg us.toArray):=
 PV.Fa hT (oe hc j us (zl vs k j us a).2) (zl vs k j us a).1 c
/-! ### addresses -/
def FA(P:Program) (T:TypeId) (f off:Nat):Prop:=∀(b o:Nat) (w:World),(Instr.fieldAt T (.pointer (some ⟨b,o,none⟩)) f).run P w=.ok (.pointer (some ⟨b,o+off,none⟩)) w
theorem PV.fa{f off:Nat}(hT:FA P T f off) {x:Operand}{b o:Nat}(a:ev kv x=some (.pointer (some ⟨b,o,none⟩))) :
  PV P (.fieldAddr T x f) ty kv w (.pointer (some ⟨b,o+off,none⟩)):=
 ⟨rfl,by simp [known,opers,a],fun _ _ _ _=>by simp only [execOp,aI a,Sem.run_bind,hT b o w,Result.andThen_ok];rfl⟩
structure wG (P:Program) (T E k:Nat):Prop where
 zm:P.underlying T=some (.slice E)
 size:∀w,(sizeOf E).run P w=.ok k w
theorem PV.ix{E k:Nat}(hT:wG P T E k) {x y:Operand}{b o m c i:Nat}(a:ev kv x=some (.slice (some ⟨b,o,none⟩) m c)) (hy:ev kv y=some (.int .i64 (i:Int))) (hi:i<m)
   : PV P (.indexAddr T x y) ty kv w (.pointer (some ⟨b,o+i*k,none⟩)):=
 ⟨rfl,(by simp [known,opers,a,hy]),fun _ _ _ _=>by
  simp only [execOp,aI a,aI hy,Instr.indexAt]
  simp [asIntOf,run_underlying hT.zm,hi,hT.size,Addr.sK]⟩
theorem PV.gE{E k:Nat}(hT:wG P T E k) {x:Operand}{a:Option Addr}{m c:Nat}(b:ev kv x=some (.slice a m c)) :
  PV P (.call {callee:=.builtin .len,args:=#[x],argTypes:=#[T]}) ty kv w (.int .i64 (m:Int)):=PV.len hT.zm b
/-! ### new blocks -/
theorem jv(w:World) (o:Obj):aQ [] w (w.alloc o):=⟨rfl,rfl,rfl,by simp,Nat.le_refl _,fun k hk _=>RowKit.Below.heap_alloc w o k hk⟩
theorem kT(w:World) (o:Obj):(w.alloc o).heap[w.heap.size]?=some o:=heap_alloc_new w o
structure zn (w w':World) (b:Nat):Prop where
 ext:aQ [] w w'
 ge:w.heap.size≤b
 lt:b<w'.heap.size
def ZV(P:Program) (T:TypeId) (l:List Value):Prop:=∃z:Value,(∀w,(zeroValue T).run P w=.ok z w)∧z.cells=l.toArray
theorem OX.alloc{l:List Value}(hT:ZV P T l) (a:Nat.blt d n=true) (h:∀b w',zn w w' b→cC w' b T l→K ((d,.pointer (some ⟨b,0,none⟩))::kv) w') :
  OX P ⟨some d,.alloc T,ty,pos,af,g⟩ n kv w K:=by
 obtain⟨z,c,hl⟩:=hT;refine⟨rfl,a,by simp [known,opers],?_⟩
 have hr:(execOp (jk kv) ⟨some d,.alloc T,ty,pos,af,g⟩).run P w=.ok (.value (.pointer (some ⟨w.heap.size,0,none⟩))) (w.alloc (.cells l.toArray T)):=by
  simp only [execOp,Instr.alloc,Sem.run_bind,c w,Result.andThen_ok,newVar,newRow,hl]
  rfl
 rw [hr];exact h _ _ ⟨jv _ _,Nat.le_refl _,by simp⟩ (kT _ _)
theorem OX.box{x:Operand}{v:Value}{l:List Value}(c:Nat.blt d n=true) (a:ev kv x=some v) (hl:v.cells=l.toArray) (h:∀b w',zn w w' b→cC w' b T l→K ((d,.pointer (some ⟨b,0,none⟩))::kv) w') :
  OX P ⟨some d,.box T x,ty,pos,af,g⟩ n kv w K:=by
 refine⟨rfl,c,by simp [known,opers,a],?_⟩
 have hr:(execOp (jk kv) ⟨some d,.box T x,ty,pos,af,g⟩).run P w=.ok (.value (.pointer (some ⟨w.heap.size,0,none⟩))) (w.alloc (.cells l.toArray T)):=by
  simp only [execOp,aI a,Instr.box,newVar,newRow,hl]
  rfl
 rw [hr];exact h _ _ ⟨jv _ _,Nat.le_refl _,by simp⟩ (kT _ _)
/-! ### stores into blocks of one's own -/
theorem lz(w:World) (b:Nat) (cs:Array Value):aQ [b] w (w.setRow b cs):=
 ⟨rfl,rfl,rfl,by simp,Nat.le_refl _,fun k _ hk=>setRow_other w b k cs (by simpa using hk)⟩
theorem D3{b j:Nat}{e:TypeId}{l:List Value}{v:Value}(hT:(P.info? T).map (·.size)=some 1) (hb:cC w b e l) (c:j<l.length) (h1:v.oneCell'=true) :
  (Instr.storeAt T (.pointer (some ⟨b,j,none⟩)) v).run P w=.ok () (w.setRow b (l.set j v).toArray):=by
 have hc:v.cells=#[v]:=by cases v <;> simp_all [Value.cells,Value.oneCell']
 have f:w.cell? ⟨b,j,none⟩=some l[j]:=by simp [World.cell?,show w.heap[b]?=_ from hb,c]
 have h:w.frozen? ⟨b,j,none⟩=false:=by simp [World.frozen?,show w.heap[b]?=_ from hb]
 have r:(store ⟨b,j,none⟩ v).run P w=.ok () (w.setRow b (l.set j v).toArray):=by
  rw [run_store P w _ v _ h1,f];simp only [h,Bool.false_eq_true,if_false];rw [setCell_eq_setRow w b j l.toArray e (0,0) v hb]
  simp
 cases a:P.info? T with
 | none=>simp [a] at hT
 | some i=>
  have s:i.size=1:=by simpa [a] using hT
  simp only [Instr.storeAt,Instr.sureAddr,Sem.run_bind,Sem.run_pure,Result.andThen_ok,storeVar,sizeOf,typeInfo]
  simp [a,s,hc,storeCells,r,Addr.add]
theorem OX.st{x y:Operand}{b j:Nat}{e:TypeId}{l l':List Value}{v:Value}(hT:(P.info? T).map (·.size)=some 1) (hb:cC w b e l) (a:ev kv x=some (.pointer (some ⟨b,0+j,none⟩))) (hy:ev kv y=some v)
  (f:nth l j≠none) (h1:v.oneCell'=true) (hl:zk l j v=l') (h:∀w',aQ [b] w w'→w'.heap.size=w.heap.size→cC w' b e l'→K kv w') :
  OX P ⟨none,.store T x y,ty,pos,af,g⟩ n kv w K:=by
 have c:j<l.length:=by grind [sJ]
 subst hl;rw [Nat.zero_add] at a;refine⟨rfl,rfl,by simp [known,opers,a,hy],?_⟩;simp only [execOp,aI a,aI hy,Sem.run_bind,D3 hT hb c h1,Result.andThen_ok];refine h _ (lz _ _ _) (by simp) ?_;rw [JG];exact setRow_heap w b _ _ e _ hb
theorem OX.aR{x y:Operand}{b:Nat}{e:TypeId}{l l':List Value}{v:Value}(hT:(P.info? T).map (·.size)=some 1) (hb:cC w b e l) (a:ev kv x=some (.pointer (some ⟨b,0,none⟩))) (hy:ev kv y=some v)
  (c:nth l 0≠none) (h1:v.oneCell'=true) (hl:zk l 0 v=l') (h:∀w',aQ [b] w w'→w'.heap.size=w.heap.size→cC w' b e l'→K kv w') :
  OX P ⟨none,.store T x y,ty,pos,af,g⟩ n kv w K:=OX.st (j:=0) hT hb a hy c h1 hl h
theorem og(b:Nat) (e:TypeId):∀(vs:List Value) (o:Nat) (w:World) (l:List Value),cC w b e l→o+vs.length≤l.length→w.setCells b o vs=w.setRow b (l.take o++vs++l.drop (o+vs.length)).toArray:=by
 intro vs
 induction vs with
 | nil=>
  intro o w l hb _;simp only [World.setCells,List.append_nil,List.length_nil,Nat.add_zero,List.take_append_drop];exact(setRow_self w b _ e _ hb).symm
 | cons v r a=>
  intro o w l hb hl
  have f:o<l.length:=by simp at hl;omega
  have h1:w.setCell ⟨b,o,none⟩ v=w.setRow b (l.set o v).toArray:=by rw [setCell_eq_setRow w b o l.toArray e (0,0) v hb];simp
  have c:cC (w.setRow b (l.set o v).toArray) b e (l.set o v):=setRow_heap w b _ _ e _ hb;simp only [World.setCells,h1];rw [a (o+1) _ _ c (by simp at hl ⊢;omega),setRow_setRow]
  congr 2
  apply List.ext_getElem?
  intro i
  have e1:min (o+1) l.length=o+1:=by omega
  have e2:min o l.length=o:=by omega
  simp only [List.getElem?_append,List.getElem?_take,List.getElem?_drop,List.length_append,List.length_take,List.length_set,List.getElem?_set,List.length_cons,e1,e2]
  grind
theorem OX.RN{x y:Operand}{k:Nat}{b o:Nat}{e:TypeId}{l us l':List Value}(hT:(P.info? T).map (·.size)=some k) (hb:cC w b e l) (a:ev kv x=some (.pointer (some ⟨b,o,none⟩))) (hy:ev kv y=some (.agg us.toArray))
  (hk:us.length=k) (c:o+us.length≤l.length) (h1:∀v∈us,v.oneCell'=true) (hl:l.take o++us++l.drop (o+us.length)=l')
  (h:∀w',aQ [b] w w'→w'.heap.size=w.heap.size→cC w' b e l'→K kv w') :
  OX P ⟨none,.store T x y,ty,pos,af,g⟩ n kv w K:=by
 subst hl;refine⟨rfl,rfl,by simp [known,opers,a,hy],?_⟩
 have f:w.there b o us.toArray.size:=fun j r=>by
  have s:o+j<l.length:=by simp at r;omega
  simp [World.cell?,World.frozen?,show w.heap[b]?=_ from hb,s]
 have hr:=run_storeAt_mid (P:=P) w b o T us.toArray f (by rw [hT];simp [hk]) (all_oneCell_toArray h1);simp only [execOp,aI a,aI hy,Sem.run_bind,hr,Result.andThen_ok];rw [og b e us.toArray.toList o w l hb (by simpa using c)];exact h _ (lz _ _ _) (by simp) (setRow_heap w b _ _ e _ hb)
theorem OX.lW{x y:Operand}{k:Nat}{b:Nat}{e:TypeId}{l us:List Value}(hT:(P.info? T).map (·.size)=some k) (hb:cC w b e l) (a:ev kv x=some (.pointer (some ⟨b,0,none⟩))) (hy:ev kv y=some (.agg us.toArray))
  (hk:us.length=k) (hlen:l.length=k) (h1:us.all (·.oneCell')=true)
  (h:∀w',aQ [b] w w'→w'.heap.size=w.heap.size→cC w' b e us→K kv w') :
  OX P ⟨none,.store T x y,ty,pos,af,g⟩ n kv w K:=
 OX.RN hT hb a hy hk (by omega) (fun v c=>List.all_eq_true.1 h1 v c) (by simp;omega) h
/-! ### calls -/
def CF(P:Program) (f:FuncId):Prop:=∀args w,(callFunc f args).run P w=.ok (.enter f args) w
theorem OX.call{f:FuncId}(l:CF P f) {xs:List Operand}{c:Array TypeId}{args:List Value}(t:Nat.blt d n=true) (u:xs.map (ev kv)=args.map some)
  (h:Calls P f args.toArray w fun e w'=>∃v,e=.returned v∧K ((d,v)::kv) w') :
  OX P ⟨some d,.call {callee:=.value (.func f),args:=xs.toArray,argTypes:=c},ty,pos,af,g⟩ n kv w K:=by
 have A:∀x∈xs,∃v,ev kv x=some v:=fun x b=>by
  have:ev kv x∈xs.map (ev kv):=List.mem_map.2 ⟨x,b,rfl⟩
  grind
 refine⟨rfl,t,?_,?_⟩
 ·
  refine List.all_eq_true.2 fun x b=>?_;simp only [opers,List.mem_append] at b
  rcases b with b | b
  ·
   simp at b;subst b;rfl
  grind
 have z:(xs.toArray.map (jk kv))=args.toArray:=by
  simp only [List.map_toArray]
  congr 1
  have:∀(xs:List Operand) (args:List Value),xs.map (ev kv)=args.map some→xs.map (jk kv)=args:=by
   intro xs
   induction xs with
   | nil=>simp_all
   | cons x r B=>
    intro args h
    cases args with
    | nil=>simp at h
    | cons a s=>grind [aI]
  exact this xs args u
 have hr:(execOp (jk kv) ⟨some d,.call {callee:=.value (.func f),args:=xs.toArray,argTypes:=c},ty,pos,af,g⟩).run P w=.ok (.enter f args.toArray) w:=by
  simp only [execOp,resolve,z]
  simp [jk,ev,Deferred.ofValue,invoke,l args.toArray w]
 rw [hr];exact h
end
end Go.Rc

namespace Go.Rc
open Go
def cR(o:Oper):List Nat:=(o.after.toList.filter (Region.binds .any)).map (·.on)
def eM(ops:Array Oper) (i:Nat):List Nat:=match ops[i]? with | some o=>cR o | none=>[]
abbrev jF:=List (Nat × (World→Prop))
def iJ(j:Nat):List Nat→Bool
 | []=>false
 | x::r=>match Nat.beq x j with
  | true=>true
  | false=>iJ j r
theorem gK{j:Nat}:∀{l:List Nat},iJ j l=true↔j∈l
 | []=>by simp [iJ]
 | x::r=>by
  simp only [iJ]
  cases h:Nat.beq x j with
  | true=>have:x=j:=Nat.eq_of_beq_eq_true h;simp [this]
  | false=>
   have a:x≠j:=fun e=>by rw [e] at h;simp at h
   rw [gK]
   simp [a.symm]
def Cb:jF→World→Prop
 | [],_=>True
 | (_,f)::r,w=>f w∧Cb r w
def zo(ds:List Nat):jF→World→Prop
 | [],_=>True
 | (j,f)::r,w=>(match iJ j ds with | true=>f w | false=>True)∧zo ds r w
theorem G2{F:jF}{w:World}:Cb F w↔∀p∈F,p.2 w:=by
 induction F with
 | nil=>simp [Cb]
 | cons p r a=>obtain⟨j,f⟩:=p;simp [Cb,a]
theorem D4{ds:List Nat}{F:jF}{w:World}(h:∀p∈F,p.1∈ds→p.2 w):zo ds F w:=by
 induction F with
 | nil=>simp [zo]
 | cons p r a=>
  obtain⟨j,f⟩:=p;refine⟨?_,a fun q b=>h q (by simp [b])⟩
  cases he:iJ j ds with
  | true=>exact h (j,f) (by simp) (gK.1 he)
  | false=>trivial
section
variable (P:Program) (ops:Array Oper) (n:Nat) (C:World→Prop) (T:Nat→World→World→Prop) (E:Nat→Option (Value→World→Prop)) (Fin:KV→World→Prop)
def DW:Nat→List Oper→KV→jF→Prop
 | _,[],kv,F=>∀w,C w→Cb F w→Fin kv w
 | i,o::rest,kv,F=>
  a7 o.op=false∧oQ n o.dst=true∧
  ((gd ops kv o=some false∧DW (i+1) rest (kR kv o.dst undef) F)∨
   (gd ops kv o=some true∧known kv o.op=true∧E i=none∧∃e,(∀w,C w→(execOp (jk kv) o).run P w=.ok (.value e) w)∧DW (i+1) rest (kR kv o.dst e) F)∨
   (gd ops kv o=some true∧known kv o.op=true∧∃S,E i=some S∧
    (∀w,C w→zo (cR o) F w→oR P ((execOp (jk kv) o).run P w) fun v w'=>C w'∧T i w w'∧S v w')∧
    (∀v w,C w→S v w→DW (i+1) rest (kR kv o.dst v) ((i,S v)::F))))
end
def fh(ops:Array Oper) (i:Nat):Option Tmp:=(ops[i]?).bind (·.dst)
def rT(ops:Array Oper) (kv:KV) (aX:Nat→Value):Nat→KV
 | 0=>kv
 | i+1=>kR (rT ops kv aX i) (fh ops i) (aX i)
theorem Cc{ops:Array Oper}{kv:KV}{aX bV:Nat→Value}:∀i,(∀j,j<i→aX j=bV j)→rT ops kv aX i=rT ops kv bV i:=by
 intro i
 induction i with
 | zero=>intro _;rfl
 | succ i a=>intro h;simp only [rT];rw [a fun j b=>h j (by omega),h i (by omega)]
theorem zq{kv:KV}{dst:Option Tmp}{v u:Value}{t:Nat}(h:look (kR kv dst v) t=some u):(dst=some t∧u=v)∨(dst≠some t∧look kv t=some u):=by
 cases dst with
 | none=>exact .inr ⟨by simp,h⟩
 | some d=>
  simp only [kR,look] at h
  cases hb:Nat.beq d t with
  | true=>
   rw [hb] at h
   have:d=t:=Nat.eq_of_beq_eq_true hb
   simp at h
   exact .inl ⟨by rw [this],h.symm⟩
  | false=>
   rw [hb] at h
   have a:d≠t:=fun e=>by rw [e] at hb;simp at hb
   exact .inr ⟨by simpa using a,h⟩
theorem wH{ops:Array Oper}{kv:KV}{aX:Nat→Value}{t:Nat}{u:Value}:∀i,look (rT ops kv aX i) t=some u→
  (∃j,j<i∧fh ops j=some t∧u=aX j)∨((∀j,j<i→fh ops j≠some t)∧look kv t=some u):=by
 intro i
 induction i with
 | zero=>intro h;exact .inr ⟨fun j e=>by omega,h⟩
 | succ i f=>
  intro h
  rcases zq h with⟨h1,a⟩ | ⟨h1,a⟩
  ·
   exact .inl ⟨i,by omega,h1,a⟩
  rcases f a with⟨j,e,b,c⟩ | ⟨b,c⟩
  ·
   exact .inl ⟨j,by omega,b,c⟩
  refine .inr ⟨fun j e=>?_,c⟩
  rcases Nat.lt_or_ge j i with l | r
  ·
   exact b j l
  rw [show j=i by omega];exact h1
def nP(ops:Array Oper) (o:Oper) (a:Act) (kv:KV):Prop:=∀t v,t∈o.looksAt ops→look kv t=some v→a.tmps.getD t undef=v
theorem nP.exec{ops:Array Oper}{o:Oper}{a:Act}{kv:KV}(h:nP ops o a kv) (f:a7 o.op=false) (hk:known kv o.op=true) :
  execOp a.eval o=execOp (jk kv) o:=by
 refine execOp_congr o (fun cs b e=>by rw [e] at f;simp [a7] at f) fun x l=>?_;obtain⟨v,c⟩:=Option.isSome_iff_exists.1 ((List.all_eq_true.1 hk) x (by rw [← zh];simpa using l))
 cases x with
 | tmp t=>
  have ht:t∈o.looksAt ops:=List.mem_append_left _ (List.mem_filterMap.2 ⟨.tmp t,by simpa using l,rfl⟩)
  have:=h t v ht c
  simp only [Act.eval,this,jk,c,Option.getD_some]
 | const u=>simp [ev] at c;subst c;simp [Act.eval,jk,ev]
 | global u=>simp [ev] at c;simp [Act.eval,jk,ev]
 | func u=>simp [ev] at c;simp [Act.eval,jk,ev]
theorem nP.wanted{ops:Array Oper}{o:Oper}{a:Act}{kv:KV}(h:nP ops o a kv) {b:Bool}(f:gd ops kv o=some b) :
  Region.wanted o (yielded ops a.tmps)=b:=by
 unfold gd at f
 unfold Region.wanted
 split at f
 ·
  rename_i s;rw [s];simpa using f
 rename_i j c s
 rw [s]
 simp only
 split at f
 ·
  rename_i d e
  have u:yielded ops a.tmps j=some d:=by
   unfold yielded
   cases ht:(ops[j]?).bind (·.dst) with
   | none=>rw [ht] at e;simp at e
   | some t=>
    rw [ht] at e;simp only [Option.bind_some] at e ⊢;have r:=h t _ (by unfold Oper.looksAt;rw [s];simp only;rw [ht];simp) e
    by_cases l:t<a.tmps.size
    ·
     simp [Array.getD,l] at r
     simp [l,r]
    simp [Array.getD,l,undef] at r
  rw [u]
  have hb:(d == c)=b:=by simpa using f
  rw [← hb]
  cases d <;> cases c <;> rfl
 ·
  rename_i d e
  have u:yielded ops a.tmps j=none:=by
   unfold yielded
   cases ht:(ops[j]?).bind (·.dst) with
   | none=>rfl
   | some t=>
    rw [ht] at e;simp only [Option.bind_some] at e ⊢;have r:=h t _ (by unfold Oper.looksAt;rw [s];simp only;rw [ht];simp) e
    by_cases l:t<a.tmps.size
    ·
     simp [Array.getD,l] at r
     simp [l,r]
    simp [l]
  rw [u]
  have hb:false=b:=by simpa using f
  rw [← hb]
  cases c <;> rfl
 cases f
/-! ### what is checked of the region -/
def nQ:List Oper→List Nat→List Nat
 | [],acc=>acc
 | o::r,acc=>nQ r (acc++[(cR o).foldl (fun s d=>s ||| ((2 ^ d) ||| acc.getD d 0)) 0])
structure RegB (ops:Array Oper) (m:Nat):Prop where
 le:m≤ops.size
 back:∀(i:Nat) o,ops[i]?=some o→∀k∈cR o,k<i
 waits:∀(i:Nat) o,i<m→ops[i]?=some o→∀t∈o.looksAt ops,∀j,j<m→fh ops j=some t→j∈cR o∨i∈eM ops j
 apart:∀i j,i<m→j<m→i≠j→∀t,fh ops i=some t→fh ops j≠some t
 ad0:∀(i:Nat) o,i<m→ops[i]?=some o→a7 o.op=false
def xF:List Oper→Nat→Bool
 | [],_=>true
 | o::r,i=>(cR o).all (fun k=>Nat.blt k i) && xF r (i+1)
def Nt(ops:List Oper) (m:Nat):Bool:=
 Nat.ble m ops.length && xF ops 0 &&
 (ops.take m).zipIdx.all (fun(o,i)=>let ds:=cR o;(o.looksAt ops.toArray).all fun t=>((ops.take m).zipIdx.all fun(p,j)=>p.dst != some t || iJ j ds || iJ i (cR p))) &&
 (let l:=(ops.take m).filterMap (·.dst);decide l.Nodup) && (ops.take m).all (fun o=>!a7 o.op)
theorem zs:∀(l:List Oper) (i:Nat),xF l i=true→∀(j:Nat) o,l[j]?=some o→∀k∈cR o,k<i+j:=by
 intro l
 induction l with
 | nil=>intro i _ j o h;simp at h
 | cons p r b=>
  intro i h j o a k hk;simp only [xF,Bool.and_eq_true,List.all_eq_true] at h
  cases j with
  | zero=>simp at a;subst a;have:=h.1 k hk;simp only [Nat.blt] at this;have:=Nat.le_of_ble_eq_true this;omega
  | succ j=>have:=b (i+1) h.2 j o (by simpa using a) k hk;omega
theorem Cd(acc:List Nat):∀(ds:List Nat) (s j:Nat),(ds.foldl (fun s d=>s ||| ((2 ^ d) ||| acc.getD d 0)) s).testBit j=true→
  s.testBit j=true∨∃d∈ds,j=d∨(acc.getD d 0).testBit j=true:=by
 intro ds
 induction ds with
 | nil=>intro s j h;exact .inl h
 | cons d r a=>
  intro s j h
  rcases a _ j h with h1 | ⟨d',b,h1⟩
  ·
   simp only [Nat.testBit_or,Bool.or_eq_true] at h1
   rcases h1 with h1 | h1 | h1
   ·
    exact .inl h1
   ·
    refine .inr ⟨d,by simp,.inl ?_⟩;simp only [Nat.testBit_two_pow,decide_eq_true_eq] at h1;exact h1.symm
   exact .inr ⟨d,by simp,.inr h1⟩
  exact .inr ⟨d',by simp [b],h1⟩
theorem sL(D:Nat→Prop):∀(l pre:List Oper) (acc:List Nat),acc.length=pre.length→
  (∀(j:Nat) o,D j→(pre++l)[j]?=some o→∀d∈cR o,D d)→
  (∀(k:Nat) o,pre[k]?=some o→(∀d∈cR o,D d)→∀j,(acc.getD k 0).testBit j=true→D j)→
  (∀(k:Nat) o,(pre++l)[k]?=some o→∀d∈cR o,d<k)→
  ∀(k:Nat) o,(pre++l)[k]?=some o→(∀d∈cR o,D d)→∀j,((nQ l acc).getD k 0).testBit j=true→D j:=by
 intro l
 induction l with
 | nil=>intro pre acc hlen h f hb k o a c j b;exact f k o (by simpa using a) c j b
 | cons p r A=>
  intro pre acc hlen h f hb k o a c j b;simp only [nQ] at b;refine A (pre++[p]) _ (by simp [hlen]) (by simpa using h) ?_ (by simpa using hb) k o (by simpa using a) c j b;intro k o a c j b
  rcases Nat.lt_or_ge k pre.length with H | I
  ·
   rw [List.getElem?_append_left (by omega)] at a;refine f k o a c j ?_
   simpa [List.getD,List.getElem?_append_left (show k<acc.length by omega)] using b
  have hk:k=pre.length:=by
   have:=(List.getElem?_eq_some_iff.1 a).1
   simp at this;omega
  subst hk
  simp at a
  subst a
  have e:(acc++[(cR p).foldl (fun s d=>s ||| ((2 ^ d) ||| acc.getD d 0)) 0]).getD pre.length 0=(cR p).foldl (fun s d=>s ||| ((2 ^ d) ||| acc.getD d 0)) 0:=by
   rw [← hlen];simp
  rw [e] at b
  rcases Cd acc _ _ _ b with h1 | ⟨d,t,h1⟩
  ·
   simp at h1
  rcases h1 with rfl | h1
  ·
   exact c _ t
  have u:d<pre.length:=hb pre.length p (by simp) d t;have B:∃q,pre[d]?=some q:=⟨pre[d],by simp [u]⟩;obtain⟨q,z⟩:=B;refine f d q z (fun x G=>h d q (c d t) ?_ x G) j h1;rw [List.getElem?_append_left u];exact z
theorem Fb{l:List Oper}{m:Nat}(h:Nt l m=true):RegB l.toArray m:=by
 simp only [Nt,Bool.and_eq_true] at h;obtain⟨⟨⟨⟨h1,D⟩,G⟩,H⟩,I⟩:=h;have hm:m≤l.length:=Nat.le_of_ble_eq_true h1
 have J:∀(i:Nat) o,l[i]?=some o→∀k∈cR o,k<i:=fun i o c k hk=>by have:=zs l 0 D i o c k hk;omega
 have e:∀(i:Nat) (o:Oper),i<m→l[i]?=some o→(l.take m)[i]?=some o:=fun i o hi c=>by rw [List.getElem?_take,if_pos hi];exact c
 have z:∀(j:Nat) t,fh l.toArray j=some t→∃p,l[j]?=some p∧p.dst=some t:=fun j t b=>by
  unfold fh at b
  simp only [List.getElem?_toArray] at b
  cases a:l[j]? with
  | none=>rw [a] at b;simp at b
  | some p=>rw [a] at b;exact⟨p,rfl,b⟩
 refine⟨by simpa using hm,fun i o c=>J i o (by simpa using c),?_,?_,fun i o hi c=>by simpa using List.all_eq_true.1 I o (List.mem_of_getElem? (e i o hi (by simpa using c)))⟩
 ·
  intro i o hi c t ht j b A
  have M:(o,i)∈(l.take m).zipIdx:=by rw [List.mem_zipIdx_iff_getElem?];exact e i o hi (by simpa using c)
  have:=List.all_eq_true.1 G (o,i) M
  have:=List.all_eq_true.1 this t ht
  obtain⟨p,a,f⟩:=z j t A
  have N:(p,j)∈(l.take m).zipIdx:=by
   rw [List.mem_zipIdx_iff_getElem?];exact e j p b a
  have:=List.all_eq_true.1 this (p,j) N
  simp only [Bool.or_eq_true,bne_iff_ne,ne_eq,f,not_true_eq_false,false_or] at this
  exact this.imp gK.1 fun h=>by simpa [eM,a] using gK.1 h
 intro i j hi b W t hit A;obtain⟨p,a,f⟩:=z i t hit;obtain⟨q,s,u⟩:=z j t A
 have B:((l.take m).filterMap (·.dst)).Nodup:=by simpa using H
 have key:∀(L:List Oper),(L.filterMap (·.dst)).Nodup→∀(i j:Nat) p q,i<j→L[i]?=some p→L[j]?=some q→p.dst=some t→q.dst≠some t:=by
  intro L
  induction L with
  | nil=>intro _ i j p q _ a;simp at a
  | cons x r O=>
   intro hn i j p q Y a s f u
   cases j with
   | zero=>omega
   | succ j=>
    cases i with
    | zero=>
     simp at a s
     subst a;rw [List.filterMap_cons,f] at hn;simp only [List.nodup_cons] at hn;exact hn.1 (List.mem_filterMap.2 ⟨q,List.mem_of_getElem? s,u⟩)
    | succ i=>
     refine O ?_ i j p q (by omega) (by simpa using a) (by simpa using s) f u;rw [List.filterMap_cons] at hn
     split at hn
     ·
      exact hn
     exact(List.nodup_cons.1 hn).2
 rcases Nat.lt_or_ge i j with V | Z
 ·
  exact key _ B i j p q V (e i p hi a) (e j q b s) f u
 exact key _ B j i q p (by omega) (e j q b s) (e i p hi a) u f
end Go.Rc

namespace Go.Rc
open Go
def oO(P:Program) {α:Type}(c:Sem α):Prop:=(∃v,∀w,c.run P w=.ok v w)∨∀w v w',c.run P w≠.ok v w'
theorem oO.pure{P:Program}{α:Type}(v:α):oO P (Pure.pure v:Sem α):=.inl ⟨v,fun _=>rfl⟩
theorem oO.bind{P:Program}{α β:Type}{c:Sem α}{f:α→Sem β}(h:oO P c) (a:∀v,oO P (f v)):oO P (c >>= f):=by
 rcases h with⟨v,h⟩ | h
 ·
  rcases a v with⟨u,hu⟩ | hu
  ·
   exact .inl ⟨u,fun w=>by rw [Sem.run_bind,h,Result.andThen_ok];exact hu w⟩
  exact .inr fun w u w'=>by rw [Sem.run_bind,h,Result.andThen_ok];exact hu w u w'
 refine .inr fun w u w' hr=>?_;rw [Sem.run_bind] at hr
 cases hc:c.run P w with
 | ok v w1=>exact h w v w1 hc
 | _=>rw [hc] at hr;simp [Result.andThen] at hr
theorem oO.use{P:Program}{α:Type}{c:Sem α}(h:oO P c) {w w':World}{v:α}(hr:c.run P w=.ok v w):c.run P w'=.ok v w':=by
 rcases h with⟨u,h⟩ | h
 ·
  rw [h] at hr ⊢;cases hr;rfl
 exact absurd hr (h _ _ _)
theorem oO.XJ{P:Program}{α:Type}{c:Sem α}(h:∀w v w',c.run P w≠.ok v w'):oO P c:=.inr h
theorem jG{P:Program}{α β:Type}{c:Sem α}{f:α→Sem β}(h:∀a w v w',(f a).run P w≠.ok v w') (w:World) (v:β) (w':World):(c >>= f).run P w≠.ok v w':=fun hr=>by
 rw [Sem.run_bind] at hr
 cases hc:c.run P w with
 | ok u w1=>rw [hc,Result.andThen_ok] at hr;exact h u w1 v w' hr
 | _=>rw [hc] at hr;simp [Result.andThen] at hr
theorem Ce{P:Program}{α:Type}(u:Value) (w:World) (v:α) (w':World):(goPanic u:Sem α).run P w≠.ok v w':=fun h=>by cases h
theorem pR{P:Program}{α:Type}(e:RuntimeError):∀(w:World) (v:α) (w':World),(runtimePanic e:Sem α).run P w≠.ok v w':=by
 unfold runtimePanic
 refine jG fun p=>?_
 cases e with
 | typeAssertion i c a m=>exact jG fun _=>jG fun _=>Ce _
 | panicNil=>exact jG fun _=>jG fun _=>Ce _
 | _=>exact Ce _
theorem oO.stuck{P:Program}{α:Type}(s:String):oO P (Go.stuck s:Sem α):=.inr fun _ _ _ h=>by cases h
theorem oO.RO{P:Program}{α:Type}(s:Unsupported):oO P (Go.unsupported s:Sem α):=.inr fun _ _ _ h=>by cases h
theorem oO.prog{P:Program}:oO P program:=.inl ⟨P,fun _=>rfl⟩
theorem oO.zm{P:Program}(t:TypeId):oO P (underlying t):=by
 unfold underlying
 refine .bind .prog fun p=>?_
 cases p.underlying t with
 | none=>exact .stuck _
 | some d=>exact .pure _
theorem oO.info{P:Program}(t:TypeId):oO P (typeInfo t):=by
 unfold typeInfo
 refine .bind .prog fun p=>?_
 split
 ·
  exact .pure _
 exact .stuck _
theorem oO.size{P:Program}(t:TypeId):oO P (sizeOf t):=by
 unfold Go.sizeOf
 exact .bind (.info t) fun _=>.pure _
theorem oO.bound{P:Program}(x:Value) (y:Nat) (c:BoundsCode):oO P (Instr.sliceBound x y c):=by
 unfold Instr.sliceBound
 refine .bind ?_ fun⟨k,i⟩=>?_
 ·
  unfold asIntOf
  split
  ·
   exact .pure _
  ·
   exact .RO _
  exact .stuck _
 simp only
 split
 ·
  exact .pure _
 unfold boundsPanic
 simp only
 split
 ·
  exact .XJ (jG fun _=>pR _)
 exact .XJ (jG fun _=>pR _)
theorem oO.bounds{P:Program}(b:Bool) (n c:Nat) (x:Value):oO P (Instr.sliceBounds b n c (some x) none none):=by
 unfold Instr.sliceBounds
 exact .bind (.pure _) fun _=>.bind (.pure _) fun _=>.bind (.bound _ _ _) fun _=>.pure _
theorem oO.slice{P:Program}(t:TypeId) (x y:Value):oO P (Instr.sliceAt t x (some y) none none):=by
 unfold Instr.sliceAt
 refine .bind (.zm t) fun d=>?_
 have b:oO P (Instr.slice t x (some y) none none):=by
  unfold Instr.slice
  refine .bind (.zm t) fun d=>?_
  split
  ·
   exact .bind (.bounds _ _ _ _) fun _=>.pure _
  ·
   exact .bind (.bounds _ _ _ _) fun _=>.bind (.size _) fun _=>.pure _
  ·
   refine .bind ?_ fun a=>.bind (.zm _) fun d=>?_
   ·
    unfold asAddr
    split
    ·
     exact .pure _
    ·
     exact .XJ (pR _)
    exact .stuck _
   split
   ·
    exact .bind (.bounds _ _ _ _) fun _=>.bind (.size _) fun _=>.pure _
   exact .stuck _
  exact .stuck _
 split
 ·
  refine .bind ?_ fun a=>.bind (.bounds _ _ _ _) fun _=>.bind (.size _) fun _=>.pure _
  unfold Instr.sureAddr
  split
  ·
   exact .pure _
  exact .stuck _
 exact b
end Go.Rc

namespace Go.Rc
open Go
def NP(Q:Exit→Act→World→Prop) (e:Exit) (a:Act) (w:World):Prop:=(∀c,e≠.panic c)∧Q e a w
theorem EX.np{Q:Exit→Act→World→Prop}{n:Nat}{kv:KV}{w:World}(h:EX Q .normal n kv w):EX (NP Q) .normal n kv w:=fun a b=>⟨fun c=>by simp,h a b⟩
def G3:Op→Bool
 | .move _ | .assign _ | .pick .. | .extract .. | .slice _ _ (some _) none none=>true
 | _=>false
theorem Nu{P:Program}{o:Oper}{e:Operand→Value}{v:Value}{w:World}(h:G3 o.op=true) (hr:(execOp e o).run P w=.ok (.value v) w) (w':World):(execOp e o).run P w'=.ok (.value v) w':=by
 cases b:o.op with
 | move x=>simp only [execOp,b] at hr ⊢;cases hr;rfl
 | assign x=>simp only [execOp,b] at hr ⊢;cases hr;rfl
 | pick c x y=>
  simp only [execOp,b] at hr ⊢
  generalize e c=u at hr ⊢
  cases u <;> first | (cases hr;rfl) | (cases hr;done)
 | extract t i=>
  simp only [execOp,b,Instr.extract] at hr ⊢
  generalize e t=u at hr ⊢
  cases u <;> first | (cases hr;done) | skip
  rename_i vs
  simp only at hr ⊢
  generalize vs[i]?=u at hr ⊢
  cases u <;> first | (cases hr;rfl) | (cases hr;done)
 | slice t x lo hi f=>
  rw [b] at h
  cases lo with
  | none=>cases h
  | some y=>
   cases hi with
   | some _=>cases h
   | none=>
    cases f with
    | some _=>cases h
    | none=>
     simp only [execOp,b,Option.map_some,Option.map_none] at hr ⊢
     have hi:oO P (Instr.sliceAt t (e x) (some (e y)) none none >>= fun a=>(Pure.pure (Next.value a):Sem Next)):=.bind (.slice _ _ _) fun _=>.pure _
     exact hi.use hr
 | _=>rw [b] at h;simp [G3] at h
structure JH (ops:Array Oper) (m:Nat) (X:List Nat):Prop extends RegB ops m where
 G4:X=[]∨∀(i:Nat) o,ops[i]?=some o→a7 o.op=false
 XK:∀x∈X,x<m
 xmv:∀x∈X,∀o,ops[x]?=some o→G3 o.op=true
 xap:∀x∈X,∀o,ops[x]?=some o→∀(j:Nat) p,ops[j]?=some p→j≠x→x∈cR p∨j∈cR o∨o.apart ops p=true
 tail:∀k,m≤k→k<ops.size→∀(D:Nat→Prop),(∀(j:Nat) o,D j→ops[j]?=some o→∀d∈cR o,D d)→(∀(x:Nat) o,x∈X→ops[x]?=some o→(∀d∈cR o,D d)→D x)→(∀o,ops[k]?=some o→∀d∈cR o,D d)→∀j,j<k→D j
def kU:List Nat→Nat
 | []=>0
 | d::r=>(2 ^ d) ||| kU r
theorem pS:∀{ds:List Nat}{d:Nat},d∈ds→(kU ds).testBit d=true
 | a::r,d,h=>by
  simp only [kU,Nat.testBit_or,Bool.or_eq_true]
  rcases List.mem_cons.1 h with rfl | h
  ·
   left;simp [Nat.testBit_two_pow]
  right;exact pS h
def G5(ops:List Oper):List Nat→Nat→Nat
 | [],s=>s
 | x::r,s=>G5 ops r (match ops[x]? with | some o=>(match Nat.beq (Nat.land (kU (cR o)) s) (kU (cR o)) with | true=>s ||| 2 ^ x | false=>s) | none=>s)
theorem wI{ops:List Oper}{D:Nat→Prop}:∀{X:List Nat}{s:Nat},(∀(x:Nat) o,x∈X→ops[x]?=some o→(∀d∈cR o,D d)→D x)→(∀j,s.testBit j=true→D j)→∀j,(G5 ops X s).testBit j=true→D j
 | [],_,_,h=>h
 | x::r,s,b,h=>by
  simp only [G5];refine wI (fun y o hy=>b y o (by simp [hy])) ?_
  cases c:ops[x]? with
  | none=>exact h
  | some o=>
   simp only
   cases hb:Nat.beq (Nat.land (kU (cR o)) s) (kU (cR o)) with
   | false=>exact h
   | true=>
    have he:(kU (cR o)) &&& s=kU (cR o):=Nat.eq_of_beq_eq_true hb;intro j a;simp only [Nat.testBit_or,Bool.or_eq_true,Nat.testBit_two_pow,decide_eq_true_eq] at a
    rcases a with a | rfl
    ·
     exact h j a
    refine b x o (by simp) c fun d e=>h d ?_;have h1:=pS e;rw [← he,Nat.testBit_and] at h1;simp only [Bool.and_eq_true] at h1;exact h1.2
def sM(ops:List Oper) (m:Nat) (X:List Nat):Bool:=
 Nt ops m && (X.isEmpty || ops.all (fun o=>!a7 o.op)) && X.all (fun x=>Nat.blt x m && (match ops[x]? with
  | some o=>G3 o.op && ops.zipIdx.all (fun(p,j)=>Nat.beq j x || iJ x (cR p) || iJ j (cR o) || o.apart ops.toArray p)
  | none=>true)) &&
 (let ms:=nQ ops [];(List.range ops.length).all fun k=>Nat.blt k m || (G5 ops X (ms.getD k 0)) % 2 ^ k == 2 ^ k - 1)
theorem wJ{l:List Oper}{m:Nat}{X:List Nat}(h:sM l m X=true):JH l.toArray m X:=by
 simp only [sM,Bool.and_eq_true] at h;obtain⟨⟨⟨h1,f⟩,G⟩,H⟩:=h;have z:=Fb h1;have I:∀(i:Nat) o,l[i]?=some o→∀k∈cR o,k<i:=fun i o a=>z.back i o (by simpa using a)
 have c:∀x∈X,x<m∧∀o,l[x]?=some o→G3 o.op=true∧∀(j:Nat) p,l[j]?=some p→j≠x→x∈cR p∨j∈cR o∨o.apart l.toArray p=true:=by
  intro x c;have t:=List.all_eq_true.1 G x c;simp only [Bool.and_eq_true] at t;refine⟨by have:=t.1;simp only [Nat.blt] at this;have:=Nat.le_of_ble_eq_true this;omega,fun o a=>?_⟩;have r:=t.2;rw [a] at r;simp only [Bool.and_eq_true] at r;refine⟨r.1,fun j p u J=>?_⟩;have b:=List.all_eq_true.1 r.2 (p,j) (by rw [List.mem_zipIdx_iff_getElem?];exact u);simp only [Bool.or_eq_true] at b
  rcases b with((b | b) | b) | b
  ·
   exact absurd (Nat.eq_of_beq_eq_true b) J
  ·
   exact .inl (gK.1 b)
  ·
   exact .inr (.inl (gK.1 b))
  exact .inr (.inr b)
 refine {z with G4:=?_,XK:=fun x h=>(c x h).1,xmv:=fun x h o a=>((c x h).2 o (by simpa using a)).1,xap:=fun x h o a j p u=>((c x h).2 o (by simpa using a)).2 j p (by simpa using u),tail:=?_}
 ·
  simp only [Bool.or_eq_true] at f;refine f.imp (by simp) fun f i o a=>?_
  have:=List.all_eq_true.1 f o (List.mem_of_getElem? (by simpa using a:l[i]?=some o))
  simpa using this
 intro k O A D L M hk j e
 have:=List.all_eq_true.1 H k (by simpa using A)
 simp only [Bool.or_eq_true,beq_iff_eq] at this
 rcases this with h | h
 ·
  simp only [Nat.blt] at h;have:=Nat.le_of_ble_eq_true h;omega
 have B:k<l.length:=by simpa using A
 refine wI (ops:=l) (X:=X) (s:=(nQ l []).getD k 0) (fun x o c a N=>M x o c (by simpa using a) N) (fun j e=>sL D l [] [] rfl (fun j o e a=>L j o e (by simpa using a)) (fun k o a=>by simp at a) (fun k o a=>I k o (by simpa using a)) k l[k] (by simp [B]) (hk l[k] (by simp [B])) j e) j ?_
 have hb:(G5 l X ((nQ l []).getD k 0) % 2 ^ k).testBit j=true:=by rw [h,Nat.testBit_two_pow_sub_one];simpa using e
 rw [Nat.testBit_mod_two_pow] at hb;simp only [Bool.and_eq_true] at hb;exact hb.2
section
variable {P:Program}{ops:Array Oper}{Q:Exit→Act→World→Prop}{n m:Nat}{X:List Nat}{C:World→Prop}{T:Nat→World→World→Prop}{E:Nat→Option (Value→World→Prop)}
structure JI (ops:Array Oper) (m:Nat) (a0:Act) (aX:Nat→Value) (o:Oper) (a:Act):Prop where
 dep:∀t∈o.looksAt ops,∀k∈cR o,k<m→fh ops k=some t→a.tmps.getD t undef=aX k
 vw:∀t∈o.looksAt ops,(∀k∈cR o,fh ops k≠some t)→a.tmps.getD t undef=a0.tmps.getD t undef
theorem JI.congr{a0 a:Act}{aX bV:Nat→Value}{o:Oper}(h:JI ops m a0 aX o a) (b:∀k∈cR o,bV k=aX k):JI ops m a0 bV o a:=
 ⟨fun t ht k hk hm c=>by rw [b k hk];exact h.dep t ht k hk hm c,h.vw⟩
structure Inv (P:Program) (ops:Array Oper) (n m:Nat) (C:World→Prop) (E:Nat→Option (Value→World→Prop)) (a0:Act) (L:Nat→Bool) (aX:Nat→Value) (a:Act) (w:World):Prop where
 c:C w
 size:a.tmps.size=n
 j6:a.defers=[]
 here:∀j,j<m→L j=true→∀t,fh ops j=some t→a.tmps.getD t undef=aX j
 vw:∀t,(∀j,j<m→L j=true→fh ops j≠some t)→a.tmps.getD t undef=a0.tmps.getD t undef
 LV:∀j o,j<m→L j=true→ops[j]?=some o→∃aj:Act,JI ops m a0 aX o aj∧(Region.wanted o (yielded ops aj.tmps)=false→aX j=undef)∧(Region.wanted o (yielded ops aj.tmps)=true→
  (E j=none→∃wj,C wj∧(execOp aj.eval o).run P wj=.ok (.value (aX j)) wj)∧∀S,E j=some S→S (aX j) w)
 closed:∀j o,j<m→L j=true→ops[j]?=some o→∀k∈cR o,L k=true
theorem Inv.now{a0 a:Act}(c:RegB ops m) {L:Nat→Bool}{aX:Nat→Value}{w:World}(b:Inv P ops n m C E a0 L aX a w)
  {i:Nat}{o:Oper}(hi:i<m) (r:ops[i]?=some o) (s:L i=false) (u:∀k∈cR o,L k=true):JI ops m a0 aX o a:=by
 refine⟨fun t ht k hk hm z=>b.here k hm (u k hk) t z,fun t ht hn=>b.vw t fun j e A f=>?_⟩
 rcases c.waits i o hi r t ht j e f with h | h
 ·
  exact hn j h f
 obtain⟨p,l⟩:∃p,ops[j]?=some p:=⟨ops[j]'(by have:=c.le;omega),by simp⟩;simp only [eM,l] at h
 have:=b.closed j p e A l i h
 rw [s] at this;cases this
theorem zt{a0 a:Act}{jw:KV}(b:RegB ops m) (h0:Fr n a0 jw) {aX bV:Nat→Value}{i:Nat}{o:Oper}(c:JI ops m a0 aX o a)
  (hi:i<m) (e:ops[i]?=some o) (r:∀k∈cR o,bV k=aX k):nP ops o a (rT ops jw bV i):=by
 intro t v ht hl
 rcases wH i hl with⟨j,z,f,rfl⟩ | ⟨s,u⟩
 ·
  rcases b.waits i o hi e t ht j (by omega) f with h | h
  ·
   rw [r j h];exact c.dep t ht j h (by omega) f
  obtain⟨p,l⟩:∃p,ops[j]?=some p:=⟨ops[j]'(by have:=b.le;omega),by simp⟩;simp only [eM,l] at h
  have:=b.back j p l i h
  omega
 rw [c.vw t ht fun k hk=>s k (b.back i o e k hk)];exact h0.val t v u
variable (hS:∀i S,E i=some S→∀j S',E j=some S'→j≠i→j∉eM ops i→∀v w w',C w→C w'→T j w w'→S v w→S v w')
include hS
theorem path{a0 a:Act}{jw:KV}{Fin:KV→World→Prop}(J:RegB ops m) (h0:Fr n a0 jw) {L:Nat→Bool}{aX:Nat→Value}{w:World}(A:Inv P ops n m C E a0 L aX a w)
  (Ww:DW P ops n C T E Fin 0 (ops.toList.take m) jw []):∀i,i≤m→∃bV F l,(∀j,L j=true→bV j=aX j)∧
   DW P ops n C T E Fin i ((ops.toList.take m).drop i) (rT ops jw bV i) F∧C l∧(∀j S v,j<m→L j=true→E j=some S→S v w→S v l)∧(∀p∈F,p.2 l)∧
   (∀p∈F,p.1<i∧(∃S v,E p.1=some S∧p.2=S v)∧(L p.1=true→p.2 w)):=by
 intro i
 induction i with
 | zero=>intro _;exact⟨aX,[],w,fun _ _=>rfl,by simpa [rT] using Ww,A.c,fun _ _ _ _ _ _ h=>h,by simp,by simp⟩
 | succ i ih=>
  intro hi;obtain⟨bV,F,l,hv,wK,t,G,H,B⟩:=ih (by omega)
  have hP:i<ops.size:=by have:=J.le;omega
  obtain⟨o,z⟩:∃o,ops[i]?=some o:=⟨ops[i],by simp [hP]⟩
  have hlen:i<(ops.toList.take m).length:=by simp;omega
  have G6:(ops.toList.take m).drop i=o::(ops.toList.take m).drop (i+1):=by
   rw [List.drop_eq_getElem_cons hlen]
   congr 1
   have:(ops.toList.take m)[i]?=some o:=by rw [List.getElem?_take,if_pos (by omega)];simpa using z
   rw [List.getElem?_eq_getElem hlen] at this
   simpa using this
  rw [G6] at wK
  have Cf:fh ops i=o.dst:=by simp [fh,z]
  have next:∀u,rT ops jw (fun j=>if j=i then u else bV j) (i+1)=kR (rT ops jw bV i) o.dst u:=fun u=>by
   simp only [rT,Cf,if_true];rw [Cc (bV:=bV) i fun j Z=>by rw [if_neg (by omega)]]
  have M:∀u,(L i=true→u=aX i)→∀j,L j=true→(if j=i then u else bV j)=aX j:=fun u hu j Z=>by
   by_cases e:j=i
   ·
    subst e;rw [if_pos rfl];exact hu Z
   rw [if_neg e];exact hv j Z
  have N:∀p∈F,p.1<i+1∧(∃S v,E p.1=some S∧p.2=S v)∧(L p.1=true→p.2 w):=fun p b=>⟨by have:=(B p b).1;omega,(B p b).2⟩;obtain⟨pT,xG,mw⟩:=wK
  have O:∀{aj},L i=true→JI ops m a0 aX o aj→nP ops o aj (rT ops jw bV i):=fun f r=>zt J h0 r (by omega) z fun k hk=>hv k (A.closed i o (by omega) f z k hk)
  rcases mw with⟨I,D⟩ | ⟨I,hk,s,e,jl,D⟩ | ⟨I,hk,S,s,G7,D⟩
  ·
   refine⟨fun j=>if j=i then undef else bV j,F,l,M _ fun f=>?_,by rw [next];exact D,t,G,H,N⟩;obtain⟨aj,r,hn,_⟩:=A.LV i o (by omega) f z;exact(hn ((O f r).wanted I)).symm
  ·
   refine⟨fun j=>if j=i then e else bV j,F,l,M _ fun f=>?_,by rw [next];exact D,t,G,H,N⟩;obtain⟨aj,r,_,hd⟩:=A.LV i o (by omega) f z;obtain⟨wj,RP,LW⟩:=(hd ((O f r).wanted I)).1 s;rw [(O f r).exec pT hk,jl wj RP] at LW
   simpa using LW
  by_cases f:L i=true
  ·
   obtain⟨aj,r,_,hd⟩:=A.LV i o (by omega) f z;have hSw:=(hd ((O f r).wanted I)).2 S s;have hSh:=G i S _ (by omega) f s hSw;refine⟨fun j=>if j=i then aX i else bV j,(i,S (aX i))::F,l,M _ fun _=>rfl,by rw [next];exact D _ l t hSh,t,G,?_,?_⟩
   ·
    intro p b
    rcases List.mem_cons.1 b with rfl | b
    ·
     exact hSh
    exact H p b
   intro p b
   rcases List.mem_cons.1 b with rfl | b
   ·
    exact⟨by simp,⟨S,_,s,rfl⟩,fun _=>hSw⟩
   exact N p b
  obtain⟨v,V,W,hT,Wx⟩:=(G7 l t (D4 fun p b _=>H p b)).exists;refine⟨fun j=>if j=i then v else bV j,(i,S v)::F,V,M _ fun h=>absurd h f,by rw [next];exact D _ V W Wx,W,fun j S' u qM rU Y h=>hS j S' Y i S s (fun e=>f (e ▸ rU)) (fun hm=>?_) u l V t W hT (G j S' u qM rU Y h),?_,?_⟩
  ·
   obtain⟨p,b⟩:∃p,ops[j]?=some p:=⟨ops[j]'(by have:=J.le;omega),by simp⟩;simp only [eM,b] at hm;exact f (A.closed j p qM rU b i hm)
  ·
   intro p b
   rcases List.mem_cons.1 b with rfl | b
   ·
    exact Wx
   obtain⟨_,⟨S',u,Y,B4⟩,_⟩:=B p b
   have:=H p b
   rw [B4] at this ⊢;refine hS p.1 S' Y i S s (by have:=(B p b).1;omega) (fun hm=>?_) u l V t W hT this;obtain⟨q,hq⟩:∃q,ops[p.1]?=some q:=⟨ops[p.1]'(by have:=(B p b).1;omega),by simp⟩;simp only [eM,hq] at hm
   have:=J.back p.1 q hq i hm
   have:=(B p b).1
   omega
  intro p b
  rcases List.mem_cons.1 b with rfl | b
  ·
   exact⟨by simp,⟨S,_,s,rfl⟩,fun h=>absurd h f⟩
  exact N p b
omit hS in
theorem Inv.put{a0 a:Act}{L:Nat→Bool}{aX:Nat→Value}{w w':World}{i:Nat}{o:Oper}{v:Value}(D:RegB ops m) (l:Inv P ops n m C E a0 L aX a w) (hi:i<m) (A:ops[i]?=some o) (I:L i=false)
  (J:∀k∈cR o,L k=true) (G:oQ n o.dst=true) (hc:C w') (W:∀j S u,j<m→L j=true→E j=some S→S u w→S u w')
  (Y:Region.wanted o (yielded ops a.tmps)=false→v=undef) (Z:Region.wanted o (yielded ops a.tmps)=true→E i=none→∃wj,C wj∧(execOp a.eval o).run P wj=.ok (.value v) wj)
  (G7:∀S,Region.wanted o (yielded ops a.tmps)=true→E i=some S→S v w') :
  Inv P ops n m C E a0 (fun j=>if j=i then true else L j) (fun j=>if j=i then v else aX j) (a.put o.dst v) w':=by
 have H:fh ops i=o.dst:=by simp [fh,A]
 have B:∀j,(if j=i then true else L j)=true→j=i∨(j≠i∧L j=true):=fun j h=>by
  by_cases e:j=i
  ·
   exact .inl e
  rw [if_neg e] at h;exact .inr ⟨e,h⟩
 have M:∀t,o.dst≠some t→(a.put o.dst v).tmps.getD t undef=a.tmps.getD t undef:=fun t ht=>by
  cases r:o.dst with
  | none=>rfl
  | some d=>
   have s:d≠t:=fun e=>ht (by rw [r,e])
   simp [Act.put,Array.getElem?_setIfInBounds_ne s]
 refine⟨hc,?_,?_,?_,?_,?_,?_⟩
 ·
  cases r:o.dst <;> simp [Act.put,l.size]
 ·
  cases r:o.dst <;> simp [Act.put,l.j6]
 ·
  intro j f b t z
  rcases B j b with rfl | ⟨s,b⟩
  ·
   rw [if_pos rfl];rw [H] at z
   have hts:t<a.tmps.size:=by
    rw [l.size];rw [z] at G;simp only [oQ,Nat.blt] at G;exact Nat.le_of_ble_eq_true G
   rw [z]
   simp [Act.put,hts]
  rw [if_neg s,M t fun r=>D.apart i j hi f (fun e=>s e.symm) t (by rw [H,r]) z];exact l.here j f b t z
 ·
  intro t ht;have h1:o.dst≠some t:=fun r=>ht i hi (by simp) (by rw [H,r]);rw [M t h1]
  exact l.vw t fun j f b=>ht j f (by by_cases e:j=i <;> simp [e,b])
 ·
  intro j p f b c
  have N:∀k∈cR p,(if k=i then v else aX k)=aX k:=fun k hk=>if_neg fun e=>by
   rcases B j b with rfl | ⟨_,b⟩
   ·
    have:=D.back j p c k hk;omega
   have:=l.closed j p f b c k hk
   rw [e,I] at this;cases this
  rcases B j b with rfl | ⟨s,b⟩
  ·
   rw [A] at c
   simp at c
   subst c;rw [if_pos rfl];exact⟨a,(l.now D hi A I J).congr N,Y,fun hw=>⟨Z hw,fun S=>G7 S hw⟩⟩
  obtain⟨aj,h1,h2,O⟩:=l.LV j p f b c;rw [if_neg s];exact⟨aj,h1.congr N,h2,fun hw=>⟨(O hw).1,fun S V=>W j S _ f b V ((O hw).2 S V)⟩⟩
 intro j p f b c k hk
 rcases B j b with rfl | ⟨s,b⟩
 ·
  rw [A] at c
  simp at c
  subst c
  by_cases e:k=j
  ·
   simp [e]
  rw [if_neg e];exact J k hk
 by_cases e:k=i
 ·
  simp [e]
 rw [if_neg e];exact l.closed j p f b c k hk
def left(L:Nat→Bool):Nat→Nat
 | 0=>0
 | k+1=>left L k+(!L k).toNat
omit hS in
theorem Fc{L:Nat→Bool}:∀{k:Nat},left L k=0→∀j,j<k→L j=true:=by
 intro k
 induction k with
 | zero=>intro _ j a;omega
 | succ k b=>
  intro h j a;simp only [left] at h
  rcases Nat.lt_or_ge j k with c | f
  ·
   exact b (by omega) j c
  rw [show j=k by omega]
  cases e:L k with
  | true=>rfl
  | false=>rw [e] at h;simp at h
omit hS in
theorem G8{L L':Nat→Bool}{i:Nat}(c:L i=false) (a:∀j,L' j=if j=i then true else L j):∀{k:Nat},(k≤i→left L' k=left L k)∧(i<k→left L' k+1=left L k):=by
 intro k
 induction k with
 | zero=>exact⟨fun _=>rfl,fun h=>by omega⟩
 | succ k b=>
  refine⟨fun h=>?_,fun h=>?_⟩
  ·
   simp only [left];rw [b.1 (by omega),a k,if_neg (by omega)]
  simp only [left]
  by_cases e:k=i
  ·
   subst e;rw [b.1 (Nat.le_refl _),a k,if_pos rfl,c]
   simp
  have:=b.2 (by omega)
  rw [a k,if_neg e]
  omega
omit hS in
theorem JJ(f:JH ops m X):∀(fuel k:Nat) (listed:Array Bool) (a:Act) (w:World),m≤k→k≤ops.size→(∀j,j<ops.size→listed[j]?=some (decide (j<k)))→listed.size=ops.size→
  ops.size - k≤fuel→wpList P ops Q (ops.toList.drop k) a w→wpAny P .any ops Q fuel listed a w:=by
 intro fuel
 induction fuel with
 | zero=>
  intro k listed a w A hk c hsz B h
  have D:k=ops.size:=by omega
  subst D;rw [List.drop_eq_nil_of_le (by simp)] at h;refine⟨?_,h⟩;refine List.eq_nil_iff_forall_not_mem.2 fun i hi=>?_;obtain⟨h0,o,l,_⟩:=mem_ready.1 hi;have b:i<ops.size:=(Array.getElem?_eq_some_iff.1 l).1
  have:=c i b
  simp [this,b] at h0
 | succ fuel G=>
  intro k listed a w A hk c hsz B h
  have H:∀i,i∈Region.ready .any ops listed→i=k∧k<ops.size:=by
   intro i hi;obtain⟨h0,o,l,I⟩:=mem_ready.1 hi;have b:i<ops.size:=(Array.getElem?_eq_some_iff.1 l).1;have hl:=c i b
   have t:¬i<k:=by
    intro J
    simp [hl,J] at h0
   refine⟨?_,by omega⟩
   rcases Nat.lt_or_ge k i with u | u
   ·
    exfalso
    have hD:=f.tail i (by omega) b (fun j=>j<k) (fun j p z r d s=>by have:=f.back j p r d s;omega) (fun x p L _ _=>by have:=f.XK x L;omega) (fun p r d s=>by
     rw [l] at r;simp at r;subst r
     unfold cR at s
     obtain⟨e,he,rfl⟩:=List.mem_map.1 s;obtain⟨M,N⟩:=List.mem_filter.1 he;have hb:=I e (by simpa using M) N
     have O:e.on<ops.size:=by have:=f.back i o l e.on (List.mem_map.2 ⟨e,he,rfl⟩);omega
     simp [c e.on O] at hb
     exact hb) k u
    omega
   omega
  refine⟨fun V=>?_,fun i hi=>?_⟩
  ·
   rcases Nat.lt_or_ge k ops.size with b | t
   ·
    exfalso
    have:k∈Region.ready .any ops listed:=by
     refine mem_ready.2 ⟨by simp [c k b],ops[k],by simp [b],fun e he hb=>?_⟩;have W:e.on<k:=f.back k ops[k] (by simp [b]) e.on (List.mem_map.2 ⟨e,List.mem_filter.2 ⟨by simpa using he,hb⟩,rfl⟩)
     simp [c e.on (by omega),W]
    rw [V] at this
    cases this
   rw [List.drop_eq_nil_of_le (by simpa using t)] at h;exact h
  obtain⟨rfl,b⟩:=H i hi
  have Y:ops.toList.drop i=ops[i]::ops.toList.drop (i+1):=by
   rw [List.drop_eq_getElem_cons (by simpa using b)];simp
  rw [Y] at h
  have Z:∀j,j<ops.size→(listed.setIfInBounds i true)[j]?=some (decide (j<i+1)):=fun j z=>by
   by_cases e:i=j
   ·
    subst e;simp [hsz,b]
   rw [Array.getElem?_setIfInBounds_ne e,c j z]
   congr 1
   simp only [decide_eq_decide]
   omega
  have next:=fun a w=>G (i+1) (listed.setIfInBounds i true) a w (by omega) (by omega) Z (by simpa using hsz) (by omega)
  unfold wpOp
  rw [show ops[i]?=some ops[i] by simp [b]]
  simp only
  unfold wpList at h
  by_cases hw:Region.wanted ops[i] (yielded ops a.tmps)=true
  ·
   rw [if_pos hw] at h;rw [if_pos hw];exact h.imp (Oper.wp_mono next) id
  rw [if_neg hw] at h;rw [if_neg hw];exact next _ _ h
omit hS in
theorem G9{J:(Nat→Bool)→Act→World→Prop}(u:JH ops m X) (hQ:X=[]∨∀c a w,¬Q (.panic c) a w)
  (Ha:∀L a w,J L a w→∀(j:Nat) p,j<m→L j=true→ops[j]?=some p→∀d∈cR p,L d=true)
  (O:∀L a w,J L a w→(∀j,j<m→L j=true)→wpList P ops Q (ops.toList.drop m) a w)
  (gg:∀L a w (i:Nat) o,J L a w→(∀j,m≤j→L j=false)→i<m→ops[i]?=some o→L i=false→(∀d∈cR o,L d=true)→
   (Region.wanted o (yielded ops a.tmps)=false∧J (fun j=>if j=i then true else L j) (a.put o.dst undef) w)∨
   (Region.wanted o (yielded ops a.tmps)=true∧oR P ((execOp a.eval o).run P w) (fun v w'=>J (fun j=>if j=i then true else L j) (a.put o.dst v) w')∧(i∈X→∃e,(execOp a.eval o).run P w=.ok (.value e) w))) :
  ∀(fuel:Nat) (listed:Array Bool) (a:Act) (w:World),listed.size=ops.size→left (fun j=>listed.getD j false) ops.size≤fuel→(∀j,m≤j→listed.getD j false=false)→J (fun j=>listed.getD j false) a w→wpAny P .any ops Q fuel listed a w:=by
 have hm:∀{listed:Array Bool},(∀j,m≤j→listed.getD j false=false)→(∀j,j<ops.size→listed.getD j false=true)→m=ops.size:=fun r A=>by
  rcases Nat.lt_or_ge m ops.size with h | h
  ·
   have h1:=A m h;rw [r m (Nat.le_refl _)] at h1;cases h1
  have:=u.le;omega
 intro fuel
 induction fuel with
 | zero=>
  intro listed a w hsz LX r D;have A:=Fc (Nat.le_zero.1 LX)
  have h:=O _ a w D fun j s=>A j (by have:=u.le;omega)
  rw [hm r A,List.drop_eq_nil_of_le (by simp)] at h;refine⟨List.eq_nil_iff_forall_not_mem.2 fun i hi=>?_,h⟩;obtain⟨h0,o,f,_⟩:=mem_ready.1 hi;have l:i<ops.size:=(Array.getElem?_eq_some_iff.1 f).1;have h1:=A i l;simp only [Array.getD_eq_getD_getElem?] at h0 h1
  cases H:listed[i]? with
  | none=>rw [H] at h0;simp at h0
  | some b=>rw [H] at h0 h1;simp at h0 h1;rw [h0] at h1;cases h1
 | succ fuel ih=>
  intro listed a w hsz LX r D
  have V:∀j,j<ops.size→∀b,listed.getD j b=listed.getD j false:=fun j s b=>by
   simp [Array.getD,show j<listed.size by omega]
  -- what may XL up
  have rdy:∀(j:Nat) o,ops[j]?=some o→listed.getD j false=false→(∀d∈cR o,listed.getD d false=true)→j∈Region.ready .any ops listed:=fun j o f hb G=>by
   have l:j<ops.size:=(Array.getElem?_eq_some_iff.1 f).1;exact mem_ready.2 ⟨by rw [V j l true,hb],o,f,fun e he hbd=>G e.on (List.mem_map.2 ⟨e,List.mem_filter.2 ⟨by simpa using he,hbd⟩,rfl⟩)⟩
  have ok:∀i,i∈Region.ready .any ops listed→∃o,ops[i]?=some o∧i<ops.size∧listed.getD i false=false∧∀k∈cR o,listed.getD k false=true:=fun i hi=>by
   obtain⟨hli,o,f,hdo⟩:=mem_ready.1 hi;have l:i<ops.size:=(Array.getElem?_eq_some_iff.1 f).1;refine⟨o,f,l,by rw [← V i l true];exact hli,fun k hk=>?_⟩
   unfold cR at hk
   obtain⟨e,he,rfl⟩:=List.mem_map.1 hk;obtain⟨W,Y⟩:=List.mem_filter.1 he;exact hdo e (by simpa using W) Y
  have next:∀(i:Nat) o v w',i<m→i<ops.size→listed.getD i false=false→J (fun j=>if j=i then true else listed.getD j false) (a.put o v) w'→wpAny P .any ops Q fuel (listed.setIfInBounds i true) (a.put o v) w':=fun i o v w' z l B Z=>by
   have XM:∀j,(listed.setIfInBounds i true).getD j false=if j=i then true else listed.getD j false:=fun j=>by
    by_cases e:j=i
    ·
     subst e;simp [hsz,l]
    rw [if_neg e]
    simp [Array.getElem?_setIfInBounds_ne (fun h=>e h.symm)]
   refine ih _ _ _ (by simpa using hsz) ?_ (fun j s=>by rw [XM,if_neg (by omega)];exact r j s) (by have e:(fun j=>(listed.setIfInBounds i true).getD j false)=(fun j=>if j=i then true else listed.getD j false):=funext XM;rw [e];exact Z)
   have:=(G8 (L:=fun j=>listed.getD j false) (L':=fun j=>(listed.setIfInBounds i true).getD j false) B XM (k:=ops.size)).2 l
   omega
  by_cases H:∃i,i∈X∧i∈Region.ready .any ops listed
  ·
   obtain⟨i,I,hi⟩:=H;obtain⟨o,f,l,B,G⟩:=ok i hi;have z:=u.XK i I;have hX:X≠[]:=List.ne_nil_of_mem I
   have first:∀v,Yields P ops o v a→J (fun j=>if j=i then true else listed.getD j false) (a.put o.dst v) w→wpAny P .any ops Q (fuel+1) listed a w:=fun v hy Z=>
    wpAny_first f (fun j p cs b t e=>by have:=u.G4.resolve_left hX j p t;rw [e] at this;simp [a7] at this) (fun c _ _ h=>absurd h (hQ.resolve_left hX _ _ _)) fuel listed a w
     (fun j p t LY hun JK=>by
      rcases u.xap i I o f j p t LY with h | h | h
      ·
       obtain⟨e,he,hei⟩:=List.mem_map.1 h;obtain⟨W,Y⟩:=List.mem_filter.1 he;exact absurd hei (JK e (by simpa using W) Y)
      ·
       have h1:=G j h;rw [V j (Array.getElem?_eq_some_iff.1 t).1 true,h1] at hun;cases hun
      exact h) hi hy (next i o.dst v w z l B Z)
   rcases gg _ a w i o D r z f B G with⟨hw,h⟩ | ⟨hw,h,he⟩
   ·
    exact first undef (.inr ⟨hw,rfl⟩) h
   obtain⟨e,he⟩:=he I;rw [he] at h
   exact first e (.inl ⟨hw,fun w'=>Nu (u.xmv i I o f) he w'⟩) h
  refine⟨fun Nv=>?_,fun i hi=>?_⟩
  ·
   have A:∀j,j<ops.size→listed.getD j false=true:=by
    intro j
    induction j using Nat.strongRecOn with
    | _ j ihj=>
     intro s
     cases hb:listed.getD j false with
     | true=>rfl
     | false=>
      have:=rdy j ops[j] (by simp [s]) hb fun k hk=>by
       have Wz:=u.back j ops[j] (by simp [s]) k hk;exact ihj k Wz (by omega)
      rw [Nv] at this
      cases this
   have h:=O _ a w D fun j s=>A j (by have:=u.le;omega)
   rw [hm r A,List.drop_eq_nil_of_le (by simp)] at h;exact h
  obtain⟨o,f,l,B,G⟩:=ok i hi
  rcases Nat.lt_or_ge i m with z | z
  ·
   unfold wpOp
   rw [f]
   simp only
   rcases gg _ a w i o D r z f B G with⟨hw,h⟩ | ⟨hw,h,_⟩
   ·
    rw [if_neg (by rw [hw];simp)];exact next i o.dst undef w z l B h
   rw [if_pos hw];exact .inl (wF h fun v w' h=>next i o.dst v w' z l B h)
  -- the first of the rest: all before it has XL up
  have hD:=u.tail i z l (fun j=>listed.getD j false=true) (fun j p s t d XN=>by
   have qM:j<m:=by
    rcases Nat.lt_or_ge j m with h | h
    ·
     exact h
    have:=r j h;rw [this] at s;cases s
   exact Ha _ a w D j p qM s t d XN) (fun x p hxX t hdx=>by
   cases hb:listed.getD x false with
   | true=>rfl
   | false=>exact absurd ⟨x,hxX,rdy x p t hb hdx⟩ H) (fun p t d XN=>by rw [f] at t;simp at t;subst t;exact G d XN)
  have XO:i=m:=by
   rcases Nat.lt_or_ge m i with h | h
   ·
    have h1:=hD m h;rw [r m (Nat.le_refl _)] at h1;cases h1
   omega
  subst XO
  have RQ:∀j,j<ops.size→listed[j]?=some (decide (j<i)):=fun j s=>by
   have M:j<listed.size:=by omega
   rcases Nat.lt_or_ge j i with N | N
   ·
    have:=hD j N
    simp [Array.getD,M] at this
    simp [M,this,N]
   have:=r j N
   simp [Array.getD,M] at this
   simp [M,this,show ¬j<i by omega]
  refine(JJ (P:=P) (Q:=Q) u (fuel+1) i listed a w (Nat.le_refl _) (by omega) RQ hsz ?_ (O _ a w D hD)).2 i hi
  have hl:∀k,k≤ops.size→left (fun j=>listed.getD j false) k≥k - i:=by
   intro k
   induction k with
   | zero=>intro _;simp
   | succ k ihk=>
    intro hk
    have:=ihk (by omega)
    simp only [left]
    rcases Nat.lt_or_ge k i with h | h
    ·
     omega
    have h9:=r k h;simp only [h9,Bool.not_false,Bool.toNat_true]
    omega
  have:=hl ops.size (Nat.le_refl _)
  omega
omit hS in
theorem xH(L:Nat→Bool):∀k,left L k≤k
 | 0=>by simp [left]
 | k+1=>by have:=xH L k;simp only [left];cases L k <;> simp <;> omega
omit hS in
theorem xI(l:List Oper) (j:Nat):(Array.replicate l.toArray.size false).getD j false=false:=by
 by_cases h:j<l.length <;> simp [Array.getD,h]
omit hS in
theorem WC.Hb(hQ:X=[]∨∀c a w,¬Q (.panic c) a w) (hEX:(X.all fun x=>(E x).isNone)=true) {kv:KV}{w:World}{id:Nat}{l:List Oper}
  (hS:∀i S,E i=some S→∀j S',E j=some S'→j≠i→j∉eM l.toArray i→∀v w w',C w→C w'→T j w w'→S v w→S v w') (hm:P.follows .mixedOrders=true) (f:sM l m X=true) (O:C {w with drawn:=w.drawn+1})
  (Ww:DW P l.toArray n C T E (fun kv w=>WL P l.toArray Q (l.drop m) n kv w) 0 (l.take m) kv []):WC P (.region id l.toArray true) Q n kv w:=by
 intro a0 h0;refine wp_region_any hm ?_
 have hE:∀x∈X,E x=none:=fun x hx=>by have:=List.all_eq_true.1 hEX x hx;simpa using this
 have f:=wJ f;refine G9 (J:=fun L a w=>∃aX,Inv P l.toArray n m C E a0 L aX a w) f hQ (fun L a w ⟨aX,b⟩ j p s hL r=>b.closed j p s hL r) ?_ ?_ l.toArray.size _ a0 _ (by simp) (xH _ _) (fun j _=>xI l j) ⟨fun _=>undef,O,h0.size,h0.j6,?_,fun _ _=>rfl,?_,?_⟩
 ·
  intro L a w ⟨aX,b⟩ V;obtain⟨bV,F,wh,W,H,O,_,hF,N⟩:=path hS f.toRegB h0 b (by simpa using Ww) m (Nat.le_refl _);have Nv:(l.toArray.toList.take m).drop m=[]:=List.drop_eq_nil_of_le (by simp;omega);rw [Nv] at H;refine H w b.c (G2.2 fun p r=>(N p r).2.2 (V p.1 (N p r).1)) a ⟨b.size,b.j6,fun t v hl=>?_⟩
  rcases wH m hl with⟨j,s,XP,rfl⟩ | ⟨JK,Q8⟩
  ·
   rw [W j (V j s)];exact b.here j s (V j s) t XP
  rw [b.vw t fun j s _=>JK j s];exact h0.val t v Q8
 ·
  intro L a w i o ⟨aX,b⟩ _ A B D G;obtain⟨bV,F,wh,W,H,O,_,hF,N⟩:=path hS f.toRegB h0 b (by simpa using Ww) i (by omega)
  have Jl:l[i]?=some o:=by simpa using B
  have hlen:i<(l.take m).length:=by have:=(List.getElem?_eq_some_iff.1 Jl).1;simp;omega
  have G6:(l.take m).drop i=o::(l.take m).drop (i+1):=by
   rw [List.drop_eq_getElem_cons hlen]
   congr 1
   have:(l.take m)[i]?=some o:=by rw [List.getElem?_take,if_pos A];exact Jl
   rw [List.getElem?_eq_getElem hlen] at this
   simpa using this
  rw [show l.toArray.toList=l from rfl,G6] at H;obtain⟨pT,Y,mw⟩:=H
  have I:=zt (bV:=bV) f.toRegB h0 (b.now f.toRegB A B D G) A B fun k hk=>W k (G k hk)
  rcases mw with⟨M,_⟩ | ⟨M,hk,z,e,jl,_⟩ | ⟨M,hk,S,z,G7,_⟩
  ·
   have hw:=I.wanted M;exact .inl ⟨hw,_,b.put f.toRegB A B D G Y b.c (fun _ _ _ _ _ _ h=>h) (fun _=>rfl) (fun h=>by rw [hw] at h;cases h) (fun S h=>by rw [hw] at h;cases h)⟩
  ·
   have hw:=I.wanted M;have hr:=jl w b.c;rw [← I.exec pT hk] at hr;refine .inr ⟨hw,?_,fun _=>⟨e,hr⟩⟩;rw [hr];exact⟨_,b.put f.toRegB A B D G Y b.c (fun _ _ _ _ _ _ h=>h) (fun h=>by rw [hw] at h;cases h) (fun _ _=>⟨w,b.c,hr⟩) (fun S _ h=>by rw [z] at h;cases h)⟩
  have hw:=I.wanted M;refine .inr ⟨hw,?_,fun hX=>by rw [hE i hX] at z;cases z⟩;rw [I.exec pT hk];refine(G7 w b.c (D4 fun p r hm=>(N p r).2.2 (G p.1 hm))).mono fun v w' ⟨hC',hT,Wx⟩=>?_
  exact⟨_,b.put f.toRegB A B D G Y hC' (fun j S' u qM Z hE2 h=>hS j S' hE2 i S z (fun e=>by subst e;rw [D] at Z;cases Z) (fun hm=>by
   obtain⟨p,r⟩:∃p,l.toArray[j]?=some p:=⟨l.toArray[j]'(by have:=f.le;omega),by simp⟩;simp only [eM,r] at hm;have h3:=b.closed j p qM Z r i hm;simp only [D] at h3
   cases h3) u w w' b.c hC' hT h) (fun h=>by rw [hw] at h;cases h) (fun _ h=>by rw [z] at h;cases h) (fun S' _ h=>by rw [z] at h;simp at h;subst h;exact Wx)⟩
 all_goals (intro j;intros;rename_i h _ ;first | (have:=xI l j;simp_all;done) | skip)
omit hS in
theorem WC.drawn{kv:KV}{w:World}{id:Nat}{l:List Oper}
  (hS:∀i S,E i=some S→∀j S',E j=some S'→j≠i→j∉eM l.toArray i→∀v w w',C w→C w'→T j w w'→S v w→S v w') (hm:P.follows .mixedOrders=true) (a:sM l m []=true) (b:C {w with drawn:=w.drawn+1})
  (c:DW P l.toArray n C T E (fun kv w=>WL P l.toArray Q (l.drop m) n kv w) 0 (l.take m) kv []):WC P (.region id l.toArray true) Q n kv w:=WC.Hb (.inl rfl) rfl hS hm a b c
omit hS in
theorem WC.D5(b:(X.all fun x=>(E x).isNone)=true) {kv:KV}{w:World}{id:Nat}{l:List Oper}
  (hS:∀i S,E i=some S→∀j S',E j=some S'→j≠i→j∉eM l.toArray i→∀v w w',C w→C w'→T j w w'→S v w→S v w') (hm:P.follows .mixedOrders=true) (e:sM l m X=true) (f:C {w with drawn:=w.drawn+1})
  (r:DW P l.toArray n C T E (fun kv w=>WL P l.toArray (NP Q) (l.drop m) n kv w) 0 (l.take m) kv []):WC P (.region id l.toArray true) Q n kv w:=
 fun a s=>wp_mono (WC.Hb (.inr fun c _ _ h=>h.1 c rfl) b hS hm e f r a s) fun _ _ _ h=>h.2
end
/-! ### the walk of such a region -/
def bK:List (Nat × (Value→World→Prop))→Nat→Option (Value→World→Prop)
 | [],_=>none
 | (j,S)::r,i=>match Nat.beq j i with
  | true=>some S
  | false=>bK r i
section
variable {P:Program}{ops:Array Oper}{n i:Nat}{C:World→Prop}{T:Nat→World→World→Prop}{E:Nat→Option (Value→World→Prop)}{Fin:KV→World→Prop}
variable {rest:List Oper}{kv:KV}{F:jF}{d:Tmp}{op:Op}{ty:TypeId}{pos:String}{af:Array Edge}{g:Option (Nat × Bool)}
theorem DW.p{v:Value}(a:gd ops kv ⟨some d,op,ty,pos,af,g⟩=some true) (b:a7 op=false) (hk:known kv op=true) (c:Nat.blt d n=true) (e:E i=none) (h:∀w,C w→PV P op ty kv w v)
  (next:DW P ops n C T E Fin (i+1) rest ((d,v)::kv) F):DW P ops n C T E Fin i (⟨some d,op,ty,pos,af,g⟩::rest) kv F:=
 ⟨b,c,.inr (.inl ⟨a,hk,e,v,fun w hw=>(h w hw).2.2 _ _ _ _,next⟩)⟩
theorem DW.no(a:gd ops kv ⟨some d,op,ty,pos,af,g⟩=some false) (b:a7 op=false) (c:Nat.blt d n=true)
  (next:DW P ops n C T E Fin (i+1) rest ((d,undef)::kv) F):DW P ops n C T E Fin i (⟨some d,op,ty,pos,af,g⟩::rest) kv F:=
 ⟨b,c,.inl ⟨a,next⟩⟩
theorem DW.e{S:Value→World→Prop}(c:gd ops kv ⟨some d,op,ty,pos,af,g⟩=some true) (f:a7 op=false) (hk:known kv op=true) (l:Nat.blt d n=true) (r:E i=some S)
  (h:∀w,C w→zo (cR ⟨some d,op,ty,pos,af,g⟩) F w→OX P ⟨some d,op,ty,pos,af,g⟩ n kv w fun t w'=>C w'∧T i w w'∧∃v,t=(d,v)::kv∧S v w')
  (next:∀v w,C w→S v w→DW P ops n C T E Fin (i+1) rest ((d,v)::kv) ((i,S v)::F)):DW P ops n C T E Fin i (⟨some d,op,ty,pos,af,g⟩::rest) kv F:=by
 refine⟨f,l,.inr (.inr ⟨c,hk,S,r,fun w hw z=>?_,next⟩)⟩;refine(h w hw z).2.2.2.mono fun v w' ⟨a,b,u,e,s⟩=>?_;simp only [kR,List.cons.injEq,Prod.mk.injEq,true_and,and_true] at e;subst e;exact⟨a,b,s⟩
theorem DW.e0{S:Value→World→Prop}(c:gd ops kv ⟨none,op,ty,pos,af,g⟩=some true) (e:a7 op=false) (hk:known kv op=true) (f:E i=some S)
  (h:∀w,C w→zo (cR ⟨none,op,ty,pos,af,g⟩) F w→OX P ⟨none,op,ty,pos,af,g⟩ n kv w fun _ w'=>C w'∧T i w w'∧∀v,S v w')
  (next:∀v w,C w→S v w→DW P ops n C T E Fin (i+1) rest kv ((i,S v)::F)):DW P ops n C T E Fin i (⟨none,op,ty,pos,af,g⟩::rest) kv F:=
 ⟨e,rfl,.inr (.inr ⟨c,hk,S,f,fun w hw l=>(h w hw l).2.2.2.mono fun v w' ⟨a,b,s⟩=>⟨a,b,s v⟩,next⟩)⟩
theorem DW.nil(h:∀w,C w→Cb F w→Fin kv w):DW P ops n C T E Fin i [] kv F:=h
end
end Go.Rc

namespace Go.Rc
open Go
theorem bX{P:Program}{T f off s:Nat}{fs:Array Field}{fd:Field}(hu:P.underlying T=some (.struct fs)) (a:fs[f]?=some fd) (c:∀w,(sizeOf fd.type).run P w=.ok s w) (h0:s≠0) (e:fd.offset=off) :
  FA P T f off:=by
 intro b o w;subst e
 simp [Instr.fieldAt,run_underlying hu,a,Instr.sureAddr,fieldPlace,c,h0,Addr.sK]
end Go.Rc

